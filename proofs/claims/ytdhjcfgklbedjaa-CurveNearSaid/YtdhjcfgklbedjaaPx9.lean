/- Printed by printx.py (wip/tool) out of the translation: plain functions that tell what the program answers, and the proofs that the program comes to these answers, for all arguments of their kinds. Lean checks it. -/
import Derived.Test.YtdhjcfgklbedjaaPx0
import Derived.Test.YtdhjcfgklbedjaaPx2
import Derived.Test.YtdhjcfgklbedjaaPx4
import Derived.Test.YtdhjcfgklbedjaaPx5
import Derived.Test.YtdhjcfgklbedjaaPx8
namespace Go.Proofs.Ytdhjcfgklbedjaa.P
open Go.RowKit Go.Proofs.YtdhjcfgklbedjaaW.PrintWords Go.Proofs.YtdhjcfgklbedjaaW.PrintLast Go.Proofs.YtdhjcfgklbedjaaW.PrintMore
attribute [local go_sem] max2_int min2_int max_two min_two max_three min_three max_four min_four max_five min_five max_six min_six   -- for this text's walks alone
set_option linter.unusedVariables false
set_option linter.unusedSimpArgs false

/-! ### celluloidlaw16_CurveNear: function 5 -/
mutual
def celluloidlaw16_CurveNear.j0 : Nat → Bool → Int → Int → Int → Int → Int → Int → Option (Bool)
 | 0, _, _, _, _, _, _, _ => none
 | k + 1, x60, x234000, x234001, x235000, x235001, x236000, x236001 => if x60 = true then ((celluloidlaw16_awake.f k).bind fun t238 => (some t238)) else ((curve_Flat.f k x234000 x234001 x235000 x235001 x236000 x236001).bind fun t239 => (celluloidlaw16_CurveNear.l0 k (t239.length : Int) t239 (t239.length : Int) 0 x234000 x234001 x235000 x235001 x236000 x236001 x234000 x234001))
def celluloidlaw16_CurveNear.l0 : Nat → Int → List (S23) → Int → Int → Int → Int → Int → Int → Int → Int → Int → Int → Option (Bool)
 | 0, _, _, _, _, _, _, _, _, _, _, _, _ => none
 | k + 1, x8, x69, x70, x71, x234000, x234001, x235000, x235001, x236000, x236001, x243000, x243001 => if x71 < x70 then (if 0 ≤ x71 then (if x71 < (x69.length : Int) then ((celluloidlaw16_way.f x234000 x235000 x236000 (wrap64 ((wrap64 (2 * x71)) + 2)) (wrap64 (2 * x8))).bind fun t246 => ((celluloidlaw16_way.f x234001 x235001 x236001 (wrap64 ((wrap64 (2 * x71)) + 2)) (wrap64 (2 * x8))).bind fun t247 => ((celluloidlaw16_way.f x234000 x235000 x236000 (wrap64 ((wrap64 (2 * x71)) + 1)) (wrap64 (2 * x8))).bind fun t248 => ((celluloidlaw16_way.f x234001 x235001 x236001 (wrap64 ((wrap64 (2 * x71)) + 1)) (wrap64 (2 * x8))).bind fun t249 => ((celluloidlaw16_beside.f (wrap64 (((rd_T23 x69 x71).f0) * (wrap64 ((wrap64 (4 * x8)) * x8)))) t246 (wrap64 ((wrap64 (4 * x8)) * x8))).bind fun t250 => (if t250 = true then (celluloidlaw16_CurveNear.j2 k x8 x69 x70 x71 true x234000 x234001 x235000 x235001 x236000 x236001 ((rd_T23 x69 x71).f0) ((rd_T23 x69 x71).f1)) else ((celluloidlaw16_beside.f (wrap64 (((rd_T23 x69 x71).f1) * (wrap64 ((wrap64 (4 * x8)) * x8)))) t247 (wrap64 ((wrap64 (4 * x8)) * x8))).bind fun t251 => (if t251 = true then (celluloidlaw16_CurveNear.j2 k x8 x69 x70 x71 true x234000 x234001 x235000 x235001 x236000 x236001 ((rd_T23 x69 x71).f0) ((rd_T23 x69 x71).f1)) else ((celluloidlaw16_beside.f (wrap64 (Int.tdiv (wrap64 ((wrap64 (((rd_T23 x69 x71).f0) + x243000)) * (wrap64 ((wrap64 (4 * x8)) * x8)))) 2)) t248 (wrap64 (3 * (wrap64 ((wrap64 (4 * x8)) * x8))))).bind fun t252 => (if t252 = true then (celluloidlaw16_CurveNear.j2 k x8 x69 x70 x71 true x234000 x234001 x235000 x235001 x236000 x236001 ((rd_T23 x69 x71).f0) ((rd_T23 x69 x71).f1)) else ((celluloidlaw16_beside.f (wrap64 (Int.tdiv (wrap64 ((wrap64 (((rd_T23 x69 x71).f1) + x243001)) * (wrap64 ((wrap64 (4 * x8)) * x8)))) 2)) t249 (wrap64 (3 * (wrap64 ((wrap64 (4 * x8)) * x8))))).bind fun t253 => (celluloidlaw16_CurveNear.j2 k x8 x69 x70 x71 t253 x234000 x234001 x235000 x235001 x236000 x236001 ((rd_T23 x69 x71).f0) ((rd_T23 x69 x71).f1))))))))))))) else (none)) else (none)) else (if x8 > 0 then ((celluloidlaw16_awake.f k).bind fun t243 => (some t243)) else (some false))
def celluloidlaw16_CurveNear.j2 : Nat → Int → List (S23) → Int → Int → Bool → Int → Int → Int → Int → Int → Int → Int → Int → Option (Bool)
 | 0, _, _, _, _, _, _, _, _, _, _, _, _, _ => none
 | k + 1, x8, x69, x70, x71, x171, x234000, x234001, x235000, x235001, x236000, x236001, x246000, x246001 => if x171 = true then (some false) else (celluloidlaw16_CurveNear.l0 k x8 x69 x70 (wrap64 (x71 + 1)) x234000 x234001 x235000 x235001 x236000 x236001 x246000 x246001)
end
def celluloidlaw16_CurveNear.f (k : Nat) (a0_0 : Int) (a0_1 : Int) (a1_0 : Int) (a1_1 : Int) (a2_0 : Int) (a2_1 : Int) : Option (Bool) := (celluloidlaw16_right.f k a0_0 a0_1 a1_0 a1_1 a2_0 a2_1).bind fun t236 => (if t236 = true then (if (mx (mx (mx (mx (mx a0_0 a1_0) a2_0) a0_1) a1_1) a2_1) > 1048576 then (celluloidlaw16_CurveNear.j0 k true a0_0 a0_1 a1_0 a1_1 a2_0 a2_1) else (if (mn (mn (mn (mn (mn a0_0 a1_0) a2_0) a0_1) a1_1) a2_1) < (-1048576) then (celluloidlaw16_CurveNear.j0 k true a0_0 a0_1 a1_0 a1_1 a2_0 a2_1) else ((curve_Bend.f a0_0 a0_1 a1_0 a1_1 a2_0 a2_1).bind fun t237 => (celluloidlaw16_CurveNear.j0 k (decide (t237 > 8192)) a0_0 a0_1 a1_0 a1_1 a2_0 a2_1)))) else (celluloidlaw16_CurveNear.j0 k true a0_0 a0_1 a1_0 a1_1 a2_0 a2_1))
theorem celluloidlaw16_CurveNear.mono_l : ∀ k, (∀ y0 y1 y2 y3 y4 y5 y6, LeO (celluloidlaw16_CurveNear.j0 k y0 y1 y2 y3 y4 y5 y6) (celluloidlaw16_CurveNear.j0 (k + 1) y0 y1 y2 y3 y4 y5 y6)) ∧ (∀ y0 y1 y2 y3 y4 y5 y6 y7 y8 y9 y10 y11, LeO (celluloidlaw16_CurveNear.l0 k y0 y1 y2 y3 y4 y5 y6 y7 y8 y9 y10 y11) (celluloidlaw16_CurveNear.l0 (k + 1) y0 y1 y2 y3 y4 y5 y6 y7 y8 y9 y10 y11)) ∧ (∀ y0 y1 y2 y3 y4 y5 y6 y7 y8 y9 y10 y11 y12, LeO (celluloidlaw16_CurveNear.j2 k y0 y1 y2 y3 y4 y5 y6 y7 y8 y9 y10 y11 y12) (celluloidlaw16_CurveNear.j2 (k + 1) y0 y1 y2 y3 y4 y5 y6 y7 y8 y9 y10 y11 y12))
 | 0 => ⟨fun _ _ _ _ _ _ _ r h => by simp [celluloidlaw16_CurveNear.j0] at h, fun _ _ _ _ _ _ _ _ _ _ _ _ r h => by simp [celluloidlaw16_CurveNear.l0] at h, fun _ _ _ _ _ _ _ _ _ _ _ _ _ r h => by simp [celluloidlaw16_CurveNear.j2] at h⟩
 | k + 1 => by
  obtain ⟨ih0, ih1, ih2⟩ := celluloidlaw16_CurveNear.mono_l k
  refine ⟨?_, ?_, ?_⟩
  ·intro y0 y1 y2 y3 y4 y5 y6
   unfold celluloidlaw16_CurveNear.j0
   repeat' first
   | (with_reducible exact ih0 _ _ _ _ _ _ _)
   | (with_reducible exact ih1 _ _ _ _ _ _ _ _ _ _ _ _)
   | (with_reducible exact ih2 _ _ _ _ _ _ _ _ _ _ _ _ _)
   | (with_reducible exact celluloidlaw16_awake.mono _)
   | (with_reducible exact celluloidlaw16_right.mono _ _ _ _ _ _ _)
   | (with_reducible exact curve_Flat.mono _ _ _ _ _ _ _)
   | (with_reducible exact LeO.refl _)
   | (with_reducible exact LeO.none _)
   | (with_reducible refine LeO.ite ?_ ?_)
   | (with_reducible refine LeO.bind ?_ (fun _ => ?_))
   | exact ih0 _ _ _ _ _ _ _
   | exact ih1 _ _ _ _ _ _ _ _ _ _ _ _
   | exact ih2 _ _ _ _ _ _ _ _ _ _ _ _ _
   | exact celluloidlaw16_awake.mono _
   | exact celluloidlaw16_right.mono _ _ _ _ _ _ _
   | exact curve_Flat.mono _ _ _ _ _ _ _
   | exact LeO.none _
   | refine LeO.ite ?_ ?_
   | refine LeO.bind ?_ (fun _ => ?_)
  ·intro y0 y1 y2 y3 y4 y5 y6 y7 y8 y9 y10 y11
   unfold celluloidlaw16_CurveNear.l0
   repeat' first
   | (with_reducible exact ih0 _ _ _ _ _ _ _)
   | (with_reducible exact ih1 _ _ _ _ _ _ _ _ _ _ _ _)
   | (with_reducible exact ih2 _ _ _ _ _ _ _ _ _ _ _ _ _)
   | (with_reducible exact celluloidlaw16_awake.mono _)
   | (with_reducible exact celluloidlaw16_right.mono _ _ _ _ _ _ _)
   | (with_reducible exact curve_Flat.mono _ _ _ _ _ _ _)
   | (with_reducible exact LeO.refl _)
   | (with_reducible exact LeO.none _)
   | (with_reducible refine LeO.ite ?_ ?_)
   | (with_reducible refine LeO.bind ?_ (fun _ => ?_))
   | exact ih0 _ _ _ _ _ _ _
   | exact ih1 _ _ _ _ _ _ _ _ _ _ _ _
   | exact ih2 _ _ _ _ _ _ _ _ _ _ _ _ _
   | exact celluloidlaw16_awake.mono _
   | exact celluloidlaw16_right.mono _ _ _ _ _ _ _
   | exact curve_Flat.mono _ _ _ _ _ _ _
   | exact LeO.none _
   | refine LeO.ite ?_ ?_
   | refine LeO.bind ?_ (fun _ => ?_)
  ·intro y0 y1 y2 y3 y4 y5 y6 y7 y8 y9 y10 y11 y12
   unfold celluloidlaw16_CurveNear.j2
   repeat' first
   | (with_reducible exact ih0 _ _ _ _ _ _ _)
   | (with_reducible exact ih1 _ _ _ _ _ _ _ _ _ _ _ _)
   | (with_reducible exact ih2 _ _ _ _ _ _ _ _ _ _ _ _ _)
   | (with_reducible exact celluloidlaw16_awake.mono _)
   | (with_reducible exact celluloidlaw16_right.mono _ _ _ _ _ _ _)
   | (with_reducible exact curve_Flat.mono _ _ _ _ _ _ _)
   | (with_reducible exact LeO.refl _)
   | (with_reducible exact LeO.none _)
   | (with_reducible refine LeO.ite ?_ ?_)
   | (with_reducible refine LeO.bind ?_ (fun _ => ?_))
   | exact ih0 _ _ _ _ _ _ _
   | exact ih1 _ _ _ _ _ _ _ _ _ _ _ _
   | exact ih2 _ _ _ _ _ _ _ _ _ _ _ _ _
   | exact celluloidlaw16_awake.mono _
   | exact celluloidlaw16_right.mono _ _ _ _ _ _ _
   | exact curve_Flat.mono _ _ _ _ _ _ _
   | exact LeO.none _
   | refine LeO.ite ?_ ?_
   | refine LeO.bind ?_ (fun _ => ?_)
theorem celluloidlaw16_CurveNear.mono : ∀ a0 a1 a2 a3 a4 a5 k, LeO (celluloidlaw16_CurveNear.f k a0 a1 a2 a3 a4 a5) (celluloidlaw16_CurveNear.f (k + 1) a0 a1 a2 a3 a4 a5) := by
 intro a0 a1 a2 a3 a4 a5 k
 obtain ⟨ih0, ih1, ih2⟩ := celluloidlaw16_CurveNear.mono_l k
 unfold celluloidlaw16_CurveNear.f
 repeat' first
   | (with_reducible exact ih0 _ _ _ _ _ _ _)
   | (with_reducible exact ih1 _ _ _ _ _ _ _ _ _ _ _ _)
   | (with_reducible exact ih2 _ _ _ _ _ _ _ _ _ _ _ _ _)
   | (with_reducible exact celluloidlaw16_awake.mono _)
   | (with_reducible exact celluloidlaw16_right.mono _ _ _ _ _ _ _)
   | (with_reducible exact curve_Flat.mono _ _ _ _ _ _ _)
   | (with_reducible exact LeO.refl _)
   | (with_reducible exact LeO.none _)
   | (with_reducible refine LeO.ite ?_ ?_)
   | (with_reducible refine LeO.bind ?_ (fun _ => ?_))
   | exact ih0 _ _ _ _ _ _ _
   | exact ih1 _ _ _ _ _ _ _ _ _ _ _ _
   | exact ih2 _ _ _ _ _ _ _ _ _ _ _ _ _
   | exact celluloidlaw16_awake.mono _
   | exact celluloidlaw16_right.mono _ _ _ _ _ _ _
   | exact curve_Flat.mono _ _ _ _ _ _ _
   | exact LeO.none _
   | refine LeO.ite ?_ ?_
   | refine LeO.bind ?_ (fun _ => ?_)
set_option maxHeartbeats 8000000 in
set_option maxRecDepth 100000 in
theorem celluloidlaw16_CurveNear.calls (k : Nat) (a0_0 : Int) (a0_1 : Int) (a1_0 : Int) (a1_1 : Int) (a2_0 : Int) (a2_1 : Int) (r : Bool) (w : World) (h : celluloidlaw16_CurveNear.f k a0_0 a0_1 a1_0 a1_1 a2_0 a2_1 = some r) :
  Calls Try.prog 5 #[.agg #[.int .i64 a0_0, .int .i64 a0_1], .agg #[.int .i64 a1_0, .int .i64 a1_1], .agg #[.int .i64 a2_0, .int .i64 a2_1]] w fun e w' => e = .returned (.bool r) ∧ Below w.heap.size w w' := by
 have hu23 := Try.underlying23
 have HB := Aside0.mk (Below.refl w.heap.size w)
 have H : ((celluloidlaw16_right.f k a0_0 a0_1 a1_0 a1_1 a2_0 a2_1).bind fun t236 => (if t236 = true then (if (mx (mx (mx (mx (mx a0_0 a1_0) a2_0) a0_1) a1_1) a2_1) > 1048576 then (celluloidlaw16_CurveNear.j0 k true a0_0 a0_1 a1_0 a1_1 a2_0 a2_1) else (if (mn (mn (mn (mn (mn a0_0 a1_0) a2_0) a0_1) a1_1) a2_1) < (-1048576) then (celluloidlaw16_CurveNear.j0 k true a0_0 a0_1 a1_0 a1_1 a2_0 a2_1) else ((curve_Bend.f a0_0 a0_1 a1_0 a1_1 a2_0 a2_1).bind fun t237 => (celluloidlaw16_CurveNear.j0 k (decide (t237 > 8192)) a0_0 a0_1 a1_0 a1_1 a2_0 a2_1)))) else (celluloidlaw16_CurveNear.j0 k true a0_0 a0_1 a1_0 a1_1 a2_0 a2_1))) = some r := h
 clear h
 have HC4 := Aside0.mk H
 clear H
 go_enter Try.func5, Try.ntmps5
 go_upto_region 1 with (first | ((with_reducible refine gate_dst (N := 3) rfl ?_); (try (refine gate_guard (by rfl) ?_; dsimp only)); refine box_event ?hg (N := 3) ?hd (cs := #[.int .i64 a0_0, .int .i64 a0_1]) (t := 23) ?hr ?_; (case hd => rfl); (case hg => rfl); (case hr => first | (go_simp; done) | (go_simp; rfl)); intro gb233 hg w5 hbox hb; have n0_ := Aside0.mk (below_step (by repeat (first | (with_reducible first | exact HB.out | apply below_alloc | apply pw_below_drewN | apply below_drew1) | exact HB.out)) hb); have n1_ := Aside0.mk (hbox); have n2_ := Aside0.mk ((by rw [hg]; exact (below_size (by repeat (first | (with_reducible first | exact HB.out | apply below_alloc | apply pw_below_drewN | apply below_drew1) | exact HB.out))) : w.heap.size ≤ gb233)); have n3_ := Aside0.mk ((by rw [hg]; exact (below_size (by repeat (first | (with_reducible first | exact HB.out | apply below_alloc | apply pw_below_drewN | apply below_drew1) | exact HB.out))) : w.heap.size ≤ gb233)); clear HB; have HB := n0_; have BK233 := n1_; have GW233 := n2_; have GE233 := n3_; clear n0_ n1_ n2_ n3_; clear hb hbox hg) | ((with_reducible refine gate_dst (N := 4) rfl ?_); (try (refine gate_guard (by rfl) ?_; dsimp only)); refine box_event ?hg (N := 4) ?hd (cs := #[.int .i64 a1_0, .int .i64 a1_1]) (t := 23) ?hr ?_; (case hd => rfl); (case hg => rfl); (case hr => first | (go_simp; done) | (go_simp; rfl)); intro gb234 hg w6 hbox hb; have n0_ := Aside0.mk (blk_below (g := gb233) (o := .cells #[.int .i64 a0_0, .int .i64 a0_1] 23 (0, 0)) (by (with_reducible repeat (first | refine blk_drewN ?_ _ | refine blk_drew ?_ | refine blk_alloc ?_ _)); exact BK233.out) hb); have n1_ := Aside0.mk (below_step (by repeat (first | (with_reducible first | exact HB.out | apply below_alloc | apply pw_below_drewN | apply below_drew1 | refine below_set ?_ GE233.out) | exact HB.out)) hb); have n2_ := Aside0.mk (hbox); have n3_ := Aside0.mk ((by rw [hg]; exact (below_size (by repeat (first | (with_reducible first | exact HB.out | apply below_alloc | apply pw_below_drewN | apply below_drew1 | refine below_set ?_ GE233.out) | exact HB.out))) : w.heap.size ≤ gb234)); have n4_ := Aside0.mk ((by rw [hg]; exact (below_size (by repeat (first | (with_reducible first | exact HB.out | apply below_alloc | apply pw_below_drewN | apply below_drew1 | refine below_set ?_ GE233.out) | exact HB.out))) : w.heap.size ≤ gb234)); have n5_ := Aside0.mk ((by rw [hg]; exact Nat.ne_of_lt (blk_lt (g := gb233) (o := .cells #[.int .i64 a0_0, .int .i64 a0_1] 23 (0, 0)) (by (with_reducible repeat (first | refine blk_drewN ?_ _ | refine blk_drew ?_ | refine blk_alloc ?_ _)); exact BK233.out)) : gb233 ≠ gb234)); have n6_ := Aside0.mk ((by rw [hg]; exact Nat.ne_of_gt (blk_lt (g := gb233) (o := .cells #[.int .i64 a0_0, .int .i64 a0_1] 23 (0, 0)) (by (with_reducible repeat (first | refine blk_drewN ?_ _ | refine blk_drew ?_ | refine blk_alloc ?_ _)); exact BK233.out)) : gb234 ≠ gb233)); clear BK233; clear HB; have BK233 := n0_; have HB := n1_; have BK234 := n2_; have GW234 := n3_; have GE234 := n4_; have NB233_234 := n5_; have NB234_233 := n6_; clear n0_ n1_ n2_ n3_ n4_ n5_ n6_; clear hb hbox hg) | ((with_reducible refine gate_dst (N := 5) rfl ?_); (try (refine gate_guard (by rfl) ?_; dsimp only)); refine box_event ?hg (N := 5) ?hd (cs := #[.int .i64 a2_0, .int .i64 a2_1]) (t := 23) ?hr ?_; (case hd => rfl); (case hg => rfl); (case hr => first | (go_simp; done) | (go_simp; rfl)); intro gb235 hg w7 hbox hb; have n0_ := Aside0.mk (blk_below (g := gb233) (o := .cells #[.int .i64 a0_0, .int .i64 a0_1] 23 (0, 0)) (by (with_reducible repeat (first | refine blk_drewN ?_ _ | refine blk_drew ?_ | refine blk_alloc ?_ _)); exact BK233.out) hb); have n1_ := Aside0.mk (blk_below (g := gb234) (o := .cells #[.int .i64 a1_0, .int .i64 a1_1] 23 (0, 0)) (by (with_reducible repeat (first | refine blk_drewN ?_ _ | refine blk_drew ?_ | refine blk_alloc ?_ _)); exact BK234.out) hb); have n2_ := Aside0.mk (below_step (by repeat (first | (with_reducible first | exact HB.out | apply below_alloc | apply pw_below_drewN | apply below_drew1 | refine below_set ?_ GE233.out | refine below_set ?_ GE234.out) | exact HB.out)) hb); have n3_ := Aside0.mk (hbox); have n4_ := Aside0.mk ((by rw [hg]; exact (below_size (by repeat (first | (with_reducible first | exact HB.out | apply below_alloc | apply pw_below_drewN | apply below_drew1 | refine below_set ?_ GE233.out | refine below_set ?_ GE234.out) | exact HB.out))) : w.heap.size ≤ gb235)); have n5_ := Aside0.mk ((by rw [hg]; exact (below_size (by repeat (first | (with_reducible first | exact HB.out | apply below_alloc | apply pw_below_drewN | apply below_drew1 | refine below_set ?_ GE233.out | refine below_set ?_ GE234.out) | exact HB.out))) : w.heap.size ≤ gb235)); have n6_ := Aside0.mk ((by rw [hg]; exact Nat.ne_of_lt (blk_lt (g := gb233) (o := .cells #[.int .i64 a0_0, .int .i64 a0_1] 23 (0, 0)) (by (with_reducible repeat (first | refine blk_drewN ?_ _ | refine blk_drew ?_ | refine blk_alloc ?_ _)); exact BK233.out)) : gb233 ≠ gb235)); have n7_ := Aside0.mk ((by rw [hg]; exact Nat.ne_of_gt (blk_lt (g := gb233) (o := .cells #[.int .i64 a0_0, .int .i64 a0_1] 23 (0, 0)) (by (with_reducible repeat (first | refine blk_drewN ?_ _ | refine blk_drew ?_ | refine blk_alloc ?_ _)); exact BK233.out)) : gb235 ≠ gb233)); have n8_ := Aside0.mk ((by rw [hg]; exact Nat.ne_of_lt (blk_lt (g := gb234) (o := .cells #[.int .i64 a1_0, .int .i64 a1_1] 23 (0, 0)) (by (with_reducible repeat (first | refine blk_drewN ?_ _ | refine blk_drew ?_ | refine blk_alloc ?_ _)); exact BK234.out)) : gb234 ≠ gb235)); have n9_ := Aside0.mk ((by rw [hg]; exact Nat.ne_of_gt (blk_lt (g := gb234) (o := .cells #[.int .i64 a1_0, .int .i64 a1_1] 23 (0, 0)) (by (with_reducible repeat (first | refine blk_drewN ?_ _ | refine blk_drew ?_ | refine blk_alloc ?_ _)); exact BK234.out)) : gb235 ≠ gb234)); clear BK233; clear BK234; clear HB; have BK233 := n0_; have BK234 := n1_; have HB := n2_; have BK235 := n3_; have GW235 := n4_; have GE235 := n5_; have NB233_235 := n6_; have NB235_233 := n7_; have NB234_235 := n8_; have NB235_234 := n9_; clear n0_ n1_ n2_ n3_ n4_ n5_ n6_ n7_ n8_ n9_; clear hb hbox hg))
 repeat (go_quiet (first | ((with_reducible refine gate_dst (N := 3) rfl ?_); (try (refine gate_guard (by rfl) ?_; dsimp only)); refine box_event ?hg (N := 3) ?hd (cs := #[.int .i64 a0_0, .int .i64 a0_1]) (t := 23) ?hr ?_; (case hd => rfl); (case hg => rfl); (case hr => first | (go_simp; done) | (go_simp; rfl)); intro gb233 hg w5 hbox hb; have n0_ := Aside0.mk (below_step (by repeat (first | (with_reducible first | exact HB.out | apply below_alloc | apply pw_below_drewN | apply below_drew1) | exact HB.out)) hb); have n1_ := Aside0.mk (hbox); have n2_ := Aside0.mk ((by rw [hg]; exact (below_size (by repeat (first | (with_reducible first | exact HB.out | apply below_alloc | apply pw_below_drewN | apply below_drew1) | exact HB.out))) : w.heap.size ≤ gb233)); have n3_ := Aside0.mk ((by rw [hg]; exact (below_size (by repeat (first | (with_reducible first | exact HB.out | apply below_alloc | apply pw_below_drewN | apply below_drew1) | exact HB.out))) : w.heap.size ≤ gb233)); clear HB; have HB := n0_; have BK233 := n1_; have GW233 := n2_; have GE233 := n3_; clear n0_ n1_ n2_ n3_; clear hb hbox hg) | ((with_reducible refine gate_dst (N := 4) rfl ?_); (try (refine gate_guard (by rfl) ?_; dsimp only)); refine box_event ?hg (N := 4) ?hd (cs := #[.int .i64 a1_0, .int .i64 a1_1]) (t := 23) ?hr ?_; (case hd => rfl); (case hg => rfl); (case hr => first | (go_simp; done) | (go_simp; rfl)); intro gb234 hg w6 hbox hb; have n0_ := Aside0.mk (blk_below (g := gb233) (o := .cells #[.int .i64 a0_0, .int .i64 a0_1] 23 (0, 0)) (by (with_reducible repeat (first | refine blk_drewN ?_ _ | refine blk_drew ?_ | refine blk_alloc ?_ _)); exact BK233.out) hb); have n1_ := Aside0.mk (below_step (by repeat (first | (with_reducible first | exact HB.out | apply below_alloc | apply pw_below_drewN | apply below_drew1 | refine below_set ?_ GE233.out) | exact HB.out)) hb); have n2_ := Aside0.mk (hbox); have n3_ := Aside0.mk ((by rw [hg]; exact (below_size (by repeat (first | (with_reducible first | exact HB.out | apply below_alloc | apply pw_below_drewN | apply below_drew1 | refine below_set ?_ GE233.out) | exact HB.out))) : w.heap.size ≤ gb234)); have n4_ := Aside0.mk ((by rw [hg]; exact (below_size (by repeat (first | (with_reducible first | exact HB.out | apply below_alloc | apply pw_below_drewN | apply below_drew1 | refine below_set ?_ GE233.out) | exact HB.out))) : w.heap.size ≤ gb234)); have n5_ := Aside0.mk ((by rw [hg]; exact Nat.ne_of_lt (blk_lt (g := gb233) (o := .cells #[.int .i64 a0_0, .int .i64 a0_1] 23 (0, 0)) (by (with_reducible repeat (first | refine blk_drewN ?_ _ | refine blk_drew ?_ | refine blk_alloc ?_ _)); exact BK233.out)) : gb233 ≠ gb234)); have n6_ := Aside0.mk ((by rw [hg]; exact Nat.ne_of_gt (blk_lt (g := gb233) (o := .cells #[.int .i64 a0_0, .int .i64 a0_1] 23 (0, 0)) (by (with_reducible repeat (first | refine blk_drewN ?_ _ | refine blk_drew ?_ | refine blk_alloc ?_ _)); exact BK233.out)) : gb234 ≠ gb233)); clear BK233; clear HB; have BK233 := n0_; have HB := n1_; have BK234 := n2_; have GW234 := n3_; have GE234 := n4_; have NB233_234 := n5_; have NB234_233 := n6_; clear n0_ n1_ n2_ n3_ n4_ n5_ n6_; clear hb hbox hg) | ((with_reducible refine gate_dst (N := 5) rfl ?_); (try (refine gate_guard (by rfl) ?_; dsimp only)); refine box_event ?hg (N := 5) ?hd (cs := #[.int .i64 a2_0, .int .i64 a2_1]) (t := 23) ?hr ?_; (case hd => rfl); (case hg => rfl); (case hr => first | (go_simp; done) | (go_simp; rfl)); intro gb235 hg w7 hbox hb; have n0_ := Aside0.mk (blk_below (g := gb233) (o := .cells #[.int .i64 a0_0, .int .i64 a0_1] 23 (0, 0)) (by (with_reducible repeat (first | refine blk_drewN ?_ _ | refine blk_drew ?_ | refine blk_alloc ?_ _)); exact BK233.out) hb); have n1_ := Aside0.mk (blk_below (g := gb234) (o := .cells #[.int .i64 a1_0, .int .i64 a1_1] 23 (0, 0)) (by (with_reducible repeat (first | refine blk_drewN ?_ _ | refine blk_drew ?_ | refine blk_alloc ?_ _)); exact BK234.out) hb); have n2_ := Aside0.mk (below_step (by repeat (first | (with_reducible first | exact HB.out | apply below_alloc | apply pw_below_drewN | apply below_drew1 | refine below_set ?_ GE233.out | refine below_set ?_ GE234.out) | exact HB.out)) hb); have n3_ := Aside0.mk (hbox); have n4_ := Aside0.mk ((by rw [hg]; exact (below_size (by repeat (first | (with_reducible first | exact HB.out | apply below_alloc | apply pw_below_drewN | apply below_drew1 | refine below_set ?_ GE233.out | refine below_set ?_ GE234.out) | exact HB.out))) : w.heap.size ≤ gb235)); have n5_ := Aside0.mk ((by rw [hg]; exact (below_size (by repeat (first | (with_reducible first | exact HB.out | apply below_alloc | apply pw_below_drewN | apply below_drew1 | refine below_set ?_ GE233.out | refine below_set ?_ GE234.out) | exact HB.out))) : w.heap.size ≤ gb235)); have n6_ := Aside0.mk ((by rw [hg]; exact Nat.ne_of_lt (blk_lt (g := gb233) (o := .cells #[.int .i64 a0_0, .int .i64 a0_1] 23 (0, 0)) (by (with_reducible repeat (first | refine blk_drewN ?_ _ | refine blk_drew ?_ | refine blk_alloc ?_ _)); exact BK233.out)) : gb233 ≠ gb235)); have n7_ := Aside0.mk ((by rw [hg]; exact Nat.ne_of_gt (blk_lt (g := gb233) (o := .cells #[.int .i64 a0_0, .int .i64 a0_1] 23 (0, 0)) (by (with_reducible repeat (first | refine blk_drewN ?_ _ | refine blk_drew ?_ | refine blk_alloc ?_ _)); exact BK233.out)) : gb235 ≠ gb233)); have n8_ := Aside0.mk ((by rw [hg]; exact Nat.ne_of_lt (blk_lt (g := gb234) (o := .cells #[.int .i64 a1_0, .int .i64 a1_1] 23 (0, 0)) (by (with_reducible repeat (first | refine blk_drewN ?_ _ | refine blk_drew ?_ | refine blk_alloc ?_ _)); exact BK234.out)) : gb234 ≠ gb235)); have n9_ := Aside0.mk ((by rw [hg]; exact Nat.ne_of_gt (blk_lt (g := gb234) (o := .cells #[.int .i64 a1_0, .int .i64 a1_1] 23 (0, 0)) (by (with_reducible repeat (first | refine blk_drewN ?_ _ | refine blk_drew ?_ | refine blk_alloc ?_ _)); exact BK234.out)) : gb235 ≠ gb234)); clear BK233; clear BK234; clear HB; have BK233 := n0_; have BK234 := n1_; have HB := n2_; have BK235 := n3_; have GW235 := n4_; have GE235 := n5_; have NB233_235 := n6_; have NB235_233 := n7_; have NB234_235 := n8_; have NB235_234 := n9_; clear n0_ n1_ n2_ n3_ n4_ n5_ n6_ n7_ n8_ n9_; clear hb hbox hg)); go_upto_region 1 with (first | ((with_reducible refine gate_dst (N := 3) rfl ?_); (try (refine gate_guard (by rfl) ?_; dsimp only)); refine box_event ?hg (N := 3) ?hd (cs := #[.int .i64 a0_0, .int .i64 a0_1]) (t := 23) ?hr ?_; (case hd => rfl); (case hg => rfl); (case hr => first | (go_simp; done) | (go_simp; rfl)); intro gb233 hg w5 hbox hb; have n0_ := Aside0.mk (below_step (by repeat (first | (with_reducible first | exact HB.out | apply below_alloc | apply pw_below_drewN | apply below_drew1) | exact HB.out)) hb); have n1_ := Aside0.mk (hbox); have n2_ := Aside0.mk ((by rw [hg]; exact (below_size (by repeat (first | (with_reducible first | exact HB.out | apply below_alloc | apply pw_below_drewN | apply below_drew1) | exact HB.out))) : w.heap.size ≤ gb233)); have n3_ := Aside0.mk ((by rw [hg]; exact (below_size (by repeat (first | (with_reducible first | exact HB.out | apply below_alloc | apply pw_below_drewN | apply below_drew1) | exact HB.out))) : w.heap.size ≤ gb233)); clear HB; have HB := n0_; have BK233 := n1_; have GW233 := n2_; have GE233 := n3_; clear n0_ n1_ n2_ n3_; clear hb hbox hg) | ((with_reducible refine gate_dst (N := 4) rfl ?_); (try (refine gate_guard (by rfl) ?_; dsimp only)); refine box_event ?hg (N := 4) ?hd (cs := #[.int .i64 a1_0, .int .i64 a1_1]) (t := 23) ?hr ?_; (case hd => rfl); (case hg => rfl); (case hr => first | (go_simp; done) | (go_simp; rfl)); intro gb234 hg w6 hbox hb; have n0_ := Aside0.mk (blk_below (g := gb233) (o := .cells #[.int .i64 a0_0, .int .i64 a0_1] 23 (0, 0)) (by (with_reducible repeat (first | refine blk_drewN ?_ _ | refine blk_drew ?_ | refine blk_alloc ?_ _)); exact BK233.out) hb); have n1_ := Aside0.mk (below_step (by repeat (first | (with_reducible first | exact HB.out | apply below_alloc | apply pw_below_drewN | apply below_drew1 | refine below_set ?_ GE233.out) | exact HB.out)) hb); have n2_ := Aside0.mk (hbox); have n3_ := Aside0.mk ((by rw [hg]; exact (below_size (by repeat (first | (with_reducible first | exact HB.out | apply below_alloc | apply pw_below_drewN | apply below_drew1 | refine below_set ?_ GE233.out) | exact HB.out))) : w.heap.size ≤ gb234)); have n4_ := Aside0.mk ((by rw [hg]; exact (below_size (by repeat (first | (with_reducible first | exact HB.out | apply below_alloc | apply pw_below_drewN | apply below_drew1 | refine below_set ?_ GE233.out) | exact HB.out))) : w.heap.size ≤ gb234)); have n5_ := Aside0.mk ((by rw [hg]; exact Nat.ne_of_lt (blk_lt (g := gb233) (o := .cells #[.int .i64 a0_0, .int .i64 a0_1] 23 (0, 0)) (by (with_reducible repeat (first | refine blk_drewN ?_ _ | refine blk_drew ?_ | refine blk_alloc ?_ _)); exact BK233.out)) : gb233 ≠ gb234)); have n6_ := Aside0.mk ((by rw [hg]; exact Nat.ne_of_gt (blk_lt (g := gb233) (o := .cells #[.int .i64 a0_0, .int .i64 a0_1] 23 (0, 0)) (by (with_reducible repeat (first | refine blk_drewN ?_ _ | refine blk_drew ?_ | refine blk_alloc ?_ _)); exact BK233.out)) : gb234 ≠ gb233)); clear BK233; clear HB; have BK233 := n0_; have HB := n1_; have BK234 := n2_; have GW234 := n3_; have GE234 := n4_; have NB233_234 := n5_; have NB234_233 := n6_; clear n0_ n1_ n2_ n3_ n4_ n5_ n6_; clear hb hbox hg) | ((with_reducible refine gate_dst (N := 5) rfl ?_); (try (refine gate_guard (by rfl) ?_; dsimp only)); refine box_event ?hg (N := 5) ?hd (cs := #[.int .i64 a2_0, .int .i64 a2_1]) (t := 23) ?hr ?_; (case hd => rfl); (case hg => rfl); (case hr => first | (go_simp; done) | (go_simp; rfl)); intro gb235 hg w7 hbox hb; have n0_ := Aside0.mk (blk_below (g := gb233) (o := .cells #[.int .i64 a0_0, .int .i64 a0_1] 23 (0, 0)) (by (with_reducible repeat (first | refine blk_drewN ?_ _ | refine blk_drew ?_ | refine blk_alloc ?_ _)); exact BK233.out) hb); have n1_ := Aside0.mk (blk_below (g := gb234) (o := .cells #[.int .i64 a1_0, .int .i64 a1_1] 23 (0, 0)) (by (with_reducible repeat (first | refine blk_drewN ?_ _ | refine blk_drew ?_ | refine blk_alloc ?_ _)); exact BK234.out) hb); have n2_ := Aside0.mk (below_step (by repeat (first | (with_reducible first | exact HB.out | apply below_alloc | apply pw_below_drewN | apply below_drew1 | refine below_set ?_ GE233.out | refine below_set ?_ GE234.out) | exact HB.out)) hb); have n3_ := Aside0.mk (hbox); have n4_ := Aside0.mk ((by rw [hg]; exact (below_size (by repeat (first | (with_reducible first | exact HB.out | apply below_alloc | apply pw_below_drewN | apply below_drew1 | refine below_set ?_ GE233.out | refine below_set ?_ GE234.out) | exact HB.out))) : w.heap.size ≤ gb235)); have n5_ := Aside0.mk ((by rw [hg]; exact (below_size (by repeat (first | (with_reducible first | exact HB.out | apply below_alloc | apply pw_below_drewN | apply below_drew1 | refine below_set ?_ GE233.out | refine below_set ?_ GE234.out) | exact HB.out))) : w.heap.size ≤ gb235)); have n6_ := Aside0.mk ((by rw [hg]; exact Nat.ne_of_lt (blk_lt (g := gb233) (o := .cells #[.int .i64 a0_0, .int .i64 a0_1] 23 (0, 0)) (by (with_reducible repeat (first | refine blk_drewN ?_ _ | refine blk_drew ?_ | refine blk_alloc ?_ _)); exact BK233.out)) : gb233 ≠ gb235)); have n7_ := Aside0.mk ((by rw [hg]; exact Nat.ne_of_gt (blk_lt (g := gb233) (o := .cells #[.int .i64 a0_0, .int .i64 a0_1] 23 (0, 0)) (by (with_reducible repeat (first | refine blk_drewN ?_ _ | refine blk_drew ?_ | refine blk_alloc ?_ _)); exact BK233.out)) : gb235 ≠ gb233)); have n8_ := Aside0.mk ((by rw [hg]; exact Nat.ne_of_lt (blk_lt (g := gb234) (o := .cells #[.int .i64 a1_0, .int .i64 a1_1] 23 (0, 0)) (by (with_reducible repeat (first | refine blk_drewN ?_ _ | refine blk_drew ?_ | refine blk_alloc ?_ _)); exact BK234.out)) : gb234 ≠ gb235)); have n9_ := Aside0.mk ((by rw [hg]; exact Nat.ne_of_gt (blk_lt (g := gb234) (o := .cells #[.int .i64 a1_0, .int .i64 a1_1] 23 (0, 0)) (by (with_reducible repeat (first | refine blk_drewN ?_ _ | refine blk_drew ?_ | refine blk_alloc ?_ _)); exact BK234.out)) : gb235 ≠ gb234)); clear BK233; clear BK234; clear HB; have BK233 := n0_; have BK234 := n1_; have HB := n2_; have BK235 := n3_; have GW235 := n4_; have GE235 := n5_; have NB233_235 := n6_; have NB235_233 := n7_; have NB234_235 := n8_; have NB235_234 := n9_; clear n0_ n1_ n2_ n3_ n4_ n5_ n6_ n7_ n8_ n9_; clear hb hbox hg)))
 (try simp only [Act.put, List.setIfInBounds_toArray, List.set_cons_zero, List.set_cons_succ])
 go_cut [60] (fun v60 wc => ∃ (kq : Nat) (x60_3 : Bool), v60 = .bool x60_3 ∧ Aside0 (celluloidlaw16_CurveNear.j0 kq x60_3 a0_0 a0_1 a1_0 a1_1 a2_0 a2_1 = some r) ∧ Aside0 (kq ≤ k) ∧ Aside0 (wc.heap[gb233]? = some (.cells #[.int .i64 a0_0, .int .i64 a0_1] 23 (0, 0))) ∧ Aside0 (wc.heap[gb234]? = some (.cells #[.int .i64 a1_0, .int .i64 a1_1] 23 (0, 0))) ∧ Aside0 (wc.heap[gb235]? = some (.cells #[.int .i64 a2_0, .int .i64 a2_1] 23 (0, 0))) ∧ Aside0 (Below w.heap.size w wc))
 case first =>
  have H := HC4.out
  clear HC4
  replace H := Option.bind_eq_some_iff.mp H
  obtain ⟨t236, A80, H⟩ := H
  replace H : (if t236 = true then (if (mx (mx (mx (mx (mx a0_0 a1_0) a2_0) a0_1) a1_1) a2_1) > 1048576 then (celluloidlaw16_CurveNear.j0 k true a0_0 a0_1 a1_0 a1_1 a2_0 a2_1) else (if (mn (mn (mn (mn (mn a0_0 a1_0) a2_0) a0_1) a1_1) a2_1) < (-1048576) then (celluloidlaw16_CurveNear.j0 k true a0_0 a0_1 a1_0 a1_1 a2_0 a2_1) else ((curve_Bend.f a0_0 a0_1 a1_0 a1_1 a2_0 a2_1).bind fun t237 => (celluloidlaw16_CurveNear.j0 k (decide (t237 > 8192)) a0_0 a0_1 a1_0 a1_1 a2_0 a2_1)))) else (celluloidlaw16_CurveNear.j0 k true a0_0 a0_1 a1_0 a1_1 a2_0 a2_1)) = some r := H
  have A8 := Aside0.mk A80
  clear A80
  by_cases c9 : t236 = true
  ·subst c9
   have H1 : (if (mx (mx (mx (mx (mx a0_0 a1_0) a2_0) a0_1) a1_1) a2_1) > 1048576 then (celluloidlaw16_CurveNear.j0 k true a0_0 a0_1 a1_0 a1_1 a2_0 a2_1) else (if (mn (mn (mn (mn (mn a0_0 a1_0) a2_0) a0_1) a1_1) a2_1) < (-1048576) then (celluloidlaw16_CurveNear.j0 k true a0_0 a0_1 a1_0 a1_1 a2_0 a2_1) else ((curve_Bend.f a0_0 a0_1 a1_0 a1_1 a2_0 a2_1).bind fun t237 => (celluloidlaw16_CurveNear.j0 k (decide (t237 > 8192)) a0_0 a0_1 a1_0 a1_1 a2_0 a2_1)))) = some r := by rw [if_pos rfl] at H; exact H
   clear H
   have H := H1
   clear H1
   obtain ⟨ji10, hji10⟩ : ∃ j_ : Int, (mx a0_0 a1_0) = j_ := ⟨_, rfl⟩
   replace H : (if (mx (mx (mx (mx (ji10) a2_0) a0_1) a1_1) a2_1) > 1048576 then (celluloidlaw16_CurveNear.j0 k true a0_0 a0_1 a1_0 a1_1 a2_0 a2_1) else (if (mn (mn (mn (mn (mn a0_0 a1_0) a2_0) a0_1) a1_1) a2_1) < (-1048576) then (celluloidlaw16_CurveNear.j0 k true a0_0 a0_1 a1_0 a1_1 a2_0 a2_1) else ((curve_Bend.f a0_0 a0_1 a1_0 a1_1 a2_0 a2_1).bind fun t237 => (celluloidlaw16_CurveNear.j0 k (decide (t237 > 8192)) a0_0 a0_1 a1_0 a1_1 a2_0 a2_1)))) = some r := by first | (rw [hji10] at H; exact H) | (simp only [hji10] at H ⊢; exact H)
   (try rw [hji10] at A8)
   have hji10_ : (if a0_0 < a1_0 then a1_0 else a0_0) = ji10 := hji10
   obtain ⟨ji11, hji11⟩ : ∃ j_ : Int, (mx (ji10) a2_0) = j_ := ⟨_, rfl⟩
   replace H : (if (mx (mx (mx (ji11) a0_1) a1_1) a2_1) > 1048576 then (celluloidlaw16_CurveNear.j0 k true a0_0 a0_1 a1_0 a1_1 a2_0 a2_1) else (if (mn (mn (mn (mn (mn a0_0 a1_0) a2_0) a0_1) a1_1) a2_1) < (-1048576) then (celluloidlaw16_CurveNear.j0 k true a0_0 a0_1 a1_0 a1_1 a2_0 a2_1) else ((curve_Bend.f a0_0 a0_1 a1_0 a1_1 a2_0 a2_1).bind fun t237 => (celluloidlaw16_CurveNear.j0 k (decide (t237 > 8192)) a0_0 a0_1 a1_0 a1_1 a2_0 a2_1)))) = some r := by first | (rw [hji11] at H; exact H) | (simp only [hji11] at H ⊢; exact H)
   (try rw [hji11] at A8)
   have hji11_ : (if (ji10) < a2_0 then a2_0 else (ji10)) = ji11 := hji11
   obtain ⟨ji12, hji12⟩ : ∃ j_ : Int, (mx (ji11) a0_1) = j_ := ⟨_, rfl⟩
   replace H : (if (mx (mx (ji12) a1_1) a2_1) > 1048576 then (celluloidlaw16_CurveNear.j0 k true a0_0 a0_1 a1_0 a1_1 a2_0 a2_1) else (if (mn (mn (mn (mn (mn a0_0 a1_0) a2_0) a0_1) a1_1) a2_1) < (-1048576) then (celluloidlaw16_CurveNear.j0 k true a0_0 a0_1 a1_0 a1_1 a2_0 a2_1) else ((curve_Bend.f a0_0 a0_1 a1_0 a1_1 a2_0 a2_1).bind fun t237 => (celluloidlaw16_CurveNear.j0 k (decide (t237 > 8192)) a0_0 a0_1 a1_0 a1_1 a2_0 a2_1)))) = some r := by first | (rw [hji12] at H; exact H) | (simp only [hji12] at H ⊢; exact H)
   (try rw [hji12] at A8)
   have hji12_ : (if (ji11) < a0_1 then a0_1 else (ji11)) = ji12 := hji12
   obtain ⟨ji13, hji13⟩ : ∃ j_ : Int, (mx (ji12) a1_1) = j_ := ⟨_, rfl⟩
   replace H : (if (mx (ji13) a2_1) > 1048576 then (celluloidlaw16_CurveNear.j0 k true a0_0 a0_1 a1_0 a1_1 a2_0 a2_1) else (if (mn (mn (mn (mn (mn a0_0 a1_0) a2_0) a0_1) a1_1) a2_1) < (-1048576) then (celluloidlaw16_CurveNear.j0 k true a0_0 a0_1 a1_0 a1_1 a2_0 a2_1) else ((curve_Bend.f a0_0 a0_1 a1_0 a1_1 a2_0 a2_1).bind fun t237 => (celluloidlaw16_CurveNear.j0 k (decide (t237 > 8192)) a0_0 a0_1 a1_0 a1_1 a2_0 a2_1)))) = some r := by first | (rw [hji13] at H; exact H) | (simp only [hji13] at H ⊢; exact H)
   (try rw [hji13] at A8)
   have hji13_ : (if (ji12) < a1_1 then a1_1 else (ji12)) = ji13 := hji13
   obtain ⟨ji14, hji14⟩ : ∃ j_ : Int, (mx (ji13) a2_1) = j_ := ⟨_, rfl⟩
   replace H : (if (ji14) > 1048576 then (celluloidlaw16_CurveNear.j0 k true a0_0 a0_1 a1_0 a1_1 a2_0 a2_1) else (if (mn (mn (mn (mn (mn a0_0 a1_0) a2_0) a0_1) a1_1) a2_1) < (-1048576) then (celluloidlaw16_CurveNear.j0 k true a0_0 a0_1 a1_0 a1_1 a2_0 a2_1) else ((curve_Bend.f a0_0 a0_1 a1_0 a1_1 a2_0 a2_1).bind fun t237 => (celluloidlaw16_CurveNear.j0 k (decide (t237 > 8192)) a0_0 a0_1 a1_0 a1_1 a2_0 a2_1)))) = some r := by first | (rw [hji14] at H; exact H) | (simp only [hji14] at H ⊢; exact H)
   (try rw [hji14] at A8)
   have hji14_ : (if (ji13) < a2_1 then a2_1 else (ji13)) = ji14 := hji14
   by_cases c15 : (ji14) > 1048576
   ·rw [if_pos c15] at H
    have c15b0 : decide (1048576 < (ji14)) = true := decide_eq_true c15
    clear c15
    (first | rw [c15b0] | (simp only [i64_w, i32_w]; rw [c15b0]) | skip)
    have H' := Aside0.mk H
    clear H
    have hnb16 := NB233_234.out
    have hnc16 := NB234_233.out
    have hnb17 := NB233_235.out
    have hnc17 := NB235_233.out
    have hcz18_0 : w7.cell? ⟨gb233, 0, none⟩ = some (.int .i64 a0_0) := (blk_cell BK233.out 0).trans rfl
    have hcz18_1 : w7.cell? ⟨gb233, 1, none⟩ = some (.int .i64 a0_1) := (blk_cell BK233.out 1).trans rfl
    have hfz18_0 := blk_frozen BK233.out 0
    have hfz18_1 := blk_frozen BK233.out 1
    have hnb19 := NB234_235.out
    have hnc19 := NB235_234.out
    have hcz20_0 : w7.cell? ⟨gb234, 0, none⟩ = some (.int .i64 a1_0) := (blk_cell BK234.out 0).trans rfl
    have hcz20_1 : w7.cell? ⟨gb234, 1, none⟩ = some (.int .i64 a1_1) := (blk_cell BK234.out 1).trans rfl
    have hfz20_0 := blk_frozen BK234.out 0
    have hfz20_1 := blk_frozen BK234.out 1
    have hcz21_0 : w7.cell? ⟨gb235, 0, none⟩ = some (.int .i64 a2_0) := (blk_cell BK235.out 0).trans rfl
    have hcz21_1 : w7.cell? ⟨gb235, 1, none⟩ = some (.int .i64 a2_1) := (blk_cell BK235.out 1).trans rfl
    have hfz21_0 := blk_frozen BK235.out 0
    have hfz21_1 := blk_frozen BK235.out 1
    go_wp2_with (first | (go_at_call 11; (with_reducible refine (celluloidlaw16_right.calls k a0_0 a0_1 a1_0 a1_1 a2_0 a2_1 true _ A8.out).mono ?_); rintro e w22 ⟨rfl, hb⟩; have n0_ := Aside0.mk (blk_below (g := gb233) (o := .cells #[.int .i64 a0_0, .int .i64 a0_1] 23 (0, 0)) (by (with_reducible repeat (first | refine blk_drewN ?_ _ | refine blk_drew ?_ | refine blk_alloc ?_ _)); exact BK233.out) hb); have n1_ := Aside0.mk (blk_below (g := gb234) (o := .cells #[.int .i64 a1_0, .int .i64 a1_1] 23 (0, 0)) (by (with_reducible repeat (first | refine blk_drewN ?_ _ | refine blk_drew ?_ | refine blk_alloc ?_ _)); exact BK234.out) hb); have n2_ := Aside0.mk (blk_below (g := gb235) (o := .cells #[.int .i64 a2_0, .int .i64 a2_1] 23 (0, 0)) (by (with_reducible repeat (first | refine blk_drewN ?_ _ | refine blk_drew ?_ | refine blk_alloc ?_ _)); exact BK235.out) hb); have n3_ := Aside0.mk (below_step (by repeat (first | (with_reducible first | exact HB.out | apply below_alloc | apply pw_below_drewN | apply below_drew1 | refine below_set ?_ GE233.out | refine below_set ?_ GE234.out | refine below_set ?_ GE235.out) | exact HB.out)) hb); clear BK233; clear BK234; clear BK235; clear HB; have BK233 := n0_; have BK234 := n1_; have BK235 := n2_; have HB := n3_; clear n0_ n1_ n2_ n3_; (try clear hb); (try clear hb2); (try clear hk); (try clear hi); have hcz23_0 : w22.cell? ⟨gb233, 0, none⟩ = some (.int .i64 a0_0) := (blk_cell BK233.out 0).trans rfl; have hcz23_1 : w22.cell? ⟨gb233, 1, none⟩ = some (.int .i64 a0_1) := (blk_cell BK233.out 1).trans rfl; have hfz23_0 := blk_frozen BK233.out 0; have hfz23_1 := blk_frozen BK233.out 1; have hcz24_0 : w22.cell? ⟨gb234, 0, none⟩ = some (.int .i64 a1_0) := (blk_cell BK234.out 0).trans rfl; have hcz24_1 : w22.cell? ⟨gb234, 1, none⟩ = some (.int .i64 a1_1) := (blk_cell BK234.out 1).trans rfl; have hfz24_0 := blk_frozen BK234.out 0; have hfz24_1 := blk_frozen BK234.out 1; have hcz25_0 : w22.cell? ⟨gb235, 0, none⟩ = some (.int .i64 a2_0) := (blk_cell BK235.out 0).trans rfl; have hcz25_1 : w22.cell? ⟨gb235, 1, none⟩ = some (.int .i64 a2_1) := (blk_cell BK235.out 1).trans rfl; have hfz25_0 := blk_frozen BK235.out 0; have hfz25_1 := blk_frozen BK235.out 1))
    repeat (go_quiet (first | (go_at_call 11; (with_reducible refine (celluloidlaw16_right.calls k a0_0 a0_1 a1_0 a1_1 a2_0 a2_1 true _ A8.out).mono ?_); rintro e w22 ⟨rfl, hb⟩; have n0_ := Aside0.mk (blk_below (g := gb233) (o := .cells #[.int .i64 a0_0, .int .i64 a0_1] 23 (0, 0)) (by (with_reducible repeat (first | refine blk_drewN ?_ _ | refine blk_drew ?_ | refine blk_alloc ?_ _)); exact BK233.out) hb); have n1_ := Aside0.mk (blk_below (g := gb234) (o := .cells #[.int .i64 a1_0, .int .i64 a1_1] 23 (0, 0)) (by (with_reducible repeat (first | refine blk_drewN ?_ _ | refine blk_drew ?_ | refine blk_alloc ?_ _)); exact BK234.out) hb); have n2_ := Aside0.mk (blk_below (g := gb235) (o := .cells #[.int .i64 a2_0, .int .i64 a2_1] 23 (0, 0)) (by (with_reducible repeat (first | refine blk_drewN ?_ _ | refine blk_drew ?_ | refine blk_alloc ?_ _)); exact BK235.out) hb); have n3_ := Aside0.mk (below_step (by repeat (first | (with_reducible first | exact HB.out | apply below_alloc | apply pw_below_drewN | apply below_drew1 | refine below_set ?_ GE233.out | refine below_set ?_ GE234.out | refine below_set ?_ GE235.out) | exact HB.out)) hb); clear BK233; clear BK234; clear BK235; clear HB; have BK233 := n0_; have BK234 := n1_; have BK235 := n2_; have HB := n3_; clear n0_ n1_ n2_ n3_; (try clear hb); (try clear hb2); (try clear hk); (try clear hi); have hcz23_0 : w22.cell? ⟨gb233, 0, none⟩ = some (.int .i64 a0_0) := (blk_cell BK233.out 0).trans rfl; have hcz23_1 : w22.cell? ⟨gb233, 1, none⟩ = some (.int .i64 a0_1) := (blk_cell BK233.out 1).trans rfl; have hfz23_0 := blk_frozen BK233.out 0; have hfz23_1 := blk_frozen BK233.out 1; have hcz24_0 : w22.cell? ⟨gb234, 0, none⟩ = some (.int .i64 a1_0) := (blk_cell BK234.out 0).trans rfl; have hcz24_1 : w22.cell? ⟨gb234, 1, none⟩ = some (.int .i64 a1_1) := (blk_cell BK234.out 1).trans rfl; have hfz24_0 := blk_frozen BK234.out 0; have hfz24_1 := blk_frozen BK234.out 1; have hcz25_0 : w22.cell? ⟨gb235, 0, none⟩ = some (.int .i64 a2_0) := (blk_cell BK235.out 0).trans rfl; have hcz25_1 : w22.cell? ⟨gb235, 1, none⟩ = some (.int .i64 a2_1) := (blk_cell BK235.out 1).trans rfl; have hfz25_0 := blk_frozen BK235.out 0; have hfz25_1 := blk_frozen BK235.out 1)); try go_wp2_with (first | (go_at_call 11; (with_reducible refine (celluloidlaw16_right.calls k a0_0 a0_1 a1_0 a1_1 a2_0 a2_1 true _ A8.out).mono ?_); rintro e w22 ⟨rfl, hb⟩; have n0_ := Aside0.mk (blk_below (g := gb233) (o := .cells #[.int .i64 a0_0, .int .i64 a0_1] 23 (0, 0)) (by (with_reducible repeat (first | refine blk_drewN ?_ _ | refine blk_drew ?_ | refine blk_alloc ?_ _)); exact BK233.out) hb); have n1_ := Aside0.mk (blk_below (g := gb234) (o := .cells #[.int .i64 a1_0, .int .i64 a1_1] 23 (0, 0)) (by (with_reducible repeat (first | refine blk_drewN ?_ _ | refine blk_drew ?_ | refine blk_alloc ?_ _)); exact BK234.out) hb); have n2_ := Aside0.mk (blk_below (g := gb235) (o := .cells #[.int .i64 a2_0, .int .i64 a2_1] 23 (0, 0)) (by (with_reducible repeat (first | refine blk_drewN ?_ _ | refine blk_drew ?_ | refine blk_alloc ?_ _)); exact BK235.out) hb); have n3_ := Aside0.mk (below_step (by repeat (first | (with_reducible first | exact HB.out | apply below_alloc | apply pw_below_drewN | apply below_drew1 | refine below_set ?_ GE233.out | refine below_set ?_ GE234.out | refine below_set ?_ GE235.out) | exact HB.out)) hb); clear BK233; clear BK234; clear BK235; clear HB; have BK233 := n0_; have BK234 := n1_; have BK235 := n2_; have HB := n3_; clear n0_ n1_ n2_ n3_; (try clear hb); (try clear hb2); (try clear hk); (try clear hi); have hcz23_0 : w22.cell? ⟨gb233, 0, none⟩ = some (.int .i64 a0_0) := (blk_cell BK233.out 0).trans rfl; have hcz23_1 : w22.cell? ⟨gb233, 1, none⟩ = some (.int .i64 a0_1) := (blk_cell BK233.out 1).trans rfl; have hfz23_0 := blk_frozen BK233.out 0; have hfz23_1 := blk_frozen BK233.out 1; have hcz24_0 : w22.cell? ⟨gb234, 0, none⟩ = some (.int .i64 a1_0) := (blk_cell BK234.out 0).trans rfl; have hcz24_1 : w22.cell? ⟨gb234, 1, none⟩ = some (.int .i64 a1_1) := (blk_cell BK234.out 1).trans rfl; have hfz24_0 := blk_frozen BK234.out 0; have hfz24_1 := blk_frozen BK234.out 1; have hcz25_0 : w22.cell? ⟨gb235, 0, none⟩ = some (.int .i64 a2_0) := (blk_cell BK235.out 0).trans rfl; have hcz25_1 : w22.cell? ⟨gb235, 1, none⟩ = some (.int .i64 a2_1) := (blk_cell BK235.out 1).trans rfl; have hfz25_0 := blk_frozen BK235.out 0; have hfz25_1 := blk_frozen BK235.out 1)))
    go_meet
    case rel => exact ⟨_, (true), (by first | rfl | (simp; done) | (simp [*]; done)), H', ⟨by first | omega | exact Nat.le_refl _⟩, ⟨by (with_reducible repeat (first | refine blk_drewN ?_ _ | refine blk_drew ?_ | refine blk_alloc ?_ _)); exact BK233.out⟩, ⟨by (with_reducible repeat (first | refine blk_drewN ?_ _ | refine blk_drew ?_ | refine blk_alloc ?_ _)); exact BK234.out⟩, ⟨by (with_reducible repeat (first | refine blk_drewN ?_ _ | refine blk_drew ?_ | refine blk_alloc ?_ _)); exact BK235.out⟩, ⟨by repeat (first | (with_reducible first | exact HB.out | apply below_alloc | apply pw_below_drewN | apply below_drew1 | refine below_set ?_ GE233.out | refine below_set ?_ GE234.out | refine below_set ?_ GE235.out) | exact HB.out)⟩⟩
   ·rw [if_neg c15] at H
    have c15b0 : decide (1048576 < (ji14)) = false := decide_eq_false c15
    clear c15
    (first | rw [c15b0] | (simp only [i64_w, i32_w]; rw [c15b0]) | skip)
    obtain ⟨ji26, hji26⟩ : ∃ j_ : Int, (mn a0_0 a1_0) = j_ := ⟨_, rfl⟩
    replace H : (if (mn (mn (mn (mn (ji26) a2_0) a0_1) a1_1) a2_1) < (-1048576) then (celluloidlaw16_CurveNear.j0 k true a0_0 a0_1 a1_0 a1_1 a2_0 a2_1) else ((curve_Bend.f a0_0 a0_1 a1_0 a1_1 a2_0 a2_1).bind fun t237 => (celluloidlaw16_CurveNear.j0 k (decide (t237 > 8192)) a0_0 a0_1 a1_0 a1_1 a2_0 a2_1))) = some r := by first | (rw [hji26] at H; exact H) | (simp only [hji26] at H ⊢; exact H)
    (try rw [hji26] at A8)
    have hji26_ : (if a1_0 < a0_0 then a1_0 else a0_0) = ji26 := hji26
    obtain ⟨ji27, hji27⟩ : ∃ j_ : Int, (mn (ji26) a2_0) = j_ := ⟨_, rfl⟩
    replace H : (if (mn (mn (mn (ji27) a0_1) a1_1) a2_1) < (-1048576) then (celluloidlaw16_CurveNear.j0 k true a0_0 a0_1 a1_0 a1_1 a2_0 a2_1) else ((curve_Bend.f a0_0 a0_1 a1_0 a1_1 a2_0 a2_1).bind fun t237 => (celluloidlaw16_CurveNear.j0 k (decide (t237 > 8192)) a0_0 a0_1 a1_0 a1_1 a2_0 a2_1))) = some r := by first | (rw [hji27] at H; exact H) | (simp only [hji27] at H ⊢; exact H)
    (try rw [hji27] at A8)
    have hji27_ : (if a2_0 < (ji26) then a2_0 else (ji26)) = ji27 := hji27
    obtain ⟨ji28, hji28⟩ : ∃ j_ : Int, (mn (ji27) a0_1) = j_ := ⟨_, rfl⟩
    replace H : (if (mn (mn (ji28) a1_1) a2_1) < (-1048576) then (celluloidlaw16_CurveNear.j0 k true a0_0 a0_1 a1_0 a1_1 a2_0 a2_1) else ((curve_Bend.f a0_0 a0_1 a1_0 a1_1 a2_0 a2_1).bind fun t237 => (celluloidlaw16_CurveNear.j0 k (decide (t237 > 8192)) a0_0 a0_1 a1_0 a1_1 a2_0 a2_1))) = some r := by first | (rw [hji28] at H; exact H) | (simp only [hji28] at H ⊢; exact H)
    (try rw [hji28] at A8)
    have hji28_ : (if a0_1 < (ji27) then a0_1 else (ji27)) = ji28 := hji28
    obtain ⟨ji29, hji29⟩ : ∃ j_ : Int, (mn (ji28) a1_1) = j_ := ⟨_, rfl⟩
    replace H : (if (mn (ji29) a2_1) < (-1048576) then (celluloidlaw16_CurveNear.j0 k true a0_0 a0_1 a1_0 a1_1 a2_0 a2_1) else ((curve_Bend.f a0_0 a0_1 a1_0 a1_1 a2_0 a2_1).bind fun t237 => (celluloidlaw16_CurveNear.j0 k (decide (t237 > 8192)) a0_0 a0_1 a1_0 a1_1 a2_0 a2_1))) = some r := by first | (rw [hji29] at H; exact H) | (simp only [hji29] at H ⊢; exact H)
    (try rw [hji29] at A8)
    have hji29_ : (if a1_1 < (ji28) then a1_1 else (ji28)) = ji29 := hji29
    obtain ⟨ji30, hji30⟩ : ∃ j_ : Int, (mn (ji29) a2_1) = j_ := ⟨_, rfl⟩
    replace H : (if (ji30) < (-1048576) then (celluloidlaw16_CurveNear.j0 k true a0_0 a0_1 a1_0 a1_1 a2_0 a2_1) else ((curve_Bend.f a0_0 a0_1 a1_0 a1_1 a2_0 a2_1).bind fun t237 => (celluloidlaw16_CurveNear.j0 k (decide (t237 > 8192)) a0_0 a0_1 a1_0 a1_1 a2_0 a2_1))) = some r := by first | (rw [hji30] at H; exact H) | (simp only [hji30] at H ⊢; exact H)
    (try rw [hji30] at A8)
    have hji30_ : (if a2_1 < (ji29) then a2_1 else (ji29)) = ji30 := hji30
    by_cases c31 : (ji30) < (-1048576)
    ·rw [if_pos c31] at H
     have c31b0 : decide ((ji30) < (-1048576)) = true := decide_eq_true c31
     clear c31
     have H' := Aside0.mk H
     clear H
     have hnb32 := NB233_234.out
     have hnc32 := NB234_233.out
     have hnb33 := NB233_235.out
     have hnc33 := NB235_233.out
     have hcz34_0 : w7.cell? ⟨gb233, 0, none⟩ = some (.int .i64 a0_0) := (blk_cell BK233.out 0).trans rfl
     have hcz34_1 : w7.cell? ⟨gb233, 1, none⟩ = some (.int .i64 a0_1) := (blk_cell BK233.out 1).trans rfl
     have hfz34_0 := blk_frozen BK233.out 0
     have hfz34_1 := blk_frozen BK233.out 1
     have hnb35 := NB234_235.out
     have hnc35 := NB235_234.out
     have hcz36_0 : w7.cell? ⟨gb234, 0, none⟩ = some (.int .i64 a1_0) := (blk_cell BK234.out 0).trans rfl
     have hcz36_1 : w7.cell? ⟨gb234, 1, none⟩ = some (.int .i64 a1_1) := (blk_cell BK234.out 1).trans rfl
     have hfz36_0 := blk_frozen BK234.out 0
     have hfz36_1 := blk_frozen BK234.out 1
     have hcz37_0 : w7.cell? ⟨gb235, 0, none⟩ = some (.int .i64 a2_0) := (blk_cell BK235.out 0).trans rfl
     have hcz37_1 : w7.cell? ⟨gb235, 1, none⟩ = some (.int .i64 a2_1) := (blk_cell BK235.out 1).trans rfl
     have hfz37_0 := blk_frozen BK235.out 0
     have hfz37_1 := blk_frozen BK235.out 1
     go_wp2_with (first | (go_at_call 11; (with_reducible refine (celluloidlaw16_right.calls k a0_0 a0_1 a1_0 a1_1 a2_0 a2_1 true _ A8.out).mono ?_); rintro e w38 ⟨rfl, hb⟩; have n0_ := Aside0.mk (blk_below (g := gb233) (o := .cells #[.int .i64 a0_0, .int .i64 a0_1] 23 (0, 0)) (by (with_reducible repeat (first | refine blk_drewN ?_ _ | refine blk_drew ?_ | refine blk_alloc ?_ _)); exact BK233.out) hb); have n1_ := Aside0.mk (blk_below (g := gb234) (o := .cells #[.int .i64 a1_0, .int .i64 a1_1] 23 (0, 0)) (by (with_reducible repeat (first | refine blk_drewN ?_ _ | refine blk_drew ?_ | refine blk_alloc ?_ _)); exact BK234.out) hb); have n2_ := Aside0.mk (blk_below (g := gb235) (o := .cells #[.int .i64 a2_0, .int .i64 a2_1] 23 (0, 0)) (by (with_reducible repeat (first | refine blk_drewN ?_ _ | refine blk_drew ?_ | refine blk_alloc ?_ _)); exact BK235.out) hb); have n3_ := Aside0.mk (below_step (by repeat (first | (with_reducible first | exact HB.out | apply below_alloc | apply pw_below_drewN | apply below_drew1 | refine below_set ?_ GE233.out | refine below_set ?_ GE234.out | refine below_set ?_ GE235.out) | exact HB.out)) hb); clear BK233; clear BK234; clear BK235; clear HB; have BK233 := n0_; have BK234 := n1_; have BK235 := n2_; have HB := n3_; clear n0_ n1_ n2_ n3_; (try clear hb); (try clear hb2); (try clear hk); (try clear hi); have hcz39_0 : w38.cell? ⟨gb233, 0, none⟩ = some (.int .i64 a0_0) := (blk_cell BK233.out 0).trans rfl; have hcz39_1 : w38.cell? ⟨gb233, 1, none⟩ = some (.int .i64 a0_1) := (blk_cell BK233.out 1).trans rfl; have hfz39_0 := blk_frozen BK233.out 0; have hfz39_1 := blk_frozen BK233.out 1; have hcz40_0 : w38.cell? ⟨gb234, 0, none⟩ = some (.int .i64 a1_0) := (blk_cell BK234.out 0).trans rfl; have hcz40_1 : w38.cell? ⟨gb234, 1, none⟩ = some (.int .i64 a1_1) := (blk_cell BK234.out 1).trans rfl; have hfz40_0 := blk_frozen BK234.out 0; have hfz40_1 := blk_frozen BK234.out 1; have hcz41_0 : w38.cell? ⟨gb235, 0, none⟩ = some (.int .i64 a2_0) := (blk_cell BK235.out 0).trans rfl; have hcz41_1 : w38.cell? ⟨gb235, 1, none⟩ = some (.int .i64 a2_1) := (blk_cell BK235.out 1).trans rfl; have hfz41_0 := blk_frozen BK235.out 0; have hfz41_1 := blk_frozen BK235.out 1))
     repeat (go_quiet (first | (go_at_call 11; (with_reducible refine (celluloidlaw16_right.calls k a0_0 a0_1 a1_0 a1_1 a2_0 a2_1 true _ A8.out).mono ?_); rintro e w38 ⟨rfl, hb⟩; have n0_ := Aside0.mk (blk_below (g := gb233) (o := .cells #[.int .i64 a0_0, .int .i64 a0_1] 23 (0, 0)) (by (with_reducible repeat (first | refine blk_drewN ?_ _ | refine blk_drew ?_ | refine blk_alloc ?_ _)); exact BK233.out) hb); have n1_ := Aside0.mk (blk_below (g := gb234) (o := .cells #[.int .i64 a1_0, .int .i64 a1_1] 23 (0, 0)) (by (with_reducible repeat (first | refine blk_drewN ?_ _ | refine blk_drew ?_ | refine blk_alloc ?_ _)); exact BK234.out) hb); have n2_ := Aside0.mk (blk_below (g := gb235) (o := .cells #[.int .i64 a2_0, .int .i64 a2_1] 23 (0, 0)) (by (with_reducible repeat (first | refine blk_drewN ?_ _ | refine blk_drew ?_ | refine blk_alloc ?_ _)); exact BK235.out) hb); have n3_ := Aside0.mk (below_step (by repeat (first | (with_reducible first | exact HB.out | apply below_alloc | apply pw_below_drewN | apply below_drew1 | refine below_set ?_ GE233.out | refine below_set ?_ GE234.out | refine below_set ?_ GE235.out) | exact HB.out)) hb); clear BK233; clear BK234; clear BK235; clear HB; have BK233 := n0_; have BK234 := n1_; have BK235 := n2_; have HB := n3_; clear n0_ n1_ n2_ n3_; (try clear hb); (try clear hb2); (try clear hk); (try clear hi); have hcz39_0 : w38.cell? ⟨gb233, 0, none⟩ = some (.int .i64 a0_0) := (blk_cell BK233.out 0).trans rfl; have hcz39_1 : w38.cell? ⟨gb233, 1, none⟩ = some (.int .i64 a0_1) := (blk_cell BK233.out 1).trans rfl; have hfz39_0 := blk_frozen BK233.out 0; have hfz39_1 := blk_frozen BK233.out 1; have hcz40_0 : w38.cell? ⟨gb234, 0, none⟩ = some (.int .i64 a1_0) := (blk_cell BK234.out 0).trans rfl; have hcz40_1 : w38.cell? ⟨gb234, 1, none⟩ = some (.int .i64 a1_1) := (blk_cell BK234.out 1).trans rfl; have hfz40_0 := blk_frozen BK234.out 0; have hfz40_1 := blk_frozen BK234.out 1; have hcz41_0 : w38.cell? ⟨gb235, 0, none⟩ = some (.int .i64 a2_0) := (blk_cell BK235.out 0).trans rfl; have hcz41_1 : w38.cell? ⟨gb235, 1, none⟩ = some (.int .i64 a2_1) := (blk_cell BK235.out 1).trans rfl; have hfz41_0 := blk_frozen BK235.out 0; have hfz41_1 := blk_frozen BK235.out 1)); try go_wp2_with (first | (go_at_call 11; (with_reducible refine (celluloidlaw16_right.calls k a0_0 a0_1 a1_0 a1_1 a2_0 a2_1 true _ A8.out).mono ?_); rintro e w38 ⟨rfl, hb⟩; have n0_ := Aside0.mk (blk_below (g := gb233) (o := .cells #[.int .i64 a0_0, .int .i64 a0_1] 23 (0, 0)) (by (with_reducible repeat (first | refine blk_drewN ?_ _ | refine blk_drew ?_ | refine blk_alloc ?_ _)); exact BK233.out) hb); have n1_ := Aside0.mk (blk_below (g := gb234) (o := .cells #[.int .i64 a1_0, .int .i64 a1_1] 23 (0, 0)) (by (with_reducible repeat (first | refine blk_drewN ?_ _ | refine blk_drew ?_ | refine blk_alloc ?_ _)); exact BK234.out) hb); have n2_ := Aside0.mk (blk_below (g := gb235) (o := .cells #[.int .i64 a2_0, .int .i64 a2_1] 23 (0, 0)) (by (with_reducible repeat (first | refine blk_drewN ?_ _ | refine blk_drew ?_ | refine blk_alloc ?_ _)); exact BK235.out) hb); have n3_ := Aside0.mk (below_step (by repeat (first | (with_reducible first | exact HB.out | apply below_alloc | apply pw_below_drewN | apply below_drew1 | refine below_set ?_ GE233.out | refine below_set ?_ GE234.out | refine below_set ?_ GE235.out) | exact HB.out)) hb); clear BK233; clear BK234; clear BK235; clear HB; have BK233 := n0_; have BK234 := n1_; have BK235 := n2_; have HB := n3_; clear n0_ n1_ n2_ n3_; (try clear hb); (try clear hb2); (try clear hk); (try clear hi); have hcz39_0 : w38.cell? ⟨gb233, 0, none⟩ = some (.int .i64 a0_0) := (blk_cell BK233.out 0).trans rfl; have hcz39_1 : w38.cell? ⟨gb233, 1, none⟩ = some (.int .i64 a0_1) := (blk_cell BK233.out 1).trans rfl; have hfz39_0 := blk_frozen BK233.out 0; have hfz39_1 := blk_frozen BK233.out 1; have hcz40_0 : w38.cell? ⟨gb234, 0, none⟩ = some (.int .i64 a1_0) := (blk_cell BK234.out 0).trans rfl; have hcz40_1 : w38.cell? ⟨gb234, 1, none⟩ = some (.int .i64 a1_1) := (blk_cell BK234.out 1).trans rfl; have hfz40_0 := blk_frozen BK234.out 0; have hfz40_1 := blk_frozen BK234.out 1; have hcz41_0 : w38.cell? ⟨gb235, 0, none⟩ = some (.int .i64 a2_0) := (blk_cell BK235.out 0).trans rfl; have hcz41_1 : w38.cell? ⟨gb235, 1, none⟩ = some (.int .i64 a2_1) := (blk_cell BK235.out 1).trans rfl; have hfz41_0 := blk_frozen BK235.out 0; have hfz41_1 := blk_frozen BK235.out 1)))
     go_meet
     case rel => exact ⟨_, (true), (by first | rfl | (simp; done) | (simp [*]; done)), H', ⟨by first | omega | exact Nat.le_refl _⟩, ⟨by (with_reducible repeat (first | refine blk_drewN ?_ _ | refine blk_drew ?_ | refine blk_alloc ?_ _)); exact BK233.out⟩, ⟨by (with_reducible repeat (first | refine blk_drewN ?_ _ | refine blk_drew ?_ | refine blk_alloc ?_ _)); exact BK234.out⟩, ⟨by (with_reducible repeat (first | refine blk_drewN ?_ _ | refine blk_drew ?_ | refine blk_alloc ?_ _)); exact BK235.out⟩, ⟨by repeat (first | (with_reducible first | exact HB.out | apply below_alloc | apply pw_below_drewN | apply below_drew1 | refine below_set ?_ GE233.out | refine below_set ?_ GE234.out | refine below_set ?_ GE235.out) | exact HB.out)⟩⟩
    ·rw [if_neg c31] at H
     have c31b0 : decide ((ji30) < (-1048576)) = false := decide_eq_false c31
     clear c31
     replace H := Option.bind_eq_some_iff.mp H
     obtain ⟨t237, A420, H⟩ := H
     replace H : (celluloidlaw16_CurveNear.j0 k (decide (t237 > 8192)) a0_0 a0_1 a1_0 a1_1 a2_0 a2_1) = some r := H
     have A42 := Aside0.mk A420
     clear A420
     have H' := Aside0.mk H
     clear H
     have hnb43 := NB233_234.out
     have hnc43 := NB234_233.out
     have hnb44 := NB233_235.out
     have hnc44 := NB235_233.out
     have hcz45_0 : w7.cell? ⟨gb233, 0, none⟩ = some (.int .i64 a0_0) := (blk_cell BK233.out 0).trans rfl
     have hcz45_1 : w7.cell? ⟨gb233, 1, none⟩ = some (.int .i64 a0_1) := (blk_cell BK233.out 1).trans rfl
     have hfz45_0 := blk_frozen BK233.out 0
     have hfz45_1 := blk_frozen BK233.out 1
     have hnb46 := NB234_235.out
     have hnc46 := NB235_234.out
     have hcz47_0 : w7.cell? ⟨gb234, 0, none⟩ = some (.int .i64 a1_0) := (blk_cell BK234.out 0).trans rfl
     have hcz47_1 : w7.cell? ⟨gb234, 1, none⟩ = some (.int .i64 a1_1) := (blk_cell BK234.out 1).trans rfl
     have hfz47_0 := blk_frozen BK234.out 0
     have hfz47_1 := blk_frozen BK234.out 1
     have hcz48_0 : w7.cell? ⟨gb235, 0, none⟩ = some (.int .i64 a2_0) := (blk_cell BK235.out 0).trans rfl
     have hcz48_1 : w7.cell? ⟨gb235, 1, none⟩ = some (.int .i64 a2_1) := (blk_cell BK235.out 1).trans rfl
     have hfz48_0 := blk_frozen BK235.out 0
     have hfz48_1 := blk_frozen BK235.out 1
     go_wp2_with (first | (go_at_call 11; (with_reducible refine (celluloidlaw16_right.calls k a0_0 a0_1 a1_0 a1_1 a2_0 a2_1 true _ A8.out).mono ?_); rintro e w49 ⟨rfl, hb⟩; have n0_ := Aside0.mk (blk_below (g := gb233) (o := .cells #[.int .i64 a0_0, .int .i64 a0_1] 23 (0, 0)) (by (with_reducible repeat (first | refine blk_drewN ?_ _ | refine blk_drew ?_ | refine blk_alloc ?_ _)); exact BK233.out) hb); have n1_ := Aside0.mk (blk_below (g := gb234) (o := .cells #[.int .i64 a1_0, .int .i64 a1_1] 23 (0, 0)) (by (with_reducible repeat (first | refine blk_drewN ?_ _ | refine blk_drew ?_ | refine blk_alloc ?_ _)); exact BK234.out) hb); have n2_ := Aside0.mk (blk_below (g := gb235) (o := .cells #[.int .i64 a2_0, .int .i64 a2_1] 23 (0, 0)) (by (with_reducible repeat (first | refine blk_drewN ?_ _ | refine blk_drew ?_ | refine blk_alloc ?_ _)); exact BK235.out) hb); have n3_ := Aside0.mk (below_step (by repeat (first | (with_reducible first | exact HB.out | apply below_alloc | apply pw_below_drewN | apply below_drew1 | refine below_set ?_ GE233.out | refine below_set ?_ GE234.out | refine below_set ?_ GE235.out) | exact HB.out)) hb); clear BK233; clear BK234; clear BK235; clear HB; have BK233 := n0_; have BK234 := n1_; have BK235 := n2_; have HB := n3_; clear n0_ n1_ n2_ n3_; (try clear hb); (try clear hb2); (try clear hk); (try clear hi); have hcz50_0 : w49.cell? ⟨gb233, 0, none⟩ = some (.int .i64 a0_0) := (blk_cell BK233.out 0).trans rfl; have hcz50_1 : w49.cell? ⟨gb233, 1, none⟩ = some (.int .i64 a0_1) := (blk_cell BK233.out 1).trans rfl; have hfz50_0 := blk_frozen BK233.out 0; have hfz50_1 := blk_frozen BK233.out 1; have hcz51_0 : w49.cell? ⟨gb234, 0, none⟩ = some (.int .i64 a1_0) := (blk_cell BK234.out 0).trans rfl; have hcz51_1 : w49.cell? ⟨gb234, 1, none⟩ = some (.int .i64 a1_1) := (blk_cell BK234.out 1).trans rfl; have hfz51_0 := blk_frozen BK234.out 0; have hfz51_1 := blk_frozen BK234.out 1; have hcz52_0 : w49.cell? ⟨gb235, 0, none⟩ = some (.int .i64 a2_0) := (blk_cell BK235.out 0).trans rfl; have hcz52_1 : w49.cell? ⟨gb235, 1, none⟩ = some (.int .i64 a2_1) := (blk_cell BK235.out 1).trans rfl; have hfz52_0 := blk_frozen BK235.out 0; have hfz52_1 := blk_frozen BK235.out 1) | (go_at_call 12; (with_reducible refine (curve_Bend.calls a0_0 a0_1 a1_0 a1_1 a2_0 a2_1 t237 _ A42.out).mono ?_); rintro e w53 ⟨rfl, hb⟩; have n0_ := Aside0.mk (blk_below (g := gb233) (o := .cells #[.int .i64 a0_0, .int .i64 a0_1] 23 (0, 0)) (by (with_reducible repeat (first | refine blk_drewN ?_ _ | refine blk_drew ?_ | refine blk_alloc ?_ _)); exact BK233.out) hb); have n1_ := Aside0.mk (blk_below (g := gb234) (o := .cells #[.int .i64 a1_0, .int .i64 a1_1] 23 (0, 0)) (by (with_reducible repeat (first | refine blk_drewN ?_ _ | refine blk_drew ?_ | refine blk_alloc ?_ _)); exact BK234.out) hb); have n2_ := Aside0.mk (blk_below (g := gb235) (o := .cells #[.int .i64 a2_0, .int .i64 a2_1] 23 (0, 0)) (by (with_reducible repeat (first | refine blk_drewN ?_ _ | refine blk_drew ?_ | refine blk_alloc ?_ _)); exact BK235.out) hb); have n3_ := Aside0.mk (below_step (by repeat (first | (with_reducible first | exact HB.out | apply below_alloc | apply pw_below_drewN | apply below_drew1 | refine below_set ?_ GE233.out | refine below_set ?_ GE234.out | refine below_set ?_ GE235.out) | exact HB.out)) hb); clear BK233; clear BK234; clear BK235; clear HB; have BK233 := n0_; have BK234 := n1_; have BK235 := n2_; have HB := n3_; clear n0_ n1_ n2_ n3_; (try clear hb); (try clear hb2); (try clear hk); (try clear hi)))
     repeat (go_quiet (first | (go_at_call 11; (with_reducible refine (celluloidlaw16_right.calls k a0_0 a0_1 a1_0 a1_1 a2_0 a2_1 true _ A8.out).mono ?_); rintro e w49 ⟨rfl, hb⟩; have n0_ := Aside0.mk (blk_below (g := gb233) (o := .cells #[.int .i64 a0_0, .int .i64 a0_1] 23 (0, 0)) (by (with_reducible repeat (first | refine blk_drewN ?_ _ | refine blk_drew ?_ | refine blk_alloc ?_ _)); exact BK233.out) hb); have n1_ := Aside0.mk (blk_below (g := gb234) (o := .cells #[.int .i64 a1_0, .int .i64 a1_1] 23 (0, 0)) (by (with_reducible repeat (first | refine blk_drewN ?_ _ | refine blk_drew ?_ | refine blk_alloc ?_ _)); exact BK234.out) hb); have n2_ := Aside0.mk (blk_below (g := gb235) (o := .cells #[.int .i64 a2_0, .int .i64 a2_1] 23 (0, 0)) (by (with_reducible repeat (first | refine blk_drewN ?_ _ | refine blk_drew ?_ | refine blk_alloc ?_ _)); exact BK235.out) hb); have n3_ := Aside0.mk (below_step (by repeat (first | (with_reducible first | exact HB.out | apply below_alloc | apply pw_below_drewN | apply below_drew1 | refine below_set ?_ GE233.out | refine below_set ?_ GE234.out | refine below_set ?_ GE235.out) | exact HB.out)) hb); clear BK233; clear BK234; clear BK235; clear HB; have BK233 := n0_; have BK234 := n1_; have BK235 := n2_; have HB := n3_; clear n0_ n1_ n2_ n3_; (try clear hb); (try clear hb2); (try clear hk); (try clear hi); have hcz50_0 : w49.cell? ⟨gb233, 0, none⟩ = some (.int .i64 a0_0) := (blk_cell BK233.out 0).trans rfl; have hcz50_1 : w49.cell? ⟨gb233, 1, none⟩ = some (.int .i64 a0_1) := (blk_cell BK233.out 1).trans rfl; have hfz50_0 := blk_frozen BK233.out 0; have hfz50_1 := blk_frozen BK233.out 1; have hcz51_0 : w49.cell? ⟨gb234, 0, none⟩ = some (.int .i64 a1_0) := (blk_cell BK234.out 0).trans rfl; have hcz51_1 : w49.cell? ⟨gb234, 1, none⟩ = some (.int .i64 a1_1) := (blk_cell BK234.out 1).trans rfl; have hfz51_0 := blk_frozen BK234.out 0; have hfz51_1 := blk_frozen BK234.out 1; have hcz52_0 : w49.cell? ⟨gb235, 0, none⟩ = some (.int .i64 a2_0) := (blk_cell BK235.out 0).trans rfl; have hcz52_1 : w49.cell? ⟨gb235, 1, none⟩ = some (.int .i64 a2_1) := (blk_cell BK235.out 1).trans rfl; have hfz52_0 := blk_frozen BK235.out 0; have hfz52_1 := blk_frozen BK235.out 1) | (go_at_call 12; (with_reducible refine (curve_Bend.calls a0_0 a0_1 a1_0 a1_1 a2_0 a2_1 t237 _ A42.out).mono ?_); rintro e w53 ⟨rfl, hb⟩; have n0_ := Aside0.mk (blk_below (g := gb233) (o := .cells #[.int .i64 a0_0, .int .i64 a0_1] 23 (0, 0)) (by (with_reducible repeat (first | refine blk_drewN ?_ _ | refine blk_drew ?_ | refine blk_alloc ?_ _)); exact BK233.out) hb); have n1_ := Aside0.mk (blk_below (g := gb234) (o := .cells #[.int .i64 a1_0, .int .i64 a1_1] 23 (0, 0)) (by (with_reducible repeat (first | refine blk_drewN ?_ _ | refine blk_drew ?_ | refine blk_alloc ?_ _)); exact BK234.out) hb); have n2_ := Aside0.mk (blk_below (g := gb235) (o := .cells #[.int .i64 a2_0, .int .i64 a2_1] 23 (0, 0)) (by (with_reducible repeat (first | refine blk_drewN ?_ _ | refine blk_drew ?_ | refine blk_alloc ?_ _)); exact BK235.out) hb); have n3_ := Aside0.mk (below_step (by repeat (first | (with_reducible first | exact HB.out | apply below_alloc | apply pw_below_drewN | apply below_drew1 | refine below_set ?_ GE233.out | refine below_set ?_ GE234.out | refine below_set ?_ GE235.out) | exact HB.out)) hb); clear BK233; clear BK234; clear BK235; clear HB; have BK233 := n0_; have BK234 := n1_; have BK235 := n2_; have HB := n3_; clear n0_ n1_ n2_ n3_; (try clear hb); (try clear hb2); (try clear hk); (try clear hi))); try go_wp2_with (first | (go_at_call 11; (with_reducible refine (celluloidlaw16_right.calls k a0_0 a0_1 a1_0 a1_1 a2_0 a2_1 true _ A8.out).mono ?_); rintro e w49 ⟨rfl, hb⟩; have n0_ := Aside0.mk (blk_below (g := gb233) (o := .cells #[.int .i64 a0_0, .int .i64 a0_1] 23 (0, 0)) (by (with_reducible repeat (first | refine blk_drewN ?_ _ | refine blk_drew ?_ | refine blk_alloc ?_ _)); exact BK233.out) hb); have n1_ := Aside0.mk (blk_below (g := gb234) (o := .cells #[.int .i64 a1_0, .int .i64 a1_1] 23 (0, 0)) (by (with_reducible repeat (first | refine blk_drewN ?_ _ | refine blk_drew ?_ | refine blk_alloc ?_ _)); exact BK234.out) hb); have n2_ := Aside0.mk (blk_below (g := gb235) (o := .cells #[.int .i64 a2_0, .int .i64 a2_1] 23 (0, 0)) (by (with_reducible repeat (first | refine blk_drewN ?_ _ | refine blk_drew ?_ | refine blk_alloc ?_ _)); exact BK235.out) hb); have n3_ := Aside0.mk (below_step (by repeat (first | (with_reducible first | exact HB.out | apply below_alloc | apply pw_below_drewN | apply below_drew1 | refine below_set ?_ GE233.out | refine below_set ?_ GE234.out | refine below_set ?_ GE235.out) | exact HB.out)) hb); clear BK233; clear BK234; clear BK235; clear HB; have BK233 := n0_; have BK234 := n1_; have BK235 := n2_; have HB := n3_; clear n0_ n1_ n2_ n3_; (try clear hb); (try clear hb2); (try clear hk); (try clear hi); have hcz50_0 : w49.cell? ⟨gb233, 0, none⟩ = some (.int .i64 a0_0) := (blk_cell BK233.out 0).trans rfl; have hcz50_1 : w49.cell? ⟨gb233, 1, none⟩ = some (.int .i64 a0_1) := (blk_cell BK233.out 1).trans rfl; have hfz50_0 := blk_frozen BK233.out 0; have hfz50_1 := blk_frozen BK233.out 1; have hcz51_0 : w49.cell? ⟨gb234, 0, none⟩ = some (.int .i64 a1_0) := (blk_cell BK234.out 0).trans rfl; have hcz51_1 : w49.cell? ⟨gb234, 1, none⟩ = some (.int .i64 a1_1) := (blk_cell BK234.out 1).trans rfl; have hfz51_0 := blk_frozen BK234.out 0; have hfz51_1 := blk_frozen BK234.out 1; have hcz52_0 : w49.cell? ⟨gb235, 0, none⟩ = some (.int .i64 a2_0) := (blk_cell BK235.out 0).trans rfl; have hcz52_1 : w49.cell? ⟨gb235, 1, none⟩ = some (.int .i64 a2_1) := (blk_cell BK235.out 1).trans rfl; have hfz52_0 := blk_frozen BK235.out 0; have hfz52_1 := blk_frozen BK235.out 1) | (go_at_call 12; (with_reducible refine (curve_Bend.calls a0_0 a0_1 a1_0 a1_1 a2_0 a2_1 t237 _ A42.out).mono ?_); rintro e w53 ⟨rfl, hb⟩; have n0_ := Aside0.mk (blk_below (g := gb233) (o := .cells #[.int .i64 a0_0, .int .i64 a0_1] 23 (0, 0)) (by (with_reducible repeat (first | refine blk_drewN ?_ _ | refine blk_drew ?_ | refine blk_alloc ?_ _)); exact BK233.out) hb); have n1_ := Aside0.mk (blk_below (g := gb234) (o := .cells #[.int .i64 a1_0, .int .i64 a1_1] 23 (0, 0)) (by (with_reducible repeat (first | refine blk_drewN ?_ _ | refine blk_drew ?_ | refine blk_alloc ?_ _)); exact BK234.out) hb); have n2_ := Aside0.mk (blk_below (g := gb235) (o := .cells #[.int .i64 a2_0, .int .i64 a2_1] 23 (0, 0)) (by (with_reducible repeat (first | refine blk_drewN ?_ _ | refine blk_drew ?_ | refine blk_alloc ?_ _)); exact BK235.out) hb); have n3_ := Aside0.mk (below_step (by repeat (first | (with_reducible first | exact HB.out | apply below_alloc | apply pw_below_drewN | apply below_drew1 | refine below_set ?_ GE233.out | refine below_set ?_ GE234.out | refine below_set ?_ GE235.out) | exact HB.out)) hb); clear BK233; clear BK234; clear BK235; clear HB; have BK233 := n0_; have BK234 := n1_; have BK235 := n2_; have HB := n3_; clear n0_ n1_ n2_ n3_; (try clear hb); (try clear hb2); (try clear hk); (try clear hi))))
     go_meet
     case rel => exact ⟨_, (decide (t237 > 8192)), (by first | rfl | (simp; done) | (simp [*]; done)), H', ⟨by first | omega | exact Nat.le_refl _⟩, ⟨by (with_reducible repeat (first | refine blk_drewN ?_ _ | refine blk_drew ?_ | refine blk_alloc ?_ _)); exact BK233.out⟩, ⟨by (with_reducible repeat (first | refine blk_drewN ?_ _ | refine blk_drew ?_ | refine blk_alloc ?_ _)); exact BK234.out⟩, ⟨by (with_reducible repeat (first | refine blk_drewN ?_ _ | refine blk_drew ?_ | refine blk_alloc ?_ _)); exact BK235.out⟩, ⟨by repeat (first | (with_reducible first | exact HB.out | apply below_alloc | apply pw_below_drewN | apply below_drew1 | refine below_set ?_ GE233.out | refine below_set ?_ GE234.out | refine below_set ?_ GE235.out) | exact HB.out)⟩⟩
  ·replace c9 := Bool.eq_false_iff.mpr c9
   subst c9
   have H1 : (celluloidlaw16_CurveNear.j0 k true a0_0 a0_1 a1_0 a1_1 a2_0 a2_1) = some r := by rw [if_neg (show ¬ (false = true) by decide)] at H; exact H
   clear H
   have H := H1
   clear H1
   have H' := Aside0.mk H
   clear H
   have hnb54 := NB233_234.out
   have hnc54 := NB234_233.out
   have hnb55 := NB233_235.out
   have hnc55 := NB235_233.out
   have hcz56_0 : w7.cell? ⟨gb233, 0, none⟩ = some (.int .i64 a0_0) := (blk_cell BK233.out 0).trans rfl
   have hcz56_1 : w7.cell? ⟨gb233, 1, none⟩ = some (.int .i64 a0_1) := (blk_cell BK233.out 1).trans rfl
   have hfz56_0 := blk_frozen BK233.out 0
   have hfz56_1 := blk_frozen BK233.out 1
   have hnb57 := NB234_235.out
   have hnc57 := NB235_234.out
   have hcz58_0 : w7.cell? ⟨gb234, 0, none⟩ = some (.int .i64 a1_0) := (blk_cell BK234.out 0).trans rfl
   have hcz58_1 : w7.cell? ⟨gb234, 1, none⟩ = some (.int .i64 a1_1) := (blk_cell BK234.out 1).trans rfl
   have hfz58_0 := blk_frozen BK234.out 0
   have hfz58_1 := blk_frozen BK234.out 1
   have hcz59_0 : w7.cell? ⟨gb235, 0, none⟩ = some (.int .i64 a2_0) := (blk_cell BK235.out 0).trans rfl
   have hcz59_1 : w7.cell? ⟨gb235, 1, none⟩ = some (.int .i64 a2_1) := (blk_cell BK235.out 1).trans rfl
   have hfz59_0 := blk_frozen BK235.out 0
   have hfz59_1 := blk_frozen BK235.out 1
   go_wp2_with (first | (go_at_call 11; (with_reducible refine (celluloidlaw16_right.calls k a0_0 a0_1 a1_0 a1_1 a2_0 a2_1 false _ A8.out).mono ?_); rintro e w60 ⟨rfl, hb⟩; have n0_ := Aside0.mk (blk_below (g := gb233) (o := .cells #[.int .i64 a0_0, .int .i64 a0_1] 23 (0, 0)) (by (with_reducible repeat (first | refine blk_drewN ?_ _ | refine blk_drew ?_ | refine blk_alloc ?_ _)); exact BK233.out) hb); have n1_ := Aside0.mk (blk_below (g := gb234) (o := .cells #[.int .i64 a1_0, .int .i64 a1_1] 23 (0, 0)) (by (with_reducible repeat (first | refine blk_drewN ?_ _ | refine blk_drew ?_ | refine blk_alloc ?_ _)); exact BK234.out) hb); have n2_ := Aside0.mk (blk_below (g := gb235) (o := .cells #[.int .i64 a2_0, .int .i64 a2_1] 23 (0, 0)) (by (with_reducible repeat (first | refine blk_drewN ?_ _ | refine blk_drew ?_ | refine blk_alloc ?_ _)); exact BK235.out) hb); have n3_ := Aside0.mk (below_step (by repeat (first | (with_reducible first | exact HB.out | apply below_alloc | apply pw_below_drewN | apply below_drew1 | refine below_set ?_ GE233.out | refine below_set ?_ GE234.out | refine below_set ?_ GE235.out) | exact HB.out)) hb); clear BK233; clear BK234; clear BK235; clear HB; have BK233 := n0_; have BK234 := n1_; have BK235 := n2_; have HB := n3_; clear n0_ n1_ n2_ n3_; (try clear hb); (try clear hb2); (try clear hk); (try clear hi)))
   repeat (go_quiet (first | (go_at_call 11; (with_reducible refine (celluloidlaw16_right.calls k a0_0 a0_1 a1_0 a1_1 a2_0 a2_1 false _ A8.out).mono ?_); rintro e w60 ⟨rfl, hb⟩; have n0_ := Aside0.mk (blk_below (g := gb233) (o := .cells #[.int .i64 a0_0, .int .i64 a0_1] 23 (0, 0)) (by (with_reducible repeat (first | refine blk_drewN ?_ _ | refine blk_drew ?_ | refine blk_alloc ?_ _)); exact BK233.out) hb); have n1_ := Aside0.mk (blk_below (g := gb234) (o := .cells #[.int .i64 a1_0, .int .i64 a1_1] 23 (0, 0)) (by (with_reducible repeat (first | refine blk_drewN ?_ _ | refine blk_drew ?_ | refine blk_alloc ?_ _)); exact BK234.out) hb); have n2_ := Aside0.mk (blk_below (g := gb235) (o := .cells #[.int .i64 a2_0, .int .i64 a2_1] 23 (0, 0)) (by (with_reducible repeat (first | refine blk_drewN ?_ _ | refine blk_drew ?_ | refine blk_alloc ?_ _)); exact BK235.out) hb); have n3_ := Aside0.mk (below_step (by repeat (first | (with_reducible first | exact HB.out | apply below_alloc | apply pw_below_drewN | apply below_drew1 | refine below_set ?_ GE233.out | refine below_set ?_ GE234.out | refine below_set ?_ GE235.out) | exact HB.out)) hb); clear BK233; clear BK234; clear BK235; clear HB; have BK233 := n0_; have BK234 := n1_; have BK235 := n2_; have HB := n3_; clear n0_ n1_ n2_ n3_; (try clear hb); (try clear hb2); (try clear hk); (try clear hi))); try go_wp2_with (first | (go_at_call 11; (with_reducible refine (celluloidlaw16_right.calls k a0_0 a0_1 a1_0 a1_1 a2_0 a2_1 false _ A8.out).mono ?_); rintro e w60 ⟨rfl, hb⟩; have n0_ := Aside0.mk (blk_below (g := gb233) (o := .cells #[.int .i64 a0_0, .int .i64 a0_1] 23 (0, 0)) (by (with_reducible repeat (first | refine blk_drewN ?_ _ | refine blk_drew ?_ | refine blk_alloc ?_ _)); exact BK233.out) hb); have n1_ := Aside0.mk (blk_below (g := gb234) (o := .cells #[.int .i64 a1_0, .int .i64 a1_1] 23 (0, 0)) (by (with_reducible repeat (first | refine blk_drewN ?_ _ | refine blk_drew ?_ | refine blk_alloc ?_ _)); exact BK234.out) hb); have n2_ := Aside0.mk (blk_below (g := gb235) (o := .cells #[.int .i64 a2_0, .int .i64 a2_1] 23 (0, 0)) (by (with_reducible repeat (first | refine blk_drewN ?_ _ | refine blk_drew ?_ | refine blk_alloc ?_ _)); exact BK235.out) hb); have n3_ := Aside0.mk (below_step (by repeat (first | (with_reducible first | exact HB.out | apply below_alloc | apply pw_below_drewN | apply below_drew1 | refine below_set ?_ GE233.out | refine below_set ?_ GE234.out | refine below_set ?_ GE235.out) | exact HB.out)) hb); clear BK233; clear BK234; clear BK235; clear HB; have BK233 := n0_; have BK234 := n1_; have BK235 := n2_; have HB := n3_; clear n0_ n1_ n2_ n3_; (try clear hb); (try clear hb2); (try clear hk); (try clear hi))))
   go_meet
   case rel => exact ⟨_, (true), (by first | rfl | (simp; done) | (simp [*]; done)), H', ⟨by first | omega | exact Nat.le_refl _⟩, ⟨by (with_reducible repeat (first | refine blk_drewN ?_ _ | refine blk_drew ?_ | refine blk_alloc ?_ _)); exact BK233.out⟩, ⟨by (with_reducible repeat (first | refine blk_drewN ?_ _ | refine blk_drew ?_ | refine blk_alloc ?_ _)); exact BK234.out⟩, ⟨by (with_reducible repeat (first | refine blk_drewN ?_ _ | refine blk_drew ?_ | refine blk_alloc ?_ _)); exact BK235.out⟩, ⟨by repeat (first | (with_reducible first | exact HB.out | apply below_alloc | apply pw_below_drewN | apply below_drew1 | refine below_set ?_ GE233.out | refine below_set ?_ GE234.out | refine below_set ?_ GE235.out) | exact HB.out)⟩⟩
 case rest =>
  clear HC4
  try clear c1
  try clear p2
  try clear c3
  try clear c4
  try clear c5
  try clear c9
  try clear c15
  try clear c15b0
  try clear c16
  try clear c17
  try clear c19
  try clear c31
  try clear c31b0
  try clear c32
  try clear c33
  try clear c35
  try clear c43
  try clear c44
  try clear c46
  try clear c54
  try clear c55
  try clear c57
  try clear hcz18_0
  try clear hcz18_1
  try clear hcz20_0
  try clear hcz20_1
  try clear hcz21_0
  try clear hcz21_1
  try clear hcz23_0
  try clear hcz23_1
  try clear hcz24_0
  try clear hcz24_1
  try clear hcz25_0
  try clear hcz25_1
  try clear hcz34_0
  try clear hcz34_1
  try clear hcz36_0
  try clear hcz36_1
  try clear hcz37_0
  try clear hcz37_1
  try clear hcz39_0
  try clear hcz39_1
  try clear hcz40_0
  try clear hcz40_1
  try clear hcz41_0
  try clear hcz41_1
  try clear hcz45_0
  try clear hcz45_1
  try clear hcz47_0
  try clear hcz47_1
  try clear hcz48_0
  try clear hcz48_1
  try clear hcz50_0
  try clear hcz50_1
  try clear hcz51_0
  try clear hcz51_1
  try clear hcz52_0
  try clear hcz52_1
  try clear hcz56_0
  try clear hcz56_1
  try clear hcz58_0
  try clear hcz58_1
  try clear hcz59_0
  try clear hcz59_1
  try clear hfz18_0
  try clear hfz18_1
  try clear hfz20_0
  try clear hfz20_1
  try clear hfz21_0
  try clear hfz21_1
  try clear hfz23_0
  try clear hfz23_1
  try clear hfz24_0
  try clear hfz24_1
  try clear hfz25_0
  try clear hfz25_1
  try clear hfz34_0
  try clear hfz34_1
  try clear hfz36_0
  try clear hfz36_1
  try clear hfz37_0
  try clear hfz37_1
  try clear hfz39_0
  try clear hfz39_1
  try clear hfz40_0
  try clear hfz40_1
  try clear hfz41_0
  try clear hfz41_1
  try clear hfz45_0
  try clear hfz45_1
  try clear hfz47_0
  try clear hfz47_1
  try clear hfz48_0
  try clear hfz48_1
  try clear hfz50_0
  try clear hfz50_1
  try clear hfz51_0
  try clear hfz51_1
  try clear hfz52_0
  try clear hfz52_1
  try clear hfz56_0
  try clear hfz56_1
  try clear hfz58_0
  try clear hfz58_1
  try clear hfz59_0
  try clear hfz59_1
  obtain ⟨kq, x60_3, rfl, HA, HJ3, BK233, BK234, BK235, HB⟩ := hcut
  cases kq with
  | zero => exact absurd HA.out (by simp [celluloidlaw16_CurveNear.j0])
  | succ kj3 =>
   have H := HA.out
   clear HA
   simp only [celluloidlaw16_CurveNear.j0] at H
   by_cases c61 : x60_3 = true
   ·subst c61
    have H1 : ((celluloidlaw16_awake.f kj3).bind fun t238 => (some t238)) = some r := by rw [if_pos rfl] at H; exact H
    clear H
    have H := H1
    clear H1
    replace H := Option.bind_eq_some_iff.mp H
    obtain ⟨t238, A620, H⟩ := H
    replace H : (some t238) = some r := H
    have A62 := Aside0.mk A620
    clear A620
    obtain rfl := Option.some.inj H
    go_wp2_with (first | (go_at_call 14; (with_reducible refine (celluloidlaw16_awake.calls kj3  t238 _ A62.out).mono ?_); rintro e w63 ⟨rfl, hb⟩; have n0_ := Aside0.mk (blk_below (g := gb233) (o := .cells #[.int .i64 a0_0, .int .i64 a0_1] 23 (0, 0)) (by (with_reducible repeat (first | refine blk_drewN ?_ _ | refine blk_drew ?_ | refine blk_alloc ?_ _)); exact BK233.out) hb); have n1_ := Aside0.mk (blk_below (g := gb234) (o := .cells #[.int .i64 a1_0, .int .i64 a1_1] 23 (0, 0)) (by (with_reducible repeat (first | refine blk_drewN ?_ _ | refine blk_drew ?_ | refine blk_alloc ?_ _)); exact BK234.out) hb); have n2_ := Aside0.mk (blk_below (g := gb235) (o := .cells #[.int .i64 a2_0, .int .i64 a2_1] 23 (0, 0)) (by (with_reducible repeat (first | refine blk_drewN ?_ _ | refine blk_drew ?_ | refine blk_alloc ?_ _)); exact BK235.out) hb); have n3_ := Aside0.mk (below_step (by repeat (first | (with_reducible first | exact HB.out | apply below_alloc | apply pw_below_drewN | apply below_drew1 | refine below_set ?_ GE233.out | refine below_set ?_ GE234.out | refine below_set ?_ GE235.out) | exact HB.out)) hb); clear BK233; clear BK234; clear BK235; clear HB; have BK233 := n0_; have BK234 := n1_; have BK235 := n2_; have HB := n3_; clear n0_ n1_ n2_ n3_; (try clear hb); (try clear hb2); (try clear hk); (try clear hi)))
    repeat (go_quiet (first | (go_at_call 14; (with_reducible refine (celluloidlaw16_awake.calls kj3  t238 _ A62.out).mono ?_); rintro e w63 ⟨rfl, hb⟩; have n0_ := Aside0.mk (blk_below (g := gb233) (o := .cells #[.int .i64 a0_0, .int .i64 a0_1] 23 (0, 0)) (by (with_reducible repeat (first | refine blk_drewN ?_ _ | refine blk_drew ?_ | refine blk_alloc ?_ _)); exact BK233.out) hb); have n1_ := Aside0.mk (blk_below (g := gb234) (o := .cells #[.int .i64 a1_0, .int .i64 a1_1] 23 (0, 0)) (by (with_reducible repeat (first | refine blk_drewN ?_ _ | refine blk_drew ?_ | refine blk_alloc ?_ _)); exact BK234.out) hb); have n2_ := Aside0.mk (blk_below (g := gb235) (o := .cells #[.int .i64 a2_0, .int .i64 a2_1] 23 (0, 0)) (by (with_reducible repeat (first | refine blk_drewN ?_ _ | refine blk_drew ?_ | refine blk_alloc ?_ _)); exact BK235.out) hb); have n3_ := Aside0.mk (below_step (by repeat (first | (with_reducible first | exact HB.out | apply below_alloc | apply pw_below_drewN | apply below_drew1 | refine below_set ?_ GE233.out | refine below_set ?_ GE234.out | refine below_set ?_ GE235.out) | exact HB.out)) hb); clear BK233; clear BK234; clear BK235; clear HB; have BK233 := n0_; have BK234 := n1_; have BK235 := n2_; have HB := n3_; clear n0_ n1_ n2_ n3_; (try clear hb); (try clear hb2); (try clear hk); (try clear hi))); try go_wp2_with (first | (go_at_call 14; (with_reducible refine (celluloidlaw16_awake.calls kj3  t238 _ A62.out).mono ?_); rintro e w63 ⟨rfl, hb⟩; have n0_ := Aside0.mk (blk_below (g := gb233) (o := .cells #[.int .i64 a0_0, .int .i64 a0_1] 23 (0, 0)) (by (with_reducible repeat (first | refine blk_drewN ?_ _ | refine blk_drew ?_ | refine blk_alloc ?_ _)); exact BK233.out) hb); have n1_ := Aside0.mk (blk_below (g := gb234) (o := .cells #[.int .i64 a1_0, .int .i64 a1_1] 23 (0, 0)) (by (with_reducible repeat (first | refine blk_drewN ?_ _ | refine blk_drew ?_ | refine blk_alloc ?_ _)); exact BK234.out) hb); have n2_ := Aside0.mk (blk_below (g := gb235) (o := .cells #[.int .i64 a2_0, .int .i64 a2_1] 23 (0, 0)) (by (with_reducible repeat (first | refine blk_drewN ?_ _ | refine blk_drew ?_ | refine blk_alloc ?_ _)); exact BK235.out) hb); have n3_ := Aside0.mk (below_step (by repeat (first | (with_reducible first | exact HB.out | apply below_alloc | apply pw_below_drewN | apply below_drew1 | refine below_set ?_ GE233.out | refine below_set ?_ GE234.out | refine below_set ?_ GE235.out) | exact HB.out)) hb); clear BK233; clear BK234; clear BK235; clear HB; have BK233 := n0_; have BK234 := n1_; have BK235 := n2_; have HB := n3_; clear n0_ n1_ n2_ n3_; (try clear hb); (try clear hb2); (try clear hk); (try clear hi))))
    go_ret
    exact ⟨by first | rfl | (simp [errW_none, errW_some] <;> rfl) | (simp [*, errW_none, errW_some] <;> rfl), by repeat (first | (with_reducible first | exact HB.out | apply below_alloc | apply pw_below_drewN | apply below_drew1 | refine below_set ?_ GE233.out | refine below_set ?_ GE234.out | refine below_set ?_ GE235.out) | exact HB.out)⟩
   ·replace c61 := Bool.eq_false_iff.mpr c61
    subst c61
    have H1 : ((curve_Flat.f kj3 a0_0 a0_1 a1_0 a1_1 a2_0 a2_1).bind fun t239 => (celluloidlaw16_CurveNear.l0 kj3 (t239.length : Int) t239 (t239.length : Int) 0 a0_0 a0_1 a1_0 a1_1 a2_0 a2_1 a0_0 a0_1)) = some r := by rw [if_neg (show ¬ (false = true) by decide)] at H; exact H
    clear H
    have H := H1
    clear H1
    replace H := Option.bind_eq_some_iff.mp H
    obtain ⟨t239, A640, H⟩ := H
    replace H : (celluloidlaw16_CurveNear.l0 kj3 (t239.length : Int) t239 (t239.length : Int) 0 a0_0 a0_1 a1_0 a1_1 a2_0 a2_1 a0_0 a0_1) = some r := H
    have A64 := Aside0.mk A640
    clear A640
    have H' := Aside0.mk H
    clear H
    have hnb65 := NB233_234.out
    have hnc65 := NB234_233.out
    have hnb66 := NB233_235.out
    have hnc66 := NB235_233.out
    have hcz67_0 : wc.cell? ⟨gb233, 0, none⟩ = some (.int .i64 a0_0) := (blk_cell BK233.out 0).trans rfl
    have hcz67_1 : wc.cell? ⟨gb233, 1, none⟩ = some (.int .i64 a0_1) := (blk_cell BK233.out 1).trans rfl
    have hfz67_0 := blk_frozen BK233.out 0
    have hfz67_1 := blk_frozen BK233.out 1
    have hnb68 := NB234_235.out
    have hnc68 := NB235_234.out
    have hcz69_0 : wc.cell? ⟨gb234, 0, none⟩ = some (.int .i64 a1_0) := (blk_cell BK234.out 0).trans rfl
    have hcz69_1 : wc.cell? ⟨gb234, 1, none⟩ = some (.int .i64 a1_1) := (blk_cell BK234.out 1).trans rfl
    have hfz69_0 := blk_frozen BK234.out 0
    have hfz69_1 := blk_frozen BK234.out 1
    have hcz70_0 : wc.cell? ⟨gb235, 0, none⟩ = some (.int .i64 a2_0) := (blk_cell BK235.out 0).trans rfl
    have hcz70_1 : wc.cell? ⟨gb235, 1, none⟩ = some (.int .i64 a2_1) := (blk_cell BK235.out 1).trans rfl
    have hfz70_0 := blk_frozen BK235.out 0
    have hfz70_1 := blk_frozen BK235.out 1
    go_wp2_with (first | (go_at_call 8; (with_reducible refine (curve_Flat.calls kj3 a0_0 a0_1 a1_0 a1_1 a2_0 a2_1 t239 _ A64.out).mono ?_); rintro e w71 ⟨v240, rfl, ho0, hb⟩; have n0_ := Aside0.mk (Kd.R_lower (Kd.R_newB (Kd.R_newB (Kd.R_newB ho0 (g := gb233) (o := .cells #[.int .i64 a0_0, .int .i64 a0_1] 23 (0, 0)) (by (with_reducible repeat (first | refine blk_drewN ?_ _ | refine blk_drew ?_ | refine blk_alloc ?_ _)); exact BK233.out)) (g := gb234) (o := .cells #[.int .i64 a1_0, .int .i64 a1_1] 23 (0, 0)) (by (with_reducible repeat (first | refine blk_drewN ?_ _ | refine blk_drew ?_ | refine blk_alloc ?_ _)); exact BK234.out)) (g := gb235) (o := .cells #[.int .i64 a2_0, .int .i64 a2_1] 23 (0, 0)) (by (with_reducible repeat (first | refine blk_drewN ?_ _ | refine blk_drew ?_ | refine blk_alloc ?_ _)); exact BK235.out)) (below_size (by repeat (first | (with_reducible first | exact HB.out | apply below_alloc | apply pw_below_drewN | apply below_drew1 | refine below_set ?_ GE233.out | refine below_set ?_ GE234.out | refine below_set ?_ GE235.out) | exact HB.out)))); have n1_ := Aside0.mk (blk_below (g := gb233) (o := .cells #[.int .i64 a0_0, .int .i64 a0_1] 23 (0, 0)) (by (with_reducible repeat (first | refine blk_drewN ?_ _ | refine blk_drew ?_ | refine blk_alloc ?_ _)); exact BK233.out) hb); have n2_ := Aside0.mk (blk_below (g := gb234) (o := .cells #[.int .i64 a1_0, .int .i64 a1_1] 23 (0, 0)) (by (with_reducible repeat (first | refine blk_drewN ?_ _ | refine blk_drew ?_ | refine blk_alloc ?_ _)); exact BK234.out) hb); have n3_ := Aside0.mk (blk_below (g := gb235) (o := .cells #[.int .i64 a2_0, .int .i64 a2_1] 23 (0, 0)) (by (with_reducible repeat (first | refine blk_drewN ?_ _ | refine blk_drew ?_ | refine blk_alloc ?_ _)); exact BK235.out) hb); have n4_ := Aside0.mk (below_step (by repeat (first | (with_reducible first | exact HB.out | apply below_alloc | apply pw_below_drewN | apply below_drew1 | refine below_set ?_ GE233.out | refine below_set ?_ GE234.out | refine below_set ?_ GE235.out) | exact HB.out)) hb); clear BK233; clear BK234; clear BK235; clear HB; have HO241 := n0_; have BK233 := n1_; have BK234 := n2_; have BK235 := n3_; have HB := n4_; clear n0_ n1_ n2_ n3_ n4_; (try clear hb); (try clear hb2); (try clear hk); (try clear hi); (try clear ho0); obtain ⟨Ao72, co72, eo72⟩ := Kd.R_slice HO241.out; subst eo72; have hcz73_0 : w71.cell? ⟨gb233, 0, none⟩ = some (.int .i64 a0_0) := (blk_cell BK233.out 0).trans rfl; have hcz73_1 : w71.cell? ⟨gb233, 1, none⟩ = some (.int .i64 a0_1) := (blk_cell BK233.out 1).trans rfl; have hfz73_0 := blk_frozen BK233.out 0; have hfz73_1 := blk_frozen BK233.out 1) | ((with_reducible refine gate_dst (N := 9) rfl ?_); (try (refine gate_guard (by rfl) ?_; dsimp only)); refine box_event ?hg (N := 9) ?hd (cs := #[.int .i64 0, .int .i64 0]) (t := 23) ?hr ?_; (case hd => rfl); (case hg => rfl); (case hr => first | (go_simp; done) | (go_simp; rfl)); intro gb242 hg w74 hbox hb; have n0_ := Aside0.mk (Kd.R_below (Kd.R_elderB (by (with_reducible repeat (first | apply Kd.R_alloc | apply Kd.R_drewN | apply Kd.R_drew)); exact HO241.out) gb242 (Nat.le_of_eq hg.symm)) hb); have n1_ := Aside0.mk (blk_below (g := gb233) (o := .cells #[.int .i64 a0_0, .int .i64 a0_1] 23 (0, 0)) (by (with_reducible repeat (first | refine blk_drewN ?_ _ | refine blk_drew ?_ | refine blk_alloc ?_ _)); exact BK233.out) hb); have n2_ := Aside0.mk (blk_below (g := gb234) (o := .cells #[.int .i64 a1_0, .int .i64 a1_1] 23 (0, 0)) (by (with_reducible repeat (first | refine blk_drewN ?_ _ | refine blk_drew ?_ | refine blk_alloc ?_ _)); exact BK234.out) hb); have n3_ := Aside0.mk (blk_below (g := gb235) (o := .cells #[.int .i64 a2_0, .int .i64 a2_1] 23 (0, 0)) (by (with_reducible repeat (first | refine blk_drewN ?_ _ | refine blk_drew ?_ | refine blk_alloc ?_ _)); exact BK235.out) hb); have n4_ := Aside0.mk (below_step (by repeat (first | (with_reducible first | exact HB.out | apply below_alloc | apply pw_below_drewN | apply below_drew1 | refine below_set ?_ GE233.out | refine below_set ?_ GE234.out | refine below_set ?_ GE235.out) | exact HB.out)) hb); have n5_ := Aside0.mk (hbox); have n6_ := Aside0.mk ((by rw [hg]; exact (below_size (by repeat (first | (with_reducible first | exact HB.out | apply below_alloc | apply pw_below_drewN | apply below_drew1 | refine below_set ?_ GE233.out | refine below_set ?_ GE234.out | refine below_set ?_ GE235.out) | exact HB.out))) : w.heap.size ≤ gb242)); have n7_ := Aside0.mk ((by rw [hg]; exact (below_size (by repeat (first | (with_reducible first | exact HB.out | apply below_alloc | apply pw_below_drewN | apply below_drew1 | refine below_set ?_ GE233.out | refine below_set ?_ GE234.out | refine below_set ?_ GE235.out) | exact HB.out))) : w.heap.size ≤ gb242)); have n8_ := Aside0.mk ((by rw [hg]; exact Nat.ne_of_lt (blk_lt (g := gb233) (o := .cells #[.int .i64 a0_0, .int .i64 a0_1] 23 (0, 0)) (by (with_reducible repeat (first | refine blk_drewN ?_ _ | refine blk_drew ?_ | refine blk_alloc ?_ _)); exact BK233.out)) : gb233 ≠ gb242)); have n9_ := Aside0.mk ((by rw [hg]; exact Nat.ne_of_gt (blk_lt (g := gb233) (o := .cells #[.int .i64 a0_0, .int .i64 a0_1] 23 (0, 0)) (by (with_reducible repeat (first | refine blk_drewN ?_ _ | refine blk_drew ?_ | refine blk_alloc ?_ _)); exact BK233.out)) : gb242 ≠ gb233)); have n10_ := Aside0.mk ((by rw [hg]; exact Nat.ne_of_lt (blk_lt (g := gb234) (o := .cells #[.int .i64 a1_0, .int .i64 a1_1] 23 (0, 0)) (by (with_reducible repeat (first | refine blk_drewN ?_ _ | refine blk_drew ?_ | refine blk_alloc ?_ _)); exact BK234.out)) : gb234 ≠ gb242)); have n11_ := Aside0.mk ((by rw [hg]; exact Nat.ne_of_gt (blk_lt (g := gb234) (o := .cells #[.int .i64 a1_0, .int .i64 a1_1] 23 (0, 0)) (by (with_reducible repeat (first | refine blk_drewN ?_ _ | refine blk_drew ?_ | refine blk_alloc ?_ _)); exact BK234.out)) : gb242 ≠ gb234)); have n12_ := Aside0.mk ((by rw [hg]; exact Nat.ne_of_lt (blk_lt (g := gb235) (o := .cells #[.int .i64 a2_0, .int .i64 a2_1] 23 (0, 0)) (by (with_reducible repeat (first | refine blk_drewN ?_ _ | refine blk_drew ?_ | refine blk_alloc ?_ _)); exact BK235.out)) : gb235 ≠ gb242)); have n13_ := Aside0.mk ((by rw [hg]; exact Nat.ne_of_gt (blk_lt (g := gb235) (o := .cells #[.int .i64 a2_0, .int .i64 a2_1] 23 (0, 0)) (by (with_reducible repeat (first | refine blk_drewN ?_ _ | refine blk_drew ?_ | refine blk_alloc ?_ _)); exact BK235.out)) : gb242 ≠ gb235)); clear HO241; clear BK233; clear BK234; clear BK235; clear HB; have HO241 := n0_; have BK233 := n1_; have BK234 := n2_; have BK235 := n3_; have HB := n4_; have BK242 := n5_; have GW242 := n6_; have GE242 := n7_; have NB233_242 := n8_; have NB242_233 := n9_; have NB234_242 := n10_; have NB242_234 := n11_; have NB235_242 := n12_; have NB242_235 := n13_; clear n0_ n1_ n2_ n3_ n4_ n5_ n6_ n7_ n8_ n9_ n10_ n11_ n12_ n13_; clear hb hbox hg; have hnb75 := NB242_233.out; have hnc75 := NB233_242.out; have hnb76 := NB242_234.out; have hnc76 := NB234_242.out; have hnb77 := NB242_235.out; have hnc77 := NB235_242.out; have hcz78_0 : w74.cell? ⟨gb242, 0, none⟩ = some (.int .i64 0) := (blk_cell BK242.out 0).trans rfl; have hcz78_1 : w74.cell? ⟨gb242, 1, none⟩ = some (.int .i64 0) := (blk_cell BK242.out 1).trans rfl; have hfz78_0 := blk_frozen BK242.out 0; have hfz78_1 := blk_frozen BK242.out 1))
    repeat (go_quiet (first | (go_at_call 8; (with_reducible refine (curve_Flat.calls kj3 a0_0 a0_1 a1_0 a1_1 a2_0 a2_1 t239 _ A64.out).mono ?_); rintro e w71 ⟨v240, rfl, ho0, hb⟩; have n0_ := Aside0.mk (Kd.R_lower (Kd.R_newB (Kd.R_newB (Kd.R_newB ho0 (g := gb233) (o := .cells #[.int .i64 a0_0, .int .i64 a0_1] 23 (0, 0)) (by (with_reducible repeat (first | refine blk_drewN ?_ _ | refine blk_drew ?_ | refine blk_alloc ?_ _)); exact BK233.out)) (g := gb234) (o := .cells #[.int .i64 a1_0, .int .i64 a1_1] 23 (0, 0)) (by (with_reducible repeat (first | refine blk_drewN ?_ _ | refine blk_drew ?_ | refine blk_alloc ?_ _)); exact BK234.out)) (g := gb235) (o := .cells #[.int .i64 a2_0, .int .i64 a2_1] 23 (0, 0)) (by (with_reducible repeat (first | refine blk_drewN ?_ _ | refine blk_drew ?_ | refine blk_alloc ?_ _)); exact BK235.out)) (below_size (by repeat (first | (with_reducible first | exact HB.out | apply below_alloc | apply pw_below_drewN | apply below_drew1 | refine below_set ?_ GE233.out | refine below_set ?_ GE234.out | refine below_set ?_ GE235.out) | exact HB.out)))); have n1_ := Aside0.mk (blk_below (g := gb233) (o := .cells #[.int .i64 a0_0, .int .i64 a0_1] 23 (0, 0)) (by (with_reducible repeat (first | refine blk_drewN ?_ _ | refine blk_drew ?_ | refine blk_alloc ?_ _)); exact BK233.out) hb); have n2_ := Aside0.mk (blk_below (g := gb234) (o := .cells #[.int .i64 a1_0, .int .i64 a1_1] 23 (0, 0)) (by (with_reducible repeat (first | refine blk_drewN ?_ _ | refine blk_drew ?_ | refine blk_alloc ?_ _)); exact BK234.out) hb); have n3_ := Aside0.mk (blk_below (g := gb235) (o := .cells #[.int .i64 a2_0, .int .i64 a2_1] 23 (0, 0)) (by (with_reducible repeat (first | refine blk_drewN ?_ _ | refine blk_drew ?_ | refine blk_alloc ?_ _)); exact BK235.out) hb); have n4_ := Aside0.mk (below_step (by repeat (first | (with_reducible first | exact HB.out | apply below_alloc | apply pw_below_drewN | apply below_drew1 | refine below_set ?_ GE233.out | refine below_set ?_ GE234.out | refine below_set ?_ GE235.out) | exact HB.out)) hb); clear BK233; clear BK234; clear BK235; clear HB; have HO241 := n0_; have BK233 := n1_; have BK234 := n2_; have BK235 := n3_; have HB := n4_; clear n0_ n1_ n2_ n3_ n4_; (try clear hb); (try clear hb2); (try clear hk); (try clear hi); (try clear ho0); obtain ⟨Ao72, co72, eo72⟩ := Kd.R_slice HO241.out; subst eo72; have hcz73_0 : w71.cell? ⟨gb233, 0, none⟩ = some (.int .i64 a0_0) := (blk_cell BK233.out 0).trans rfl; have hcz73_1 : w71.cell? ⟨gb233, 1, none⟩ = some (.int .i64 a0_1) := (blk_cell BK233.out 1).trans rfl; have hfz73_0 := blk_frozen BK233.out 0; have hfz73_1 := blk_frozen BK233.out 1) | ((with_reducible refine gate_dst (N := 9) rfl ?_); (try (refine gate_guard (by rfl) ?_; dsimp only)); refine box_event ?hg (N := 9) ?hd (cs := #[.int .i64 0, .int .i64 0]) (t := 23) ?hr ?_; (case hd => rfl); (case hg => rfl); (case hr => first | (go_simp; done) | (go_simp; rfl)); intro gb242 hg w74 hbox hb; have n0_ := Aside0.mk (Kd.R_below (Kd.R_elderB (by (with_reducible repeat (first | apply Kd.R_alloc | apply Kd.R_drewN | apply Kd.R_drew)); exact HO241.out) gb242 (Nat.le_of_eq hg.symm)) hb); have n1_ := Aside0.mk (blk_below (g := gb233) (o := .cells #[.int .i64 a0_0, .int .i64 a0_1] 23 (0, 0)) (by (with_reducible repeat (first | refine blk_drewN ?_ _ | refine blk_drew ?_ | refine blk_alloc ?_ _)); exact BK233.out) hb); have n2_ := Aside0.mk (blk_below (g := gb234) (o := .cells #[.int .i64 a1_0, .int .i64 a1_1] 23 (0, 0)) (by (with_reducible repeat (first | refine blk_drewN ?_ _ | refine blk_drew ?_ | refine blk_alloc ?_ _)); exact BK234.out) hb); have n3_ := Aside0.mk (blk_below (g := gb235) (o := .cells #[.int .i64 a2_0, .int .i64 a2_1] 23 (0, 0)) (by (with_reducible repeat (first | refine blk_drewN ?_ _ | refine blk_drew ?_ | refine blk_alloc ?_ _)); exact BK235.out) hb); have n4_ := Aside0.mk (below_step (by repeat (first | (with_reducible first | exact HB.out | apply below_alloc | apply pw_below_drewN | apply below_drew1 | refine below_set ?_ GE233.out | refine below_set ?_ GE234.out | refine below_set ?_ GE235.out) | exact HB.out)) hb); have n5_ := Aside0.mk (hbox); have n6_ := Aside0.mk ((by rw [hg]; exact (below_size (by repeat (first | (with_reducible first | exact HB.out | apply below_alloc | apply pw_below_drewN | apply below_drew1 | refine below_set ?_ GE233.out | refine below_set ?_ GE234.out | refine below_set ?_ GE235.out) | exact HB.out))) : w.heap.size ≤ gb242)); have n7_ := Aside0.mk ((by rw [hg]; exact (below_size (by repeat (first | (with_reducible first | exact HB.out | apply below_alloc | apply pw_below_drewN | apply below_drew1 | refine below_set ?_ GE233.out | refine below_set ?_ GE234.out | refine below_set ?_ GE235.out) | exact HB.out))) : w.heap.size ≤ gb242)); have n8_ := Aside0.mk ((by rw [hg]; exact Nat.ne_of_lt (blk_lt (g := gb233) (o := .cells #[.int .i64 a0_0, .int .i64 a0_1] 23 (0, 0)) (by (with_reducible repeat (first | refine blk_drewN ?_ _ | refine blk_drew ?_ | refine blk_alloc ?_ _)); exact BK233.out)) : gb233 ≠ gb242)); have n9_ := Aside0.mk ((by rw [hg]; exact Nat.ne_of_gt (blk_lt (g := gb233) (o := .cells #[.int .i64 a0_0, .int .i64 a0_1] 23 (0, 0)) (by (with_reducible repeat (first | refine blk_drewN ?_ _ | refine blk_drew ?_ | refine blk_alloc ?_ _)); exact BK233.out)) : gb242 ≠ gb233)); have n10_ := Aside0.mk ((by rw [hg]; exact Nat.ne_of_lt (blk_lt (g := gb234) (o := .cells #[.int .i64 a1_0, .int .i64 a1_1] 23 (0, 0)) (by (with_reducible repeat (first | refine blk_drewN ?_ _ | refine blk_drew ?_ | refine blk_alloc ?_ _)); exact BK234.out)) : gb234 ≠ gb242)); have n11_ := Aside0.mk ((by rw [hg]; exact Nat.ne_of_gt (blk_lt (g := gb234) (o := .cells #[.int .i64 a1_0, .int .i64 a1_1] 23 (0, 0)) (by (with_reducible repeat (first | refine blk_drewN ?_ _ | refine blk_drew ?_ | refine blk_alloc ?_ _)); exact BK234.out)) : gb242 ≠ gb234)); have n12_ := Aside0.mk ((by rw [hg]; exact Nat.ne_of_lt (blk_lt (g := gb235) (o := .cells #[.int .i64 a2_0, .int .i64 a2_1] 23 (0, 0)) (by (with_reducible repeat (first | refine blk_drewN ?_ _ | refine blk_drew ?_ | refine blk_alloc ?_ _)); exact BK235.out)) : gb235 ≠ gb242)); have n13_ := Aside0.mk ((by rw [hg]; exact Nat.ne_of_gt (blk_lt (g := gb235) (o := .cells #[.int .i64 a2_0, .int .i64 a2_1] 23 (0, 0)) (by (with_reducible repeat (first | refine blk_drewN ?_ _ | refine blk_drew ?_ | refine blk_alloc ?_ _)); exact BK235.out)) : gb242 ≠ gb235)); clear HO241; clear BK233; clear BK234; clear BK235; clear HB; have HO241 := n0_; have BK233 := n1_; have BK234 := n2_; have BK235 := n3_; have HB := n4_; have BK242 := n5_; have GW242 := n6_; have GE242 := n7_; have NB233_242 := n8_; have NB242_233 := n9_; have NB234_242 := n10_; have NB242_234 := n11_; have NB235_242 := n12_; have NB242_235 := n13_; clear n0_ n1_ n2_ n3_ n4_ n5_ n6_ n7_ n8_ n9_ n10_ n11_ n12_ n13_; clear hb hbox hg; have hnb75 := NB242_233.out; have hnc75 := NB233_242.out; have hnb76 := NB242_234.out; have hnc76 := NB234_242.out; have hnb77 := NB242_235.out; have hnc77 := NB235_242.out; have hcz78_0 : w74.cell? ⟨gb242, 0, none⟩ = some (.int .i64 0) := (blk_cell BK242.out 0).trans rfl; have hcz78_1 : w74.cell? ⟨gb242, 1, none⟩ = some (.int .i64 0) := (blk_cell BK242.out 1).trans rfl; have hfz78_0 := blk_frozen BK242.out 0; have hfz78_1 := blk_frozen BK242.out 1)); try go_wp2_with (first | (go_at_call 8; (with_reducible refine (curve_Flat.calls kj3 a0_0 a0_1 a1_0 a1_1 a2_0 a2_1 t239 _ A64.out).mono ?_); rintro e w71 ⟨v240, rfl, ho0, hb⟩; have n0_ := Aside0.mk (Kd.R_lower (Kd.R_newB (Kd.R_newB (Kd.R_newB ho0 (g := gb233) (o := .cells #[.int .i64 a0_0, .int .i64 a0_1] 23 (0, 0)) (by (with_reducible repeat (first | refine blk_drewN ?_ _ | refine blk_drew ?_ | refine blk_alloc ?_ _)); exact BK233.out)) (g := gb234) (o := .cells #[.int .i64 a1_0, .int .i64 a1_1] 23 (0, 0)) (by (with_reducible repeat (first | refine blk_drewN ?_ _ | refine blk_drew ?_ | refine blk_alloc ?_ _)); exact BK234.out)) (g := gb235) (o := .cells #[.int .i64 a2_0, .int .i64 a2_1] 23 (0, 0)) (by (with_reducible repeat (first | refine blk_drewN ?_ _ | refine blk_drew ?_ | refine blk_alloc ?_ _)); exact BK235.out)) (below_size (by repeat (first | (with_reducible first | exact HB.out | apply below_alloc | apply pw_below_drewN | apply below_drew1 | refine below_set ?_ GE233.out | refine below_set ?_ GE234.out | refine below_set ?_ GE235.out) | exact HB.out)))); have n1_ := Aside0.mk (blk_below (g := gb233) (o := .cells #[.int .i64 a0_0, .int .i64 a0_1] 23 (0, 0)) (by (with_reducible repeat (first | refine blk_drewN ?_ _ | refine blk_drew ?_ | refine blk_alloc ?_ _)); exact BK233.out) hb); have n2_ := Aside0.mk (blk_below (g := gb234) (o := .cells #[.int .i64 a1_0, .int .i64 a1_1] 23 (0, 0)) (by (with_reducible repeat (first | refine blk_drewN ?_ _ | refine blk_drew ?_ | refine blk_alloc ?_ _)); exact BK234.out) hb); have n3_ := Aside0.mk (blk_below (g := gb235) (o := .cells #[.int .i64 a2_0, .int .i64 a2_1] 23 (0, 0)) (by (with_reducible repeat (first | refine blk_drewN ?_ _ | refine blk_drew ?_ | refine blk_alloc ?_ _)); exact BK235.out) hb); have n4_ := Aside0.mk (below_step (by repeat (first | (with_reducible first | exact HB.out | apply below_alloc | apply pw_below_drewN | apply below_drew1 | refine below_set ?_ GE233.out | refine below_set ?_ GE234.out | refine below_set ?_ GE235.out) | exact HB.out)) hb); clear BK233; clear BK234; clear BK235; clear HB; have HO241 := n0_; have BK233 := n1_; have BK234 := n2_; have BK235 := n3_; have HB := n4_; clear n0_ n1_ n2_ n3_ n4_; (try clear hb); (try clear hb2); (try clear hk); (try clear hi); (try clear ho0); obtain ⟨Ao72, co72, eo72⟩ := Kd.R_slice HO241.out; subst eo72; have hcz73_0 : w71.cell? ⟨gb233, 0, none⟩ = some (.int .i64 a0_0) := (blk_cell BK233.out 0).trans rfl; have hcz73_1 : w71.cell? ⟨gb233, 1, none⟩ = some (.int .i64 a0_1) := (blk_cell BK233.out 1).trans rfl; have hfz73_0 := blk_frozen BK233.out 0; have hfz73_1 := blk_frozen BK233.out 1) | ((with_reducible refine gate_dst (N := 9) rfl ?_); (try (refine gate_guard (by rfl) ?_; dsimp only)); refine box_event ?hg (N := 9) ?hd (cs := #[.int .i64 0, .int .i64 0]) (t := 23) ?hr ?_; (case hd => rfl); (case hg => rfl); (case hr => first | (go_simp; done) | (go_simp; rfl)); intro gb242 hg w74 hbox hb; have n0_ := Aside0.mk (Kd.R_below (Kd.R_elderB (by (with_reducible repeat (first | apply Kd.R_alloc | apply Kd.R_drewN | apply Kd.R_drew)); exact HO241.out) gb242 (Nat.le_of_eq hg.symm)) hb); have n1_ := Aside0.mk (blk_below (g := gb233) (o := .cells #[.int .i64 a0_0, .int .i64 a0_1] 23 (0, 0)) (by (with_reducible repeat (first | refine blk_drewN ?_ _ | refine blk_drew ?_ | refine blk_alloc ?_ _)); exact BK233.out) hb); have n2_ := Aside0.mk (blk_below (g := gb234) (o := .cells #[.int .i64 a1_0, .int .i64 a1_1] 23 (0, 0)) (by (with_reducible repeat (first | refine blk_drewN ?_ _ | refine blk_drew ?_ | refine blk_alloc ?_ _)); exact BK234.out) hb); have n3_ := Aside0.mk (blk_below (g := gb235) (o := .cells #[.int .i64 a2_0, .int .i64 a2_1] 23 (0, 0)) (by (with_reducible repeat (first | refine blk_drewN ?_ _ | refine blk_drew ?_ | refine blk_alloc ?_ _)); exact BK235.out) hb); have n4_ := Aside0.mk (below_step (by repeat (first | (with_reducible first | exact HB.out | apply below_alloc | apply pw_below_drewN | apply below_drew1 | refine below_set ?_ GE233.out | refine below_set ?_ GE234.out | refine below_set ?_ GE235.out) | exact HB.out)) hb); have n5_ := Aside0.mk (hbox); have n6_ := Aside0.mk ((by rw [hg]; exact (below_size (by repeat (first | (with_reducible first | exact HB.out | apply below_alloc | apply pw_below_drewN | apply below_drew1 | refine below_set ?_ GE233.out | refine below_set ?_ GE234.out | refine below_set ?_ GE235.out) | exact HB.out))) : w.heap.size ≤ gb242)); have n7_ := Aside0.mk ((by rw [hg]; exact (below_size (by repeat (first | (with_reducible first | exact HB.out | apply below_alloc | apply pw_below_drewN | apply below_drew1 | refine below_set ?_ GE233.out | refine below_set ?_ GE234.out | refine below_set ?_ GE235.out) | exact HB.out))) : w.heap.size ≤ gb242)); have n8_ := Aside0.mk ((by rw [hg]; exact Nat.ne_of_lt (blk_lt (g := gb233) (o := .cells #[.int .i64 a0_0, .int .i64 a0_1] 23 (0, 0)) (by (with_reducible repeat (first | refine blk_drewN ?_ _ | refine blk_drew ?_ | refine blk_alloc ?_ _)); exact BK233.out)) : gb233 ≠ gb242)); have n9_ := Aside0.mk ((by rw [hg]; exact Nat.ne_of_gt (blk_lt (g := gb233) (o := .cells #[.int .i64 a0_0, .int .i64 a0_1] 23 (0, 0)) (by (with_reducible repeat (first | refine blk_drewN ?_ _ | refine blk_drew ?_ | refine blk_alloc ?_ _)); exact BK233.out)) : gb242 ≠ gb233)); have n10_ := Aside0.mk ((by rw [hg]; exact Nat.ne_of_lt (blk_lt (g := gb234) (o := .cells #[.int .i64 a1_0, .int .i64 a1_1] 23 (0, 0)) (by (with_reducible repeat (first | refine blk_drewN ?_ _ | refine blk_drew ?_ | refine blk_alloc ?_ _)); exact BK234.out)) : gb234 ≠ gb242)); have n11_ := Aside0.mk ((by rw [hg]; exact Nat.ne_of_gt (blk_lt (g := gb234) (o := .cells #[.int .i64 a1_0, .int .i64 a1_1] 23 (0, 0)) (by (with_reducible repeat (first | refine blk_drewN ?_ _ | refine blk_drew ?_ | refine blk_alloc ?_ _)); exact BK234.out)) : gb242 ≠ gb234)); have n12_ := Aside0.mk ((by rw [hg]; exact Nat.ne_of_lt (blk_lt (g := gb235) (o := .cells #[.int .i64 a2_0, .int .i64 a2_1] 23 (0, 0)) (by (with_reducible repeat (first | refine blk_drewN ?_ _ | refine blk_drew ?_ | refine blk_alloc ?_ _)); exact BK235.out)) : gb235 ≠ gb242)); have n13_ := Aside0.mk ((by rw [hg]; exact Nat.ne_of_gt (blk_lt (g := gb235) (o := .cells #[.int .i64 a2_0, .int .i64 a2_1] 23 (0, 0)) (by (with_reducible repeat (first | refine blk_drewN ?_ _ | refine blk_drew ?_ | refine blk_alloc ?_ _)); exact BK235.out)) : gb242 ≠ gb235)); clear HO241; clear BK233; clear BK234; clear BK235; clear HB; have HO241 := n0_; have BK233 := n1_; have BK234 := n2_; have BK235 := n3_; have HB := n4_; have BK242 := n5_; have GW242 := n6_; have GE242 := n7_; have NB233_242 := n8_; have NB242_233 := n9_; have NB234_242 := n10_; have NB242_234 := n11_; have NB235_242 := n12_; have NB242_235 := n13_; clear n0_ n1_ n2_ n3_ n4_ n5_ n6_ n7_ n8_ n9_ n10_ n11_ n12_ n13_; clear hb hbox hg; have hnb75 := NB242_233.out; have hnc75 := NB233_242.out; have hnb76 := NB242_234.out; have hnc76 := NB234_242.out; have hnb77 := NB242_235.out; have hnc77 := NB235_242.out; have hcz78_0 : w74.cell? ⟨gb242, 0, none⟩ = some (.int .i64 0) := (blk_cell BK242.out 0).trans rfl; have hcz78_1 : w74.cell? ⟨gb242, 1, none⟩ = some (.int .i64 0) := (blk_cell BK242.out 1).trans rfl; have hfz78_0 := blk_frozen BK242.out 0; have hfz78_1 := blk_frozen BK242.out 1)))
    go_loopg [71] kj3 (fun kq v71 w' => ∃ (x71_2 : Int) (x243000_2 : Int) (x243001_2 : Int), v71 = .int .i64 x71_2 ∧ Aside0 (celluloidlaw16_CurveNear.l0 kq (t239.length : Int) t239 (t239.length : Int) x71_2 a0_0 a0_1 a1_0 a1_1 a2_0 a2_1 x243000_2 x243001_2 = some r) ∧ Aside0 (kq ≤ kj3) ∧ Aside0 (Kd.R k23 23 w' w.heap.size (fun k_ => k_ ≠ gb233 ∧ k_ ≠ gb234 ∧ k_ ≠ gb235 ∧ k_ ≠ gb242) (.slice Ao72 t239.length co72) t239) ∧ Aside0 (w'.heap[gb233]? = some (.cells #[.int .i64 a0_0, .int .i64 a0_1] 23 (0, 0))) ∧ Aside0 (w'.heap[gb234]? = some (.cells #[.int .i64 a1_0, .int .i64 a1_1] 23 (0, 0))) ∧ Aside0 (w'.heap[gb235]? = some (.cells #[.int .i64 a2_0, .int .i64 a2_1] 23 (0, 0))) ∧ Aside0 (w'.heap[gb242]? = some (.cells #[.int .i64 x243000_2, .int .i64 x243001_2] 23 (0, 0))) ∧ Aside0 (Below w.heap.size w w'))
    case atStart => exact ⟨(0), (a0_0), (a0_1), (by first | rfl | (simp; done) | (simp [*]; done)), H', ⟨Nat.le_refl _⟩, ⟨by (with_reducible repeat (first | apply Kd.R_alloc | apply Kd.R_drewN | apply Kd.R_drew)); exact Kd.R_mono (Kd.R_far (p := ⟨gb242, 1, none⟩) (Kd.R_far (p := ⟨gb242, 0, none⟩) (Kd.R_mono HO241.out (fun k_ hk => (⟨hk, hk.2⟩ : _ ∧ k_ ≠ gb242))) (fun _ hk => hk.2) (.int .i64 a0_0)) (fun _ hk => hk.2) (.int .i64 a0_1)) (fun _ hk => ⟨hk.1.1.1.1.2, ⟨hk.1.1.1.2, ⟨hk.1.1.2, hk.1.2⟩⟩⟩)⟩, ⟨by (with_reducible repeat (first | refine blk_drewN ?_ _ | refine blk_drew ?_ | refine blk_alloc ?_ _)); refine blk_far ?_ NB233_242.out _; (with_reducible repeat (first | refine blk_drewN ?_ _ | refine blk_drew ?_ | refine blk_alloc ?_ _)); refine blk_far ?_ NB233_242.out _; (with_reducible repeat (first | refine blk_drewN ?_ _ | refine blk_drew ?_ | refine blk_alloc ?_ _)); exact BK233.out⟩, ⟨by (with_reducible repeat (first | refine blk_drewN ?_ _ | refine blk_drew ?_ | refine blk_alloc ?_ _)); refine blk_far ?_ NB234_242.out _; (with_reducible repeat (first | refine blk_drewN ?_ _ | refine blk_drew ?_ | refine blk_alloc ?_ _)); refine blk_far ?_ NB234_242.out _; (with_reducible repeat (first | refine blk_drewN ?_ _ | refine blk_drew ?_ | refine blk_alloc ?_ _)); exact BK234.out⟩, ⟨by (with_reducible repeat (first | refine blk_drewN ?_ _ | refine blk_drew ?_ | refine blk_alloc ?_ _)); refine blk_far ?_ NB235_242.out _; (with_reducible repeat (first | refine blk_drewN ?_ _ | refine blk_drew ?_ | refine blk_alloc ?_ _)); refine blk_far ?_ NB235_242.out _; (with_reducible repeat (first | refine blk_drewN ?_ _ | refine blk_drew ?_ | refine blk_alloc ?_ _)); exact BK235.out⟩, ⟨by (with_reducible repeat (first | refine blk_drewN ?_ _ | refine blk_drew ?_ | refine blk_alloc ?_ _)); refine blk_put (cs := #[.int .i64 a0_0, .int .i64 0]) ?_ 1 _ rfl; (with_reducible repeat (first | refine blk_drewN ?_ _ | refine blk_drew ?_ | refine blk_alloc ?_ _)); refine blk_put (cs := #[.int .i64 0, .int .i64 0]) ?_ 0 _ rfl; (with_reducible repeat (first | refine blk_drewN ?_ _ | refine blk_drew ?_ | refine blk_alloc ?_ _)); exact BK242.out⟩, ⟨by repeat (first | (with_reducible first | exact HB.out | apply below_alloc | apply pw_below_drewN | apply below_drew1 | refine below_set ?_ GE233.out | refine below_set ?_ GE234.out | refine below_set ?_ GE235.out | refine below_set ?_ GE242.out) | exact HB.out)⟩⟩
    case round =>
     clear H'
     try clear c1
     try clear p2
     try clear c3
     try clear c4
     try clear c5
     try clear c6
     try clear c7
     try clear c9
     try clear c15
     try clear c15b0
     try clear c16
     try clear c17
     try clear c19
     try clear c31
     try clear c31b0
     try clear c32
     try clear c33
     try clear c35
     try clear c43
     try clear c44
     try clear c46
     try clear c54
     try clear c55
     try clear c57
     try clear c61
     try clear c65
     try clear c66
     try clear c68
     try clear c75
     try clear c76
     try clear c77
     try clear hcz18_0
     try clear hcz18_1
     try clear hcz20_0
     try clear hcz20_1
     try clear hcz21_0
     try clear hcz21_1
     try clear hcz23_0
     try clear hcz23_1
     try clear hcz24_0
     try clear hcz24_1
     try clear hcz25_0
     try clear hcz25_1
     try clear hcz34_0
     try clear hcz34_1
     try clear hcz36_0
     try clear hcz36_1
     try clear hcz37_0
     try clear hcz37_1
     try clear hcz39_0
     try clear hcz39_1
     try clear hcz40_0
     try clear hcz40_1
     try clear hcz41_0
     try clear hcz41_1
     try clear hcz45_0
     try clear hcz45_1
     try clear hcz47_0
     try clear hcz47_1
     try clear hcz48_0
     try clear hcz48_1
     try clear hcz50_0
     try clear hcz50_1
     try clear hcz51_0
     try clear hcz51_1
     try clear hcz52_0
     try clear hcz52_1
     try clear hcz56_0
     try clear hcz56_1
     try clear hcz58_0
     try clear hcz58_1
     try clear hcz59_0
     try clear hcz59_1
     try clear hcz67_0
     try clear hcz67_1
     try clear hcz69_0
     try clear hcz69_1
     try clear hcz70_0
     try clear hcz70_1
     try clear hcz73_0
     try clear hcz73_1
     try clear hcz78_0
     try clear hcz78_1
     try clear hfz18_0
     try clear hfz18_1
     try clear hfz20_0
     try clear hfz20_1
     try clear hfz21_0
     try clear hfz21_1
     try clear hfz23_0
     try clear hfz23_1
     try clear hfz24_0
     try clear hfz24_1
     try clear hfz25_0
     try clear hfz25_1
     try clear hfz34_0
     try clear hfz34_1
     try clear hfz36_0
     try clear hfz36_1
     try clear hfz37_0
     try clear hfz37_1
     try clear hfz39_0
     try clear hfz39_1
     try clear hfz40_0
     try clear hfz40_1
     try clear hfz41_0
     try clear hfz41_1
     try clear hfz45_0
     try clear hfz45_1
     try clear hfz47_0
     try clear hfz47_1
     try clear hfz48_0
     try clear hfz48_1
     try clear hfz50_0
     try clear hfz50_1
     try clear hfz51_0
     try clear hfz51_1
     try clear hfz52_0
     try clear hfz52_1
     try clear hfz56_0
     try clear hfz56_1
     try clear hfz58_0
     try clear hfz58_1
     try clear hfz59_0
     try clear hfz59_1
     try clear hfz67_0
     try clear hfz67_1
     try clear hfz69_0
     try clear hfz69_1
     try clear hfz70_0
     try clear hfz70_1
     try clear hfz73_0
     try clear hfz73_1
     try clear hfz78_0
     try clear hfz78_1
     try clear p2
     obtain ⟨x71_2, x243000_2, x243001_2, rfl, HA, HK2, HO_69, BK233, BK234, BK235, BK242, HB⟩ := hrel
     cases gk with
     | zero => exact absurd HA.out (by simp [celluloidlaw16_CurveNear.l0])
     | succ k2 =>
      have H := HA.out
      clear HA
      simp only [celluloidlaw16_CurveNear.l0] at H
      by_cases c79 : x71_2 < (t239.length : Int)
      ·rw [if_pos c79] at H
       have c79b0 : decide (x71_2 < (t239.length : Int)) = true := decide_eq_true c79
       clear c79
       by_cases c80 : 0 ≤ x71_2
       ·rw [if_pos c80] at H
        have c80b0 : decide (0 ≤ x71_2) = true := decide_eq_true c80
        clear c80
        by_cases c81 : x71_2 < (t239.length : Int)
        ·rw [if_pos c81] at H
         have c81b0 : decide (x71_2 < (t239.length : Int)) = true := decide_eq_true c81
         clear c81
         replace H := Option.bind_eq_some_iff.mp H
         obtain ⟨t246, A820, H⟩ := H
         replace H : ((celluloidlaw16_way.f a0_1 a1_1 a2_1 (wrap64 ((wrap64 (2 * x71_2)) + 2)) (wrap64 (2 * (t239.length : Int)))).bind fun t247 => ((celluloidlaw16_way.f a0_0 a1_0 a2_0 (wrap64 ((wrap64 (2 * x71_2)) + 1)) (wrap64 (2 * (t239.length : Int)))).bind fun t248 => ((celluloidlaw16_way.f a0_1 a1_1 a2_1 (wrap64 ((wrap64 (2 * x71_2)) + 1)) (wrap64 (2 * (t239.length : Int)))).bind fun t249 => ((celluloidlaw16_beside.f (wrap64 (((rd_T23 t239 x71_2).f0) * (wrap64 ((wrap64 (4 * (t239.length : Int))) * (t239.length : Int))))) t246 (wrap64 ((wrap64 (4 * (t239.length : Int))) * (t239.length : Int)))).bind fun t250 => (if t250 = true then (celluloidlaw16_CurveNear.j2 k2 (t239.length : Int) t239 (t239.length : Int) x71_2 true a0_0 a0_1 a1_0 a1_1 a2_0 a2_1 ((rd_T23 t239 x71_2).f0) ((rd_T23 t239 x71_2).f1)) else ((celluloidlaw16_beside.f (wrap64 (((rd_T23 t239 x71_2).f1) * (wrap64 ((wrap64 (4 * (t239.length : Int))) * (t239.length : Int))))) t247 (wrap64 ((wrap64 (4 * (t239.length : Int))) * (t239.length : Int)))).bind fun t251 => (if t251 = true then (celluloidlaw16_CurveNear.j2 k2 (t239.length : Int) t239 (t239.length : Int) x71_2 true a0_0 a0_1 a1_0 a1_1 a2_0 a2_1 ((rd_T23 t239 x71_2).f0) ((rd_T23 t239 x71_2).f1)) else ((celluloidlaw16_beside.f (wrap64 (Int.tdiv (wrap64 ((wrap64 (((rd_T23 t239 x71_2).f0) + x243000_2)) * (wrap64 ((wrap64 (4 * (t239.length : Int))) * (t239.length : Int))))) 2)) t248 (wrap64 (3 * (wrap64 ((wrap64 (4 * (t239.length : Int))) * (t239.length : Int)))))).bind fun t252 => (if t252 = true then (celluloidlaw16_CurveNear.j2 k2 (t239.length : Int) t239 (t239.length : Int) x71_2 true a0_0 a0_1 a1_0 a1_1 a2_0 a2_1 ((rd_T23 t239 x71_2).f0) ((rd_T23 t239 x71_2).f1)) else ((celluloidlaw16_beside.f (wrap64 (Int.tdiv (wrap64 ((wrap64 (((rd_T23 t239 x71_2).f1) + x243001_2)) * (wrap64 ((wrap64 (4 * (t239.length : Int))) * (t239.length : Int))))) 2)) t249 (wrap64 (3 * (wrap64 ((wrap64 (4 * (t239.length : Int))) * (t239.length : Int)))))).bind fun t253 => (celluloidlaw16_CurveNear.j2 k2 (t239.length : Int) t239 (t239.length : Int) x71_2 t253 a0_0 a0_1 a1_0 a1_1 a2_0 a2_1 ((rd_T23 t239 x71_2).f0) ((rd_T23 t239 x71_2).f1)))))))))))) = some r := H
         have A82 := Aside0.mk A820
         clear A820
         replace H := Option.bind_eq_some_iff.mp H
         obtain ⟨t247, A830, H⟩ := H
         replace H : ((celluloidlaw16_way.f a0_0 a1_0 a2_0 (wrap64 ((wrap64 (2 * x71_2)) + 1)) (wrap64 (2 * (t239.length : Int)))).bind fun t248 => ((celluloidlaw16_way.f a0_1 a1_1 a2_1 (wrap64 ((wrap64 (2 * x71_2)) + 1)) (wrap64 (2 * (t239.length : Int)))).bind fun t249 => ((celluloidlaw16_beside.f (wrap64 (((rd_T23 t239 x71_2).f0) * (wrap64 ((wrap64 (4 * (t239.length : Int))) * (t239.length : Int))))) t246 (wrap64 ((wrap64 (4 * (t239.length : Int))) * (t239.length : Int)))).bind fun t250 => (if t250 = true then (celluloidlaw16_CurveNear.j2 k2 (t239.length : Int) t239 (t239.length : Int) x71_2 true a0_0 a0_1 a1_0 a1_1 a2_0 a2_1 ((rd_T23 t239 x71_2).f0) ((rd_T23 t239 x71_2).f1)) else ((celluloidlaw16_beside.f (wrap64 (((rd_T23 t239 x71_2).f1) * (wrap64 ((wrap64 (4 * (t239.length : Int))) * (t239.length : Int))))) t247 (wrap64 ((wrap64 (4 * (t239.length : Int))) * (t239.length : Int)))).bind fun t251 => (if t251 = true then (celluloidlaw16_CurveNear.j2 k2 (t239.length : Int) t239 (t239.length : Int) x71_2 true a0_0 a0_1 a1_0 a1_1 a2_0 a2_1 ((rd_T23 t239 x71_2).f0) ((rd_T23 t239 x71_2).f1)) else ((celluloidlaw16_beside.f (wrap64 (Int.tdiv (wrap64 ((wrap64 (((rd_T23 t239 x71_2).f0) + x243000_2)) * (wrap64 ((wrap64 (4 * (t239.length : Int))) * (t239.length : Int))))) 2)) t248 (wrap64 (3 * (wrap64 ((wrap64 (4 * (t239.length : Int))) * (t239.length : Int)))))).bind fun t252 => (if t252 = true then (celluloidlaw16_CurveNear.j2 k2 (t239.length : Int) t239 (t239.length : Int) x71_2 true a0_0 a0_1 a1_0 a1_1 a2_0 a2_1 ((rd_T23 t239 x71_2).f0) ((rd_T23 t239 x71_2).f1)) else ((celluloidlaw16_beside.f (wrap64 (Int.tdiv (wrap64 ((wrap64 (((rd_T23 t239 x71_2).f1) + x243001_2)) * (wrap64 ((wrap64 (4 * (t239.length : Int))) * (t239.length : Int))))) 2)) t249 (wrap64 (3 * (wrap64 ((wrap64 (4 * (t239.length : Int))) * (t239.length : Int)))))).bind fun t253 => (celluloidlaw16_CurveNear.j2 k2 (t239.length : Int) t239 (t239.length : Int) x71_2 t253 a0_0 a0_1 a1_0 a1_1 a2_0 a2_1 ((rd_T23 t239 x71_2).f0) ((rd_T23 t239 x71_2).f1))))))))))) = some r := H
         have A83 := Aside0.mk A830
         clear A830
         replace H := Option.bind_eq_some_iff.mp H
         obtain ⟨t248, A840, H⟩ := H
         replace H : ((celluloidlaw16_way.f a0_1 a1_1 a2_1 (wrap64 ((wrap64 (2 * x71_2)) + 1)) (wrap64 (2 * (t239.length : Int)))).bind fun t249 => ((celluloidlaw16_beside.f (wrap64 (((rd_T23 t239 x71_2).f0) * (wrap64 ((wrap64 (4 * (t239.length : Int))) * (t239.length : Int))))) t246 (wrap64 ((wrap64 (4 * (t239.length : Int))) * (t239.length : Int)))).bind fun t250 => (if t250 = true then (celluloidlaw16_CurveNear.j2 k2 (t239.length : Int) t239 (t239.length : Int) x71_2 true a0_0 a0_1 a1_0 a1_1 a2_0 a2_1 ((rd_T23 t239 x71_2).f0) ((rd_T23 t239 x71_2).f1)) else ((celluloidlaw16_beside.f (wrap64 (((rd_T23 t239 x71_2).f1) * (wrap64 ((wrap64 (4 * (t239.length : Int))) * (t239.length : Int))))) t247 (wrap64 ((wrap64 (4 * (t239.length : Int))) * (t239.length : Int)))).bind fun t251 => (if t251 = true then (celluloidlaw16_CurveNear.j2 k2 (t239.length : Int) t239 (t239.length : Int) x71_2 true a0_0 a0_1 a1_0 a1_1 a2_0 a2_1 ((rd_T23 t239 x71_2).f0) ((rd_T23 t239 x71_2).f1)) else ((celluloidlaw16_beside.f (wrap64 (Int.tdiv (wrap64 ((wrap64 (((rd_T23 t239 x71_2).f0) + x243000_2)) * (wrap64 ((wrap64 (4 * (t239.length : Int))) * (t239.length : Int))))) 2)) t248 (wrap64 (3 * (wrap64 ((wrap64 (4 * (t239.length : Int))) * (t239.length : Int)))))).bind fun t252 => (if t252 = true then (celluloidlaw16_CurveNear.j2 k2 (t239.length : Int) t239 (t239.length : Int) x71_2 true a0_0 a0_1 a1_0 a1_1 a2_0 a2_1 ((rd_T23 t239 x71_2).f0) ((rd_T23 t239 x71_2).f1)) else ((celluloidlaw16_beside.f (wrap64 (Int.tdiv (wrap64 ((wrap64 (((rd_T23 t239 x71_2).f1) + x243001_2)) * (wrap64 ((wrap64 (4 * (t239.length : Int))) * (t239.length : Int))))) 2)) t249 (wrap64 (3 * (wrap64 ((wrap64 (4 * (t239.length : Int))) * (t239.length : Int)))))).bind fun t253 => (celluloidlaw16_CurveNear.j2 k2 (t239.length : Int) t239 (t239.length : Int) x71_2 t253 a0_0 a0_1 a1_0 a1_1 a2_0 a2_1 ((rd_T23 t239 x71_2).f0) ((rd_T23 t239 x71_2).f1)))))))))) = some r := H
         have A84 := Aside0.mk A840
         clear A840
         replace H := Option.bind_eq_some_iff.mp H
         obtain ⟨t249, A850, H⟩ := H
         replace H : ((celluloidlaw16_beside.f (wrap64 (((rd_T23 t239 x71_2).f0) * (wrap64 ((wrap64 (4 * (t239.length : Int))) * (t239.length : Int))))) t246 (wrap64 ((wrap64 (4 * (t239.length : Int))) * (t239.length : Int)))).bind fun t250 => (if t250 = true then (celluloidlaw16_CurveNear.j2 k2 (t239.length : Int) t239 (t239.length : Int) x71_2 true a0_0 a0_1 a1_0 a1_1 a2_0 a2_1 ((rd_T23 t239 x71_2).f0) ((rd_T23 t239 x71_2).f1)) else ((celluloidlaw16_beside.f (wrap64 (((rd_T23 t239 x71_2).f1) * (wrap64 ((wrap64 (4 * (t239.length : Int))) * (t239.length : Int))))) t247 (wrap64 ((wrap64 (4 * (t239.length : Int))) * (t239.length : Int)))).bind fun t251 => (if t251 = true then (celluloidlaw16_CurveNear.j2 k2 (t239.length : Int) t239 (t239.length : Int) x71_2 true a0_0 a0_1 a1_0 a1_1 a2_0 a2_1 ((rd_T23 t239 x71_2).f0) ((rd_T23 t239 x71_2).f1)) else ((celluloidlaw16_beside.f (wrap64 (Int.tdiv (wrap64 ((wrap64 (((rd_T23 t239 x71_2).f0) + x243000_2)) * (wrap64 ((wrap64 (4 * (t239.length : Int))) * (t239.length : Int))))) 2)) t248 (wrap64 (3 * (wrap64 ((wrap64 (4 * (t239.length : Int))) * (t239.length : Int)))))).bind fun t252 => (if t252 = true then (celluloidlaw16_CurveNear.j2 k2 (t239.length : Int) t239 (t239.length : Int) x71_2 true a0_0 a0_1 a1_0 a1_1 a2_0 a2_1 ((rd_T23 t239 x71_2).f0) ((rd_T23 t239 x71_2).f1)) else ((celluloidlaw16_beside.f (wrap64 (Int.tdiv (wrap64 ((wrap64 (((rd_T23 t239 x71_2).f1) + x243001_2)) * (wrap64 ((wrap64 (4 * (t239.length : Int))) * (t239.length : Int))))) 2)) t249 (wrap64 (3 * (wrap64 ((wrap64 (4 * (t239.length : Int))) * (t239.length : Int)))))).bind fun t253 => (celluloidlaw16_CurveNear.j2 k2 (t239.length : Int) t239 (t239.length : Int) x71_2 t253 a0_0 a0_1 a1_0 a1_1 a2_0 a2_1 ((rd_T23 t239 x71_2).f0) ((rd_T23 t239 x71_2).f1))))))))) = some r := H
         have A85 := Aside0.mk A850
         clear A850
         have HC86 := Aside0.mk H
         clear H
         have p244 : 0 ≤ (x71_2 : Int) := of_decide_eq_true (by first | (with_reducible assumption) | assumption)
         have q244 : x71_2 < (t239.length : Int) := of_decide_eq_true (by first | (with_reducible assumption) | assumption)
         obtain ⟨ad244, e244, hx244_0, hx244_1⟩ := at_T23 (Kd.R_reads' HO_69.out).2.2 x71_2 p244 q244
         cases e244
         replace p244 := eq_true p244
         replace q244 := eq_true q244
         go_upto_region 12 with (first | ((with_reducible refine gate_dst (N := 11) rfl ?_); (try (refine gate_guard (by rfl) ?_; dsimp only)); refine box_event ?hg (N := 11) ?hd (cs := #[.int .i64 0, .int .i64 0]) (t := 23) ?hr ?_; (case hd => rfl); (case hg => rfl); (case hr => first | (go_simp; done) | (go_simp; rfl)); intro gb245 hg w87 hbox hb; have n0_ := Aside0.mk (Kd.R_below (Kd.R_elderB (by (with_reducible repeat (first | apply Kd.R_alloc | apply Kd.R_drewN | apply Kd.R_drew)); exact HO_69.out) gb245 (Nat.le_of_eq hg.symm)) hb); have n1_ := Aside0.mk (blk_below (g := gb233) (o := .cells #[.int .i64 a0_0, .int .i64 a0_1] 23 (0, 0)) (by (with_reducible repeat (first | refine blk_drewN ?_ _ | refine blk_drew ?_ | refine blk_alloc ?_ _)); exact BK233.out) hb); have n2_ := Aside0.mk (blk_below (g := gb234) (o := .cells #[.int .i64 a1_0, .int .i64 a1_1] 23 (0, 0)) (by (with_reducible repeat (first | refine blk_drewN ?_ _ | refine blk_drew ?_ | refine blk_alloc ?_ _)); exact BK234.out) hb); have n3_ := Aside0.mk (blk_below (g := gb235) (o := .cells #[.int .i64 a2_0, .int .i64 a2_1] 23 (0, 0)) (by (with_reducible repeat (first | refine blk_drewN ?_ _ | refine blk_drew ?_ | refine blk_alloc ?_ _)); exact BK235.out) hb); have n4_ := Aside0.mk (blk_below (g := gb242) (o := .cells #[.int .i64 x243000_2, .int .i64 x243001_2] 23 (0, 0)) (by (with_reducible repeat (first | refine blk_drewN ?_ _ | refine blk_drew ?_ | refine blk_alloc ?_ _)); exact BK242.out) hb); have n5_ := Aside0.mk (below_step (by repeat (first | (with_reducible first | exact HB.out | apply below_alloc | apply pw_below_drewN | apply below_drew1 | refine below_set ?_ GE233.out | refine below_set ?_ GE234.out | refine below_set ?_ GE235.out | refine below_set ?_ GE242.out) | exact HB.out)) hb); have n6_ := Aside0.mk (hbox); have n7_ := Aside0.mk ((by rw [hg]; exact (below_size (by repeat (first | (with_reducible first | exact HB.out | apply below_alloc | apply pw_below_drewN | apply below_drew1 | refine below_set ?_ GE233.out | refine below_set ?_ GE234.out | refine below_set ?_ GE235.out | refine below_set ?_ GE242.out) | exact HB.out))) : w.heap.size ≤ gb245)); have n8_ := Aside0.mk ((by rw [hg]; exact (below_size (by repeat (first | (with_reducible first | exact HB.out | apply below_alloc | apply pw_below_drewN | apply below_drew1 | refine below_set ?_ GE233.out | refine below_set ?_ GE234.out | refine below_set ?_ GE235.out | refine below_set ?_ GE242.out) | exact HB.out))) : w.heap.size ≤ gb245)); have n9_ := Aside0.mk ((by rw [hg]; exact Nat.ne_of_lt (blk_lt (g := gb233) (o := .cells #[.int .i64 a0_0, .int .i64 a0_1] 23 (0, 0)) (by (with_reducible repeat (first | refine blk_drewN ?_ _ | refine blk_drew ?_ | refine blk_alloc ?_ _)); exact BK233.out)) : gb233 ≠ gb245)); have n10_ := Aside0.mk ((by rw [hg]; exact Nat.ne_of_gt (blk_lt (g := gb233) (o := .cells #[.int .i64 a0_0, .int .i64 a0_1] 23 (0, 0)) (by (with_reducible repeat (first | refine blk_drewN ?_ _ | refine blk_drew ?_ | refine blk_alloc ?_ _)); exact BK233.out)) : gb245 ≠ gb233)); have n11_ := Aside0.mk ((by rw [hg]; exact Nat.ne_of_lt (blk_lt (g := gb234) (o := .cells #[.int .i64 a1_0, .int .i64 a1_1] 23 (0, 0)) (by (with_reducible repeat (first | refine blk_drewN ?_ _ | refine blk_drew ?_ | refine blk_alloc ?_ _)); exact BK234.out)) : gb234 ≠ gb245)); have n12_ := Aside0.mk ((by rw [hg]; exact Nat.ne_of_gt (blk_lt (g := gb234) (o := .cells #[.int .i64 a1_0, .int .i64 a1_1] 23 (0, 0)) (by (with_reducible repeat (first | refine blk_drewN ?_ _ | refine blk_drew ?_ | refine blk_alloc ?_ _)); exact BK234.out)) : gb245 ≠ gb234)); have n13_ := Aside0.mk ((by rw [hg]; exact Nat.ne_of_lt (blk_lt (g := gb235) (o := .cells #[.int .i64 a2_0, .int .i64 a2_1] 23 (0, 0)) (by (with_reducible repeat (first | refine blk_drewN ?_ _ | refine blk_drew ?_ | refine blk_alloc ?_ _)); exact BK235.out)) : gb235 ≠ gb245)); have n14_ := Aside0.mk ((by rw [hg]; exact Nat.ne_of_gt (blk_lt (g := gb235) (o := .cells #[.int .i64 a2_0, .int .i64 a2_1] 23 (0, 0)) (by (with_reducible repeat (first | refine blk_drewN ?_ _ | refine blk_drew ?_ | refine blk_alloc ?_ _)); exact BK235.out)) : gb245 ≠ gb235)); have n15_ := Aside0.mk ((by rw [hg]; exact Nat.ne_of_lt (blk_lt (g := gb242) (o := .cells #[.int .i64 x243000_2, .int .i64 x243001_2] 23 (0, 0)) (by (with_reducible repeat (first | refine blk_drewN ?_ _ | refine blk_drew ?_ | refine blk_alloc ?_ _)); exact BK242.out)) : gb242 ≠ gb245)); have n16_ := Aside0.mk ((by rw [hg]; exact Nat.ne_of_gt (blk_lt (g := gb242) (o := .cells #[.int .i64 x243000_2, .int .i64 x243001_2] 23 (0, 0)) (by (with_reducible repeat (first | refine blk_drewN ?_ _ | refine blk_drew ?_ | refine blk_alloc ?_ _)); exact BK242.out)) : gb245 ≠ gb242)); clear HO_69; clear BK233; clear BK234; clear BK235; clear BK242; clear HB; have HO_69 := n0_; have BK233 := n1_; have BK234 := n2_; have BK235 := n3_; have BK242 := n4_; have HB := n5_; have BK245 := n6_; have GW245 := n7_; have GE245 := n8_; have NB233_245 := n9_; have NB245_233 := n10_; have NB234_245 := n11_; have NB245_234 := n12_; have NB235_245 := n13_; have NB245_235 := n14_; have NB242_245 := n15_; have NB245_242 := n16_; clear n0_ n1_ n2_ n3_ n4_ n5_ n6_ n7_ n8_ n9_ n10_ n11_ n12_ n13_ n14_ n15_ n16_; clear hb hbox hg; have hnb88 := NB245_233.out; have hnc88 := NB233_245.out; have hnb89 := NB245_234.out; have hnc89 := NB234_245.out; have hnb90 := NB245_235.out; have hnc90 := NB235_245.out; have hnb91 := NB245_242.out; have hnc91 := NB242_245.out; have hcz92_0 : w87.cell? ⟨gb245, 0, none⟩ = some (.int .i64 0) := (blk_cell BK245.out 0).trans rfl; have hcz92_1 : w87.cell? ⟨gb245, 1, none⟩ = some (.int .i64 0) := (blk_cell BK245.out 1).trans rfl; have hfz92_0 := blk_frozen BK245.out 0; have hfz92_1 := blk_frozen BK245.out 1; have hnb93 := NB233_234.out; have hnc93 := NB234_233.out; have hnb94 := NB233_235.out; have hnc94 := NB235_233.out; have hnb95 := NB233_242.out; have hnc95 := NB242_233.out; have hcz96_0 : w87.cell? ⟨gb233, 0, none⟩ = some (.int .i64 a0_0) := (blk_cell BK233.out 0).trans rfl; have hcz96_1 : w87.cell? ⟨gb233, 1, none⟩ = some (.int .i64 a0_1) := (blk_cell BK233.out 1).trans rfl; have hfz96_0 := blk_frozen BK233.out 0; have hfz96_1 := blk_frozen BK233.out 1; have hnb97 := NB234_235.out; have hnc97 := NB235_234.out; have hnb98 := NB234_242.out; have hnc98 := NB242_234.out; have hcz99_0 : w87.cell? ⟨gb234, 0, none⟩ = some (.int .i64 a1_0) := (blk_cell BK234.out 0).trans rfl; have hcz99_1 : w87.cell? ⟨gb234, 1, none⟩ = some (.int .i64 a1_1) := (blk_cell BK234.out 1).trans rfl; have hfz99_0 := blk_frozen BK234.out 0; have hfz99_1 := blk_frozen BK234.out 1; have hnb100 := NB235_242.out; have hnc100 := NB242_235.out; have hcz101_0 : w87.cell? ⟨gb235, 0, none⟩ = some (.int .i64 a2_0) := (blk_cell BK235.out 0).trans rfl; have hcz101_1 : w87.cell? ⟨gb235, 1, none⟩ = some (.int .i64 a2_1) := (blk_cell BK235.out 1).trans rfl; have hfz101_0 := blk_frozen BK235.out 0; have hfz101_1 := blk_frozen BK235.out 1) | (go_at_call 18; (with_reducible refine (celluloidlaw16_way.calls a0_0 a1_0 a2_0 (wrap64 ((wrap64 (2 * x71_2)) + 2)) (wrap64 (2 * (t239.length : Int))) t246 _ A82.out).mono ?_); rintro e w' ⟨rfl, ⟨nd, rfl⟩⟩; (try first | exact ⟨rfl, _, World.drewN_drewN _ _ _⟩ | exact ⟨rfl, _, Eq.trans (World.drewN_drewN _ _ _) (congrArg (World.drewN _) (Nat.add_assoc _ _ _))⟩)) | (go_at_call 18; (with_reducible refine (celluloidlaw16_way.calls a0_1 a1_1 a2_1 (wrap64 ((wrap64 (2 * x71_2)) + 2)) (wrap64 (2 * (t239.length : Int))) t247 _ A83.out).mono ?_); rintro e w' ⟨rfl, ⟨nd, rfl⟩⟩; (try first | exact ⟨rfl, _, World.drewN_drewN _ _ _⟩ | exact ⟨rfl, _, Eq.trans (World.drewN_drewN _ _ _) (congrArg (World.drewN _) (Nat.add_assoc _ _ _))⟩)) | (go_at_call 18; (with_reducible refine (celluloidlaw16_way.calls a0_0 a1_0 a2_0 (wrap64 ((wrap64 (2 * x71_2)) + 1)) (wrap64 (2 * (t239.length : Int))) t248 _ A84.out).mono ?_); rintro e w' ⟨rfl, ⟨nd, rfl⟩⟩; (try first | exact ⟨rfl, _, World.drewN_drewN _ _ _⟩ | exact ⟨rfl, _, Eq.trans (World.drewN_drewN _ _ _) (congrArg (World.drewN _) (Nat.add_assoc _ _ _))⟩)) | (go_at_call 18; (with_reducible refine (celluloidlaw16_way.calls a0_1 a1_1 a2_1 (wrap64 ((wrap64 (2 * x71_2)) + 1)) (wrap64 (2 * (t239.length : Int))) t249 _ A85.out).mono ?_); rintro e w' ⟨rfl, ⟨nd, rfl⟩⟩; (try first | exact ⟨rfl, _, World.drewN_drewN _ _ _⟩ | exact ⟨rfl, _, Eq.trans (World.drewN_drewN _ _ _) (congrArg (World.drewN _) (Nat.add_assoc _ _ _))⟩)))
         repeat (go_quiet (first | ((with_reducible refine gate_dst (N := 11) rfl ?_); (try (refine gate_guard (by rfl) ?_; dsimp only)); refine box_event ?hg (N := 11) ?hd (cs := #[.int .i64 0, .int .i64 0]) (t := 23) ?hr ?_; (case hd => rfl); (case hg => rfl); (case hr => first | (go_simp; done) | (go_simp; rfl)); intro gb245 hg w87 hbox hb; have n0_ := Aside0.mk (Kd.R_below (Kd.R_elderB (by (with_reducible repeat (first | apply Kd.R_alloc | apply Kd.R_drewN | apply Kd.R_drew)); exact HO_69.out) gb245 (Nat.le_of_eq hg.symm)) hb); have n1_ := Aside0.mk (blk_below (g := gb233) (o := .cells #[.int .i64 a0_0, .int .i64 a0_1] 23 (0, 0)) (by (with_reducible repeat (first | refine blk_drewN ?_ _ | refine blk_drew ?_ | refine blk_alloc ?_ _)); exact BK233.out) hb); have n2_ := Aside0.mk (blk_below (g := gb234) (o := .cells #[.int .i64 a1_0, .int .i64 a1_1] 23 (0, 0)) (by (with_reducible repeat (first | refine blk_drewN ?_ _ | refine blk_drew ?_ | refine blk_alloc ?_ _)); exact BK234.out) hb); have n3_ := Aside0.mk (blk_below (g := gb235) (o := .cells #[.int .i64 a2_0, .int .i64 a2_1] 23 (0, 0)) (by (with_reducible repeat (first | refine blk_drewN ?_ _ | refine blk_drew ?_ | refine blk_alloc ?_ _)); exact BK235.out) hb); have n4_ := Aside0.mk (blk_below (g := gb242) (o := .cells #[.int .i64 x243000_2, .int .i64 x243001_2] 23 (0, 0)) (by (with_reducible repeat (first | refine blk_drewN ?_ _ | refine blk_drew ?_ | refine blk_alloc ?_ _)); exact BK242.out) hb); have n5_ := Aside0.mk (below_step (by repeat (first | (with_reducible first | exact HB.out | apply below_alloc | apply pw_below_drewN | apply below_drew1 | refine below_set ?_ GE233.out | refine below_set ?_ GE234.out | refine below_set ?_ GE235.out | refine below_set ?_ GE242.out) | exact HB.out)) hb); have n6_ := Aside0.mk (hbox); have n7_ := Aside0.mk ((by rw [hg]; exact (below_size (by repeat (first | (with_reducible first | exact HB.out | apply below_alloc | apply pw_below_drewN | apply below_drew1 | refine below_set ?_ GE233.out | refine below_set ?_ GE234.out | refine below_set ?_ GE235.out | refine below_set ?_ GE242.out) | exact HB.out))) : w.heap.size ≤ gb245)); have n8_ := Aside0.mk ((by rw [hg]; exact (below_size (by repeat (first | (with_reducible first | exact HB.out | apply below_alloc | apply pw_below_drewN | apply below_drew1 | refine below_set ?_ GE233.out | refine below_set ?_ GE234.out | refine below_set ?_ GE235.out | refine below_set ?_ GE242.out) | exact HB.out))) : w.heap.size ≤ gb245)); have n9_ := Aside0.mk ((by rw [hg]; exact Nat.ne_of_lt (blk_lt (g := gb233) (o := .cells #[.int .i64 a0_0, .int .i64 a0_1] 23 (0, 0)) (by (with_reducible repeat (first | refine blk_drewN ?_ _ | refine blk_drew ?_ | refine blk_alloc ?_ _)); exact BK233.out)) : gb233 ≠ gb245)); have n10_ := Aside0.mk ((by rw [hg]; exact Nat.ne_of_gt (blk_lt (g := gb233) (o := .cells #[.int .i64 a0_0, .int .i64 a0_1] 23 (0, 0)) (by (with_reducible repeat (first | refine blk_drewN ?_ _ | refine blk_drew ?_ | refine blk_alloc ?_ _)); exact BK233.out)) : gb245 ≠ gb233)); have n11_ := Aside0.mk ((by rw [hg]; exact Nat.ne_of_lt (blk_lt (g := gb234) (o := .cells #[.int .i64 a1_0, .int .i64 a1_1] 23 (0, 0)) (by (with_reducible repeat (first | refine blk_drewN ?_ _ | refine blk_drew ?_ | refine blk_alloc ?_ _)); exact BK234.out)) : gb234 ≠ gb245)); have n12_ := Aside0.mk ((by rw [hg]; exact Nat.ne_of_gt (blk_lt (g := gb234) (o := .cells #[.int .i64 a1_0, .int .i64 a1_1] 23 (0, 0)) (by (with_reducible repeat (first | refine blk_drewN ?_ _ | refine blk_drew ?_ | refine blk_alloc ?_ _)); exact BK234.out)) : gb245 ≠ gb234)); have n13_ := Aside0.mk ((by rw [hg]; exact Nat.ne_of_lt (blk_lt (g := gb235) (o := .cells #[.int .i64 a2_0, .int .i64 a2_1] 23 (0, 0)) (by (with_reducible repeat (first | refine blk_drewN ?_ _ | refine blk_drew ?_ | refine blk_alloc ?_ _)); exact BK235.out)) : gb235 ≠ gb245)); have n14_ := Aside0.mk ((by rw [hg]; exact Nat.ne_of_gt (blk_lt (g := gb235) (o := .cells #[.int .i64 a2_0, .int .i64 a2_1] 23 (0, 0)) (by (with_reducible repeat (first | refine blk_drewN ?_ _ | refine blk_drew ?_ | refine blk_alloc ?_ _)); exact BK235.out)) : gb245 ≠ gb235)); have n15_ := Aside0.mk ((by rw [hg]; exact Nat.ne_of_lt (blk_lt (g := gb242) (o := .cells #[.int .i64 x243000_2, .int .i64 x243001_2] 23 (0, 0)) (by (with_reducible repeat (first | refine blk_drewN ?_ _ | refine blk_drew ?_ | refine blk_alloc ?_ _)); exact BK242.out)) : gb242 ≠ gb245)); have n16_ := Aside0.mk ((by rw [hg]; exact Nat.ne_of_gt (blk_lt (g := gb242) (o := .cells #[.int .i64 x243000_2, .int .i64 x243001_2] 23 (0, 0)) (by (with_reducible repeat (first | refine blk_drewN ?_ _ | refine blk_drew ?_ | refine blk_alloc ?_ _)); exact BK242.out)) : gb245 ≠ gb242)); clear HO_69; clear BK233; clear BK234; clear BK235; clear BK242; clear HB; have HO_69 := n0_; have BK233 := n1_; have BK234 := n2_; have BK235 := n3_; have BK242 := n4_; have HB := n5_; have BK245 := n6_; have GW245 := n7_; have GE245 := n8_; have NB233_245 := n9_; have NB245_233 := n10_; have NB234_245 := n11_; have NB245_234 := n12_; have NB235_245 := n13_; have NB245_235 := n14_; have NB242_245 := n15_; have NB245_242 := n16_; clear n0_ n1_ n2_ n3_ n4_ n5_ n6_ n7_ n8_ n9_ n10_ n11_ n12_ n13_ n14_ n15_ n16_; clear hb hbox hg; have hnb88 := NB245_233.out; have hnc88 := NB233_245.out; have hnb89 := NB245_234.out; have hnc89 := NB234_245.out; have hnb90 := NB245_235.out; have hnc90 := NB235_245.out; have hnb91 := NB245_242.out; have hnc91 := NB242_245.out; have hcz92_0 : w87.cell? ⟨gb245, 0, none⟩ = some (.int .i64 0) := (blk_cell BK245.out 0).trans rfl; have hcz92_1 : w87.cell? ⟨gb245, 1, none⟩ = some (.int .i64 0) := (blk_cell BK245.out 1).trans rfl; have hfz92_0 := blk_frozen BK245.out 0; have hfz92_1 := blk_frozen BK245.out 1; have hnb93 := NB233_234.out; have hnc93 := NB234_233.out; have hnb94 := NB233_235.out; have hnc94 := NB235_233.out; have hnb95 := NB233_242.out; have hnc95 := NB242_233.out; have hcz96_0 : w87.cell? ⟨gb233, 0, none⟩ = some (.int .i64 a0_0) := (blk_cell BK233.out 0).trans rfl; have hcz96_1 : w87.cell? ⟨gb233, 1, none⟩ = some (.int .i64 a0_1) := (blk_cell BK233.out 1).trans rfl; have hfz96_0 := blk_frozen BK233.out 0; have hfz96_1 := blk_frozen BK233.out 1; have hnb97 := NB234_235.out; have hnc97 := NB235_234.out; have hnb98 := NB234_242.out; have hnc98 := NB242_234.out; have hcz99_0 : w87.cell? ⟨gb234, 0, none⟩ = some (.int .i64 a1_0) := (blk_cell BK234.out 0).trans rfl; have hcz99_1 : w87.cell? ⟨gb234, 1, none⟩ = some (.int .i64 a1_1) := (blk_cell BK234.out 1).trans rfl; have hfz99_0 := blk_frozen BK234.out 0; have hfz99_1 := blk_frozen BK234.out 1; have hnb100 := NB235_242.out; have hnc100 := NB242_235.out; have hcz101_0 : w87.cell? ⟨gb235, 0, none⟩ = some (.int .i64 a2_0) := (blk_cell BK235.out 0).trans rfl; have hcz101_1 : w87.cell? ⟨gb235, 1, none⟩ = some (.int .i64 a2_1) := (blk_cell BK235.out 1).trans rfl; have hfz101_0 := blk_frozen BK235.out 0; have hfz101_1 := blk_frozen BK235.out 1) | (go_at_call 18; (with_reducible refine (celluloidlaw16_way.calls a0_0 a1_0 a2_0 (wrap64 ((wrap64 (2 * x71_2)) + 2)) (wrap64 (2 * (t239.length : Int))) t246 _ A82.out).mono ?_); rintro e w' ⟨rfl, ⟨nd, rfl⟩⟩; (try first | exact ⟨rfl, _, World.drewN_drewN _ _ _⟩ | exact ⟨rfl, _, Eq.trans (World.drewN_drewN _ _ _) (congrArg (World.drewN _) (Nat.add_assoc _ _ _))⟩)) | (go_at_call 18; (with_reducible refine (celluloidlaw16_way.calls a0_1 a1_1 a2_1 (wrap64 ((wrap64 (2 * x71_2)) + 2)) (wrap64 (2 * (t239.length : Int))) t247 _ A83.out).mono ?_); rintro e w' ⟨rfl, ⟨nd, rfl⟩⟩; (try first | exact ⟨rfl, _, World.drewN_drewN _ _ _⟩ | exact ⟨rfl, _, Eq.trans (World.drewN_drewN _ _ _) (congrArg (World.drewN _) (Nat.add_assoc _ _ _))⟩)) | (go_at_call 18; (with_reducible refine (celluloidlaw16_way.calls a0_0 a1_0 a2_0 (wrap64 ((wrap64 (2 * x71_2)) + 1)) (wrap64 (2 * (t239.length : Int))) t248 _ A84.out).mono ?_); rintro e w' ⟨rfl, ⟨nd, rfl⟩⟩; (try first | exact ⟨rfl, _, World.drewN_drewN _ _ _⟩ | exact ⟨rfl, _, Eq.trans (World.drewN_drewN _ _ _) (congrArg (World.drewN _) (Nat.add_assoc _ _ _))⟩)) | (go_at_call 18; (with_reducible refine (celluloidlaw16_way.calls a0_1 a1_1 a2_1 (wrap64 ((wrap64 (2 * x71_2)) + 1)) (wrap64 (2 * (t239.length : Int))) t249 _ A85.out).mono ?_); rintro e w' ⟨rfl, ⟨nd, rfl⟩⟩; (try first | exact ⟨rfl, _, World.drewN_drewN _ _ _⟩ | exact ⟨rfl, _, Eq.trans (World.drewN_drewN _ _ _) (congrArg (World.drewN _) (Nat.add_assoc _ _ _))⟩))); go_upto_region 12 with (first | ((with_reducible refine gate_dst (N := 11) rfl ?_); (try (refine gate_guard (by rfl) ?_; dsimp only)); refine box_event ?hg (N := 11) ?hd (cs := #[.int .i64 0, .int .i64 0]) (t := 23) ?hr ?_; (case hd => rfl); (case hg => rfl); (case hr => first | (go_simp; done) | (go_simp; rfl)); intro gb245 hg w87 hbox hb; have n0_ := Aside0.mk (Kd.R_below (Kd.R_elderB (by (with_reducible repeat (first | apply Kd.R_alloc | apply Kd.R_drewN | apply Kd.R_drew)); exact HO_69.out) gb245 (Nat.le_of_eq hg.symm)) hb); have n1_ := Aside0.mk (blk_below (g := gb233) (o := .cells #[.int .i64 a0_0, .int .i64 a0_1] 23 (0, 0)) (by (with_reducible repeat (first | refine blk_drewN ?_ _ | refine blk_drew ?_ | refine blk_alloc ?_ _)); exact BK233.out) hb); have n2_ := Aside0.mk (blk_below (g := gb234) (o := .cells #[.int .i64 a1_0, .int .i64 a1_1] 23 (0, 0)) (by (with_reducible repeat (first | refine blk_drewN ?_ _ | refine blk_drew ?_ | refine blk_alloc ?_ _)); exact BK234.out) hb); have n3_ := Aside0.mk (blk_below (g := gb235) (o := .cells #[.int .i64 a2_0, .int .i64 a2_1] 23 (0, 0)) (by (with_reducible repeat (first | refine blk_drewN ?_ _ | refine blk_drew ?_ | refine blk_alloc ?_ _)); exact BK235.out) hb); have n4_ := Aside0.mk (blk_below (g := gb242) (o := .cells #[.int .i64 x243000_2, .int .i64 x243001_2] 23 (0, 0)) (by (with_reducible repeat (first | refine blk_drewN ?_ _ | refine blk_drew ?_ | refine blk_alloc ?_ _)); exact BK242.out) hb); have n5_ := Aside0.mk (below_step (by repeat (first | (with_reducible first | exact HB.out | apply below_alloc | apply pw_below_drewN | apply below_drew1 | refine below_set ?_ GE233.out | refine below_set ?_ GE234.out | refine below_set ?_ GE235.out | refine below_set ?_ GE242.out) | exact HB.out)) hb); have n6_ := Aside0.mk (hbox); have n7_ := Aside0.mk ((by rw [hg]; exact (below_size (by repeat (first | (with_reducible first | exact HB.out | apply below_alloc | apply pw_below_drewN | apply below_drew1 | refine below_set ?_ GE233.out | refine below_set ?_ GE234.out | refine below_set ?_ GE235.out | refine below_set ?_ GE242.out) | exact HB.out))) : w.heap.size ≤ gb245)); have n8_ := Aside0.mk ((by rw [hg]; exact (below_size (by repeat (first | (with_reducible first | exact HB.out | apply below_alloc | apply pw_below_drewN | apply below_drew1 | refine below_set ?_ GE233.out | refine below_set ?_ GE234.out | refine below_set ?_ GE235.out | refine below_set ?_ GE242.out) | exact HB.out))) : w.heap.size ≤ gb245)); have n9_ := Aside0.mk ((by rw [hg]; exact Nat.ne_of_lt (blk_lt (g := gb233) (o := .cells #[.int .i64 a0_0, .int .i64 a0_1] 23 (0, 0)) (by (with_reducible repeat (first | refine blk_drewN ?_ _ | refine blk_drew ?_ | refine blk_alloc ?_ _)); exact BK233.out)) : gb233 ≠ gb245)); have n10_ := Aside0.mk ((by rw [hg]; exact Nat.ne_of_gt (blk_lt (g := gb233) (o := .cells #[.int .i64 a0_0, .int .i64 a0_1] 23 (0, 0)) (by (with_reducible repeat (first | refine blk_drewN ?_ _ | refine blk_drew ?_ | refine blk_alloc ?_ _)); exact BK233.out)) : gb245 ≠ gb233)); have n11_ := Aside0.mk ((by rw [hg]; exact Nat.ne_of_lt (blk_lt (g := gb234) (o := .cells #[.int .i64 a1_0, .int .i64 a1_1] 23 (0, 0)) (by (with_reducible repeat (first | refine blk_drewN ?_ _ | refine blk_drew ?_ | refine blk_alloc ?_ _)); exact BK234.out)) : gb234 ≠ gb245)); have n12_ := Aside0.mk ((by rw [hg]; exact Nat.ne_of_gt (blk_lt (g := gb234) (o := .cells #[.int .i64 a1_0, .int .i64 a1_1] 23 (0, 0)) (by (with_reducible repeat (first | refine blk_drewN ?_ _ | refine blk_drew ?_ | refine blk_alloc ?_ _)); exact BK234.out)) : gb245 ≠ gb234)); have n13_ := Aside0.mk ((by rw [hg]; exact Nat.ne_of_lt (blk_lt (g := gb235) (o := .cells #[.int .i64 a2_0, .int .i64 a2_1] 23 (0, 0)) (by (with_reducible repeat (first | refine blk_drewN ?_ _ | refine blk_drew ?_ | refine blk_alloc ?_ _)); exact BK235.out)) : gb235 ≠ gb245)); have n14_ := Aside0.mk ((by rw [hg]; exact Nat.ne_of_gt (blk_lt (g := gb235) (o := .cells #[.int .i64 a2_0, .int .i64 a2_1] 23 (0, 0)) (by (with_reducible repeat (first | refine blk_drewN ?_ _ | refine blk_drew ?_ | refine blk_alloc ?_ _)); exact BK235.out)) : gb245 ≠ gb235)); have n15_ := Aside0.mk ((by rw [hg]; exact Nat.ne_of_lt (blk_lt (g := gb242) (o := .cells #[.int .i64 x243000_2, .int .i64 x243001_2] 23 (0, 0)) (by (with_reducible repeat (first | refine blk_drewN ?_ _ | refine blk_drew ?_ | refine blk_alloc ?_ _)); exact BK242.out)) : gb242 ≠ gb245)); have n16_ := Aside0.mk ((by rw [hg]; exact Nat.ne_of_gt (blk_lt (g := gb242) (o := .cells #[.int .i64 x243000_2, .int .i64 x243001_2] 23 (0, 0)) (by (with_reducible repeat (first | refine blk_drewN ?_ _ | refine blk_drew ?_ | refine blk_alloc ?_ _)); exact BK242.out)) : gb245 ≠ gb242)); clear HO_69; clear BK233; clear BK234; clear BK235; clear BK242; clear HB; have HO_69 := n0_; have BK233 := n1_; have BK234 := n2_; have BK235 := n3_; have BK242 := n4_; have HB := n5_; have BK245 := n6_; have GW245 := n7_; have GE245 := n8_; have NB233_245 := n9_; have NB245_233 := n10_; have NB234_245 := n11_; have NB245_234 := n12_; have NB235_245 := n13_; have NB245_235 := n14_; have NB242_245 := n15_; have NB245_242 := n16_; clear n0_ n1_ n2_ n3_ n4_ n5_ n6_ n7_ n8_ n9_ n10_ n11_ n12_ n13_ n14_ n15_ n16_; clear hb hbox hg; have hnb88 := NB245_233.out; have hnc88 := NB233_245.out; have hnb89 := NB245_234.out; have hnc89 := NB234_245.out; have hnb90 := NB245_235.out; have hnc90 := NB235_245.out; have hnb91 := NB245_242.out; have hnc91 := NB242_245.out; have hcz92_0 : w87.cell? ⟨gb245, 0, none⟩ = some (.int .i64 0) := (blk_cell BK245.out 0).trans rfl; have hcz92_1 : w87.cell? ⟨gb245, 1, none⟩ = some (.int .i64 0) := (blk_cell BK245.out 1).trans rfl; have hfz92_0 := blk_frozen BK245.out 0; have hfz92_1 := blk_frozen BK245.out 1; have hnb93 := NB233_234.out; have hnc93 := NB234_233.out; have hnb94 := NB233_235.out; have hnc94 := NB235_233.out; have hnb95 := NB233_242.out; have hnc95 := NB242_233.out; have hcz96_0 : w87.cell? ⟨gb233, 0, none⟩ = some (.int .i64 a0_0) := (blk_cell BK233.out 0).trans rfl; have hcz96_1 : w87.cell? ⟨gb233, 1, none⟩ = some (.int .i64 a0_1) := (blk_cell BK233.out 1).trans rfl; have hfz96_0 := blk_frozen BK233.out 0; have hfz96_1 := blk_frozen BK233.out 1; have hnb97 := NB234_235.out; have hnc97 := NB235_234.out; have hnb98 := NB234_242.out; have hnc98 := NB242_234.out; have hcz99_0 : w87.cell? ⟨gb234, 0, none⟩ = some (.int .i64 a1_0) := (blk_cell BK234.out 0).trans rfl; have hcz99_1 : w87.cell? ⟨gb234, 1, none⟩ = some (.int .i64 a1_1) := (blk_cell BK234.out 1).trans rfl; have hfz99_0 := blk_frozen BK234.out 0; have hfz99_1 := blk_frozen BK234.out 1; have hnb100 := NB235_242.out; have hnc100 := NB242_235.out; have hcz101_0 : w87.cell? ⟨gb235, 0, none⟩ = some (.int .i64 a2_0) := (blk_cell BK235.out 0).trans rfl; have hcz101_1 : w87.cell? ⟨gb235, 1, none⟩ = some (.int .i64 a2_1) := (blk_cell BK235.out 1).trans rfl; have hfz101_0 := blk_frozen BK235.out 0; have hfz101_1 := blk_frozen BK235.out 1) | (go_at_call 18; (with_reducible refine (celluloidlaw16_way.calls a0_0 a1_0 a2_0 (wrap64 ((wrap64 (2 * x71_2)) + 2)) (wrap64 (2 * (t239.length : Int))) t246 _ A82.out).mono ?_); rintro e w' ⟨rfl, ⟨nd, rfl⟩⟩; (try first | exact ⟨rfl, _, World.drewN_drewN _ _ _⟩ | exact ⟨rfl, _, Eq.trans (World.drewN_drewN _ _ _) (congrArg (World.drewN _) (Nat.add_assoc _ _ _))⟩)) | (go_at_call 18; (with_reducible refine (celluloidlaw16_way.calls a0_1 a1_1 a2_1 (wrap64 ((wrap64 (2 * x71_2)) + 2)) (wrap64 (2 * (t239.length : Int))) t247 _ A83.out).mono ?_); rintro e w' ⟨rfl, ⟨nd, rfl⟩⟩; (try first | exact ⟨rfl, _, World.drewN_drewN _ _ _⟩ | exact ⟨rfl, _, Eq.trans (World.drewN_drewN _ _ _) (congrArg (World.drewN _) (Nat.add_assoc _ _ _))⟩)) | (go_at_call 18; (with_reducible refine (celluloidlaw16_way.calls a0_0 a1_0 a2_0 (wrap64 ((wrap64 (2 * x71_2)) + 1)) (wrap64 (2 * (t239.length : Int))) t248 _ A84.out).mono ?_); rintro e w' ⟨rfl, ⟨nd, rfl⟩⟩; (try first | exact ⟨rfl, _, World.drewN_drewN _ _ _⟩ | exact ⟨rfl, _, Eq.trans (World.drewN_drewN _ _ _) (congrArg (World.drewN _) (Nat.add_assoc _ _ _))⟩)) | (go_at_call 18; (with_reducible refine (celluloidlaw16_way.calls a0_1 a1_1 a2_1 (wrap64 ((wrap64 (2 * x71_2)) + 1)) (wrap64 (2 * (t239.length : Int))) t249 _ A85.out).mono ?_); rintro e w' ⟨rfl, ⟨nd, rfl⟩⟩; (try first | exact ⟨rfl, _, World.drewN_drewN _ _ _⟩ | exact ⟨rfl, _, Eq.trans (World.drewN_drewN _ _ _) (congrArg (World.drewN _) (Nat.add_assoc _ _ _))⟩))))
         (try simp only [Act.put, List.setIfInBounds_toArray, List.set_cons_zero, List.set_cons_succ])
         go_cut [171] (fun v171 wc => ∃ (kq : Nat) (x171_85 : Bool), v171 = .bool x171_85 ∧ Aside0 (celluloidlaw16_CurveNear.j2 kq (t239.length : Int) t239 (t239.length : Int) x71_2 x171_85 a0_0 a0_1 a1_0 a1_1 a2_0 a2_1 ((rd_T23 t239 x71_2).f0) ((rd_T23 t239 x71_2).f1) = some r) ∧ Aside0 (kq ≤ k2) ∧ Aside0 (Kd.R k23 23 wc w.heap.size (fun k_ => k_ ≠ gb233 ∧ k_ ≠ gb234 ∧ k_ ≠ gb235 ∧ k_ ≠ gb242 ∧ k_ ≠ gb245) (.slice (some ad244) t239.length co72) t239) ∧ Aside0 (wc.heap[gb233]? = some (.cells #[.int .i64 a0_0, .int .i64 a0_1] 23 (0, 0))) ∧ Aside0 (wc.heap[gb234]? = some (.cells #[.int .i64 a1_0, .int .i64 a1_1] 23 (0, 0))) ∧ Aside0 (wc.heap[gb235]? = some (.cells #[.int .i64 a2_0, .int .i64 a2_1] 23 (0, 0))) ∧ Aside0 (wc.heap[gb242]? = some (.cells #[.int .i64 x243000_2, .int .i64 x243001_2] 23 (0, 0))) ∧ Aside0 (wc.heap[gb245]? = some (.cells #[.int .i64 ((rd_T23 t239 x71_2).f0), .int .i64 ((rd_T23 t239 x71_2).f1)] 23 (0, 0))) ∧ Aside0 (Below w.heap.size w wc))
         case first =>
          have H := HC86.out
          clear HC86
          replace H := Option.bind_eq_some_iff.mp H
          obtain ⟨t250, A1020, H⟩ := H
          replace H : (if t250 = true then (celluloidlaw16_CurveNear.j2 k2 (t239.length : Int) t239 (t239.length : Int) x71_2 true a0_0 a0_1 a1_0 a1_1 a2_0 a2_1 ((rd_T23 t239 x71_2).f0) ((rd_T23 t239 x71_2).f1)) else ((celluloidlaw16_beside.f (wrap64 (((rd_T23 t239 x71_2).f1) * (wrap64 ((wrap64 (4 * (t239.length : Int))) * (t239.length : Int))))) t247 (wrap64 ((wrap64 (4 * (t239.length : Int))) * (t239.length : Int)))).bind fun t251 => (if t251 = true then (celluloidlaw16_CurveNear.j2 k2 (t239.length : Int) t239 (t239.length : Int) x71_2 true a0_0 a0_1 a1_0 a1_1 a2_0 a2_1 ((rd_T23 t239 x71_2).f0) ((rd_T23 t239 x71_2).f1)) else ((celluloidlaw16_beside.f (wrap64 (Int.tdiv (wrap64 ((wrap64 (((rd_T23 t239 x71_2).f0) + x243000_2)) * (wrap64 ((wrap64 (4 * (t239.length : Int))) * (t239.length : Int))))) 2)) t248 (wrap64 (3 * (wrap64 ((wrap64 (4 * (t239.length : Int))) * (t239.length : Int)))))).bind fun t252 => (if t252 = true then (celluloidlaw16_CurveNear.j2 k2 (t239.length : Int) t239 (t239.length : Int) x71_2 true a0_0 a0_1 a1_0 a1_1 a2_0 a2_1 ((rd_T23 t239 x71_2).f0) ((rd_T23 t239 x71_2).f1)) else ((celluloidlaw16_beside.f (wrap64 (Int.tdiv (wrap64 ((wrap64 (((rd_T23 t239 x71_2).f1) + x243001_2)) * (wrap64 ((wrap64 (4 * (t239.length : Int))) * (t239.length : Int))))) 2)) t249 (wrap64 (3 * (wrap64 ((wrap64 (4 * (t239.length : Int))) * (t239.length : Int)))))).bind fun t253 => (celluloidlaw16_CurveNear.j2 k2 (t239.length : Int) t239 (t239.length : Int) x71_2 t253 a0_0 a0_1 a1_0 a1_1 a2_0 a2_1 ((rd_T23 t239 x71_2).f0) ((rd_T23 t239 x71_2).f1)))))))) = some r := H
          have A102 := Aside0.mk A1020
          clear A1020
          by_cases c103 : t250 = true
          ·subst c103
           have H1 : (celluloidlaw16_CurveNear.j2 k2 (t239.length : Int) t239 (t239.length : Int) x71_2 true a0_0 a0_1 a1_0 a1_1 a2_0 a2_1 ((rd_T23 t239 x71_2).f0) ((rd_T23 t239 x71_2).f1)) = some r := by rw [if_pos rfl] at H; exact H
           clear H
           have H := H1
           clear H1
           have H' := Aside0.mk H
           clear H
           have hnb104 := NB245_233.out
           have hnc104 := NB233_245.out
           have hnb105 := NB245_234.out
           have hnc105 := NB234_245.out
           have hnb106 := NB245_235.out
           have hnc106 := NB235_245.out
           have hnb107 := NB245_242.out
           have hnc107 := NB242_245.out
           have hcz108_0 : w87.cell? ⟨gb245, 0, none⟩ = some (.int .i64 0) := (blk_cell BK245.out 0).trans rfl
           have hcz108_1 : w87.cell? ⟨gb245, 1, none⟩ = some (.int .i64 0) := (blk_cell BK245.out 1).trans rfl
           have hfz108_0 := blk_frozen BK245.out 0
           have hfz108_1 := blk_frozen BK245.out 1
           go_wp2_with (first | (go_at_call 19; (with_reducible refine (celluloidlaw16_beside.calls (wrap64 (((rd_T23 t239 x71_2).f0) * (wrap64 ((wrap64 (4 * (t239.length : Int))) * (t239.length : Int))))) t246 (wrap64 ((wrap64 (4 * (t239.length : Int))) * (t239.length : Int))) true _ A102.out).mono ?_); rintro e w' ⟨rfl, ⟨nd, rfl⟩⟩; (try first | exact ⟨rfl, _, World.drewN_drewN _ _ _⟩ | exact ⟨rfl, _, Eq.trans (World.drewN_drewN _ _ _) (congrArg (World.drewN _) (Nat.add_assoc _ _ _))⟩)))
           repeat (go_quiet (first | (go_at_call 19; (with_reducible refine (celluloidlaw16_beside.calls (wrap64 (((rd_T23 t239 x71_2).f0) * (wrap64 ((wrap64 (4 * (t239.length : Int))) * (t239.length : Int))))) t246 (wrap64 ((wrap64 (4 * (t239.length : Int))) * (t239.length : Int))) true _ A102.out).mono ?_); rintro e w' ⟨rfl, ⟨nd, rfl⟩⟩; (try first | exact ⟨rfl, _, World.drewN_drewN _ _ _⟩ | exact ⟨rfl, _, Eq.trans (World.drewN_drewN _ _ _) (congrArg (World.drewN _) (Nat.add_assoc _ _ _))⟩))); try go_wp2_with (first | (go_at_call 19; (with_reducible refine (celluloidlaw16_beside.calls (wrap64 (((rd_T23 t239 x71_2).f0) * (wrap64 ((wrap64 (4 * (t239.length : Int))) * (t239.length : Int))))) t246 (wrap64 ((wrap64 (4 * (t239.length : Int))) * (t239.length : Int))) true _ A102.out).mono ?_); rintro e w' ⟨rfl, ⟨nd, rfl⟩⟩; (try first | exact ⟨rfl, _, World.drewN_drewN _ _ _⟩ | exact ⟨rfl, _, Eq.trans (World.drewN_drewN _ _ _) (congrArg (World.drewN _) (Nat.add_assoc _ _ _))⟩))))
           go_meet
           case rel => exact ⟨_, (true), (by first | rfl | (simp; done) | (simp [*]; done)), H', ⟨by have := HJ3.out; have := HK2.out; first | omega | exact Nat.le_refl _⟩, ⟨by (with_reducible repeat (first | apply Kd.R_alloc | apply Kd.R_drewN | apply Kd.R_drew)); exact Kd.R_mono (Kd.R_far (p := ⟨gb245, 1, none⟩) (Kd.R_far (p := ⟨gb245, 0, none⟩) (Kd.R_mono HO_69.out (fun k_ hk => (⟨hk, hk.2⟩ : _ ∧ k_ ≠ gb245))) (fun _ hk => hk.2) (.int .i64 ((rd_T23 t239 x71_2).f0))) (fun _ hk => hk.2) (.int .i64 ((rd_T23 t239 x71_2).f1))) (fun _ hk => ⟨hk.1.1.1, ⟨hk.1.1.2.1, ⟨hk.1.1.2.2.1, ⟨hk.1.1.2.2.2, hk.1.2⟩⟩⟩⟩)⟩, ⟨by (with_reducible repeat (first | refine blk_drewN ?_ _ | refine blk_drew ?_ | refine blk_alloc ?_ _)); refine blk_far ?_ NB233_245.out _; (with_reducible repeat (first | refine blk_drewN ?_ _ | refine blk_drew ?_ | refine blk_alloc ?_ _)); refine blk_far ?_ NB233_245.out _; (with_reducible repeat (first | refine blk_drewN ?_ _ | refine blk_drew ?_ | refine blk_alloc ?_ _)); exact BK233.out⟩, ⟨by (with_reducible repeat (first | refine blk_drewN ?_ _ | refine blk_drew ?_ | refine blk_alloc ?_ _)); refine blk_far ?_ NB234_245.out _; (with_reducible repeat (first | refine blk_drewN ?_ _ | refine blk_drew ?_ | refine blk_alloc ?_ _)); refine blk_far ?_ NB234_245.out _; (with_reducible repeat (first | refine blk_drewN ?_ _ | refine blk_drew ?_ | refine blk_alloc ?_ _)); exact BK234.out⟩, ⟨by (with_reducible repeat (first | refine blk_drewN ?_ _ | refine blk_drew ?_ | refine blk_alloc ?_ _)); refine blk_far ?_ NB235_245.out _; (with_reducible repeat (first | refine blk_drewN ?_ _ | refine blk_drew ?_ | refine blk_alloc ?_ _)); refine blk_far ?_ NB235_245.out _; (with_reducible repeat (first | refine blk_drewN ?_ _ | refine blk_drew ?_ | refine blk_alloc ?_ _)); exact BK235.out⟩, ⟨by (with_reducible repeat (first | refine blk_drewN ?_ _ | refine blk_drew ?_ | refine blk_alloc ?_ _)); refine blk_far ?_ NB242_245.out _; (with_reducible repeat (first | refine blk_drewN ?_ _ | refine blk_drew ?_ | refine blk_alloc ?_ _)); refine blk_far ?_ NB242_245.out _; (with_reducible repeat (first | refine blk_drewN ?_ _ | refine blk_drew ?_ | refine blk_alloc ?_ _)); exact BK242.out⟩, ⟨by (with_reducible repeat (first | refine blk_drewN ?_ _ | refine blk_drew ?_ | refine blk_alloc ?_ _)); refine blk_put (cs := #[.int .i64 ((rd_T23 t239 x71_2).f0), .int .i64 0]) ?_ 1 _ rfl; (with_reducible repeat (first | refine blk_drewN ?_ _ | refine blk_drew ?_ | refine blk_alloc ?_ _)); refine blk_put (cs := #[.int .i64 0, .int .i64 0]) ?_ 0 _ rfl; (with_reducible repeat (first | refine blk_drewN ?_ _ | refine blk_drew ?_ | refine blk_alloc ?_ _)); exact BK245.out⟩, ⟨by repeat (first | (with_reducible first | exact HB.out | apply below_alloc | apply pw_below_drewN | apply below_drew1 | refine below_set ?_ GE233.out | refine below_set ?_ GE234.out | refine below_set ?_ GE235.out | refine below_set ?_ GE242.out | refine below_set ?_ GE245.out) | exact HB.out)⟩⟩
          ·replace c103 := Bool.eq_false_iff.mpr c103
           subst c103
           have H1 : ((celluloidlaw16_beside.f (wrap64 (((rd_T23 t239 x71_2).f1) * (wrap64 ((wrap64 (4 * (t239.length : Int))) * (t239.length : Int))))) t247 (wrap64 ((wrap64 (4 * (t239.length : Int))) * (t239.length : Int)))).bind fun t251 => (if t251 = true then (celluloidlaw16_CurveNear.j2 k2 (t239.length : Int) t239 (t239.length : Int) x71_2 true a0_0 a0_1 a1_0 a1_1 a2_0 a2_1 ((rd_T23 t239 x71_2).f0) ((rd_T23 t239 x71_2).f1)) else ((celluloidlaw16_beside.f (wrap64 (Int.tdiv (wrap64 ((wrap64 (((rd_T23 t239 x71_2).f0) + x243000_2)) * (wrap64 ((wrap64 (4 * (t239.length : Int))) * (t239.length : Int))))) 2)) t248 (wrap64 (3 * (wrap64 ((wrap64 (4 * (t239.length : Int))) * (t239.length : Int)))))).bind fun t252 => (if t252 = true then (celluloidlaw16_CurveNear.j2 k2 (t239.length : Int) t239 (t239.length : Int) x71_2 true a0_0 a0_1 a1_0 a1_1 a2_0 a2_1 ((rd_T23 t239 x71_2).f0) ((rd_T23 t239 x71_2).f1)) else ((celluloidlaw16_beside.f (wrap64 (Int.tdiv (wrap64 ((wrap64 (((rd_T23 t239 x71_2).f1) + x243001_2)) * (wrap64 ((wrap64 (4 * (t239.length : Int))) * (t239.length : Int))))) 2)) t249 (wrap64 (3 * (wrap64 ((wrap64 (4 * (t239.length : Int))) * (t239.length : Int)))))).bind fun t253 => (celluloidlaw16_CurveNear.j2 k2 (t239.length : Int) t239 (t239.length : Int) x71_2 t253 a0_0 a0_1 a1_0 a1_1 a2_0 a2_1 ((rd_T23 t239 x71_2).f0) ((rd_T23 t239 x71_2).f1))))))) = some r := by rw [if_neg (show ¬ (false = true) by decide)] at H; exact H
           clear H
           have H := H1
           clear H1
           replace H := Option.bind_eq_some_iff.mp H
           obtain ⟨t251, A1090, H⟩ := H
           replace H : (if t251 = true then (celluloidlaw16_CurveNear.j2 k2 (t239.length : Int) t239 (t239.length : Int) x71_2 true a0_0 a0_1 a1_0 a1_1 a2_0 a2_1 ((rd_T23 t239 x71_2).f0) ((rd_T23 t239 x71_2).f1)) else ((celluloidlaw16_beside.f (wrap64 (Int.tdiv (wrap64 ((wrap64 (((rd_T23 t239 x71_2).f0) + x243000_2)) * (wrap64 ((wrap64 (4 * (t239.length : Int))) * (t239.length : Int))))) 2)) t248 (wrap64 (3 * (wrap64 ((wrap64 (4 * (t239.length : Int))) * (t239.length : Int)))))).bind fun t252 => (if t252 = true then (celluloidlaw16_CurveNear.j2 k2 (t239.length : Int) t239 (t239.length : Int) x71_2 true a0_0 a0_1 a1_0 a1_1 a2_0 a2_1 ((rd_T23 t239 x71_2).f0) ((rd_T23 t239 x71_2).f1)) else ((celluloidlaw16_beside.f (wrap64 (Int.tdiv (wrap64 ((wrap64 (((rd_T23 t239 x71_2).f1) + x243001_2)) * (wrap64 ((wrap64 (4 * (t239.length : Int))) * (t239.length : Int))))) 2)) t249 (wrap64 (3 * (wrap64 ((wrap64 (4 * (t239.length : Int))) * (t239.length : Int)))))).bind fun t253 => (celluloidlaw16_CurveNear.j2 k2 (t239.length : Int) t239 (t239.length : Int) x71_2 t253 a0_0 a0_1 a1_0 a1_1 a2_0 a2_1 ((rd_T23 t239 x71_2).f0) ((rd_T23 t239 x71_2).f1)))))) = some r := H
           have A109 := Aside0.mk A1090
           clear A1090
           by_cases c110 : t251 = true
           ·subst c110
            have H1 : (celluloidlaw16_CurveNear.j2 k2 (t239.length : Int) t239 (t239.length : Int) x71_2 true a0_0 a0_1 a1_0 a1_1 a2_0 a2_1 ((rd_T23 t239 x71_2).f0) ((rd_T23 t239 x71_2).f1)) = some r := by rw [if_pos rfl] at H; exact H
            clear H
            have H := H1
            clear H1
            have H' := Aside0.mk H
            clear H
            have hnb111 := NB245_233.out
            have hnc111 := NB233_245.out
            have hnb112 := NB245_234.out
            have hnc112 := NB234_245.out
            have hnb113 := NB245_235.out
            have hnc113 := NB235_245.out
            have hnb114 := NB245_242.out
            have hnc114 := NB242_245.out
            have hcz115_0 : w87.cell? ⟨gb245, 0, none⟩ = some (.int .i64 0) := (blk_cell BK245.out 0).trans rfl
            have hcz115_1 : w87.cell? ⟨gb245, 1, none⟩ = some (.int .i64 0) := (blk_cell BK245.out 1).trans rfl
            have hfz115_0 := blk_frozen BK245.out 0
            have hfz115_1 := blk_frozen BK245.out 1
            go_wp2_with (first | (go_at_call 19; (with_reducible refine (celluloidlaw16_beside.calls (wrap64 (((rd_T23 t239 x71_2).f0) * (wrap64 ((wrap64 (4 * (t239.length : Int))) * (t239.length : Int))))) t246 (wrap64 ((wrap64 (4 * (t239.length : Int))) * (t239.length : Int))) false _ A102.out).mono ?_); rintro e w' ⟨rfl, ⟨nd, rfl⟩⟩; (try first | exact ⟨rfl, _, World.drewN_drewN _ _ _⟩ | exact ⟨rfl, _, Eq.trans (World.drewN_drewN _ _ _) (congrArg (World.drewN _) (Nat.add_assoc _ _ _))⟩)) | (go_at_call 19; (with_reducible refine (celluloidlaw16_beside.calls (wrap64 (((rd_T23 t239 x71_2).f1) * (wrap64 ((wrap64 (4 * (t239.length : Int))) * (t239.length : Int))))) t247 (wrap64 ((wrap64 (4 * (t239.length : Int))) * (t239.length : Int))) true _ A109.out).mono ?_); rintro e w' ⟨rfl, ⟨nd, rfl⟩⟩; (try first | exact ⟨rfl, _, World.drewN_drewN _ _ _⟩ | exact ⟨rfl, _, Eq.trans (World.drewN_drewN _ _ _) (congrArg (World.drewN _) (Nat.add_assoc _ _ _))⟩)))
            repeat (go_quiet (first | (go_at_call 19; (with_reducible refine (celluloidlaw16_beside.calls (wrap64 (((rd_T23 t239 x71_2).f0) * (wrap64 ((wrap64 (4 * (t239.length : Int))) * (t239.length : Int))))) t246 (wrap64 ((wrap64 (4 * (t239.length : Int))) * (t239.length : Int))) false _ A102.out).mono ?_); rintro e w' ⟨rfl, ⟨nd, rfl⟩⟩; (try first | exact ⟨rfl, _, World.drewN_drewN _ _ _⟩ | exact ⟨rfl, _, Eq.trans (World.drewN_drewN _ _ _) (congrArg (World.drewN _) (Nat.add_assoc _ _ _))⟩)) | (go_at_call 19; (with_reducible refine (celluloidlaw16_beside.calls (wrap64 (((rd_T23 t239 x71_2).f1) * (wrap64 ((wrap64 (4 * (t239.length : Int))) * (t239.length : Int))))) t247 (wrap64 ((wrap64 (4 * (t239.length : Int))) * (t239.length : Int))) true _ A109.out).mono ?_); rintro e w' ⟨rfl, ⟨nd, rfl⟩⟩; (try first | exact ⟨rfl, _, World.drewN_drewN _ _ _⟩ | exact ⟨rfl, _, Eq.trans (World.drewN_drewN _ _ _) (congrArg (World.drewN _) (Nat.add_assoc _ _ _))⟩))); try go_wp2_with (first | (go_at_call 19; (with_reducible refine (celluloidlaw16_beside.calls (wrap64 (((rd_T23 t239 x71_2).f0) * (wrap64 ((wrap64 (4 * (t239.length : Int))) * (t239.length : Int))))) t246 (wrap64 ((wrap64 (4 * (t239.length : Int))) * (t239.length : Int))) false _ A102.out).mono ?_); rintro e w' ⟨rfl, ⟨nd, rfl⟩⟩; (try first | exact ⟨rfl, _, World.drewN_drewN _ _ _⟩ | exact ⟨rfl, _, Eq.trans (World.drewN_drewN _ _ _) (congrArg (World.drewN _) (Nat.add_assoc _ _ _))⟩)) | (go_at_call 19; (with_reducible refine (celluloidlaw16_beside.calls (wrap64 (((rd_T23 t239 x71_2).f1) * (wrap64 ((wrap64 (4 * (t239.length : Int))) * (t239.length : Int))))) t247 (wrap64 ((wrap64 (4 * (t239.length : Int))) * (t239.length : Int))) true _ A109.out).mono ?_); rintro e w' ⟨rfl, ⟨nd, rfl⟩⟩; (try first | exact ⟨rfl, _, World.drewN_drewN _ _ _⟩ | exact ⟨rfl, _, Eq.trans (World.drewN_drewN _ _ _) (congrArg (World.drewN _) (Nat.add_assoc _ _ _))⟩))))
            go_meet
            case rel => exact ⟨_, (true), (by first | rfl | (simp; done) | (simp [*]; done)), H', ⟨by have := HJ3.out; have := HK2.out; first | omega | exact Nat.le_refl _⟩, ⟨by (with_reducible repeat (first | apply Kd.R_alloc | apply Kd.R_drewN | apply Kd.R_drew)); exact Kd.R_mono (Kd.R_far (p := ⟨gb245, 1, none⟩) (Kd.R_far (p := ⟨gb245, 0, none⟩) (Kd.R_mono HO_69.out (fun k_ hk => (⟨hk, hk.2⟩ : _ ∧ k_ ≠ gb245))) (fun _ hk => hk.2) (.int .i64 ((rd_T23 t239 x71_2).f0))) (fun _ hk => hk.2) (.int .i64 ((rd_T23 t239 x71_2).f1))) (fun _ hk => ⟨hk.1.1.1, ⟨hk.1.1.2.1, ⟨hk.1.1.2.2.1, ⟨hk.1.1.2.2.2, hk.1.2⟩⟩⟩⟩)⟩, ⟨by (with_reducible repeat (first | refine blk_drewN ?_ _ | refine blk_drew ?_ | refine blk_alloc ?_ _)); refine blk_far ?_ NB233_245.out _; (with_reducible repeat (first | refine blk_drewN ?_ _ | refine blk_drew ?_ | refine blk_alloc ?_ _)); refine blk_far ?_ NB233_245.out _; (with_reducible repeat (first | refine blk_drewN ?_ _ | refine blk_drew ?_ | refine blk_alloc ?_ _)); exact BK233.out⟩, ⟨by (with_reducible repeat (first | refine blk_drewN ?_ _ | refine blk_drew ?_ | refine blk_alloc ?_ _)); refine blk_far ?_ NB234_245.out _; (with_reducible repeat (first | refine blk_drewN ?_ _ | refine blk_drew ?_ | refine blk_alloc ?_ _)); refine blk_far ?_ NB234_245.out _; (with_reducible repeat (first | refine blk_drewN ?_ _ | refine blk_drew ?_ | refine blk_alloc ?_ _)); exact BK234.out⟩, ⟨by (with_reducible repeat (first | refine blk_drewN ?_ _ | refine blk_drew ?_ | refine blk_alloc ?_ _)); refine blk_far ?_ NB235_245.out _; (with_reducible repeat (first | refine blk_drewN ?_ _ | refine blk_drew ?_ | refine blk_alloc ?_ _)); refine blk_far ?_ NB235_245.out _; (with_reducible repeat (first | refine blk_drewN ?_ _ | refine blk_drew ?_ | refine blk_alloc ?_ _)); exact BK235.out⟩, ⟨by (with_reducible repeat (first | refine blk_drewN ?_ _ | refine blk_drew ?_ | refine blk_alloc ?_ _)); refine blk_far ?_ NB242_245.out _; (with_reducible repeat (first | refine blk_drewN ?_ _ | refine blk_drew ?_ | refine blk_alloc ?_ _)); refine blk_far ?_ NB242_245.out _; (with_reducible repeat (first | refine blk_drewN ?_ _ | refine blk_drew ?_ | refine blk_alloc ?_ _)); exact BK242.out⟩, ⟨by (with_reducible repeat (first | refine blk_drewN ?_ _ | refine blk_drew ?_ | refine blk_alloc ?_ _)); refine blk_put (cs := #[.int .i64 ((rd_T23 t239 x71_2).f0), .int .i64 0]) ?_ 1 _ rfl; (with_reducible repeat (first | refine blk_drewN ?_ _ | refine blk_drew ?_ | refine blk_alloc ?_ _)); refine blk_put (cs := #[.int .i64 0, .int .i64 0]) ?_ 0 _ rfl; (with_reducible repeat (first | refine blk_drewN ?_ _ | refine blk_drew ?_ | refine blk_alloc ?_ _)); exact BK245.out⟩, ⟨by repeat (first | (with_reducible first | exact HB.out | apply below_alloc | apply pw_below_drewN | apply below_drew1 | refine below_set ?_ GE233.out | refine below_set ?_ GE234.out | refine below_set ?_ GE235.out | refine below_set ?_ GE242.out | refine below_set ?_ GE245.out) | exact HB.out)⟩⟩
           ·replace c110 := Bool.eq_false_iff.mpr c110
            subst c110
            have H1 : ((celluloidlaw16_beside.f (wrap64 (Int.tdiv (wrap64 ((wrap64 (((rd_T23 t239 x71_2).f0) + x243000_2)) * (wrap64 ((wrap64 (4 * (t239.length : Int))) * (t239.length : Int))))) 2)) t248 (wrap64 (3 * (wrap64 ((wrap64 (4 * (t239.length : Int))) * (t239.length : Int)))))).bind fun t252 => (if t252 = true then (celluloidlaw16_CurveNear.j2 k2 (t239.length : Int) t239 (t239.length : Int) x71_2 true a0_0 a0_1 a1_0 a1_1 a2_0 a2_1 ((rd_T23 t239 x71_2).f0) ((rd_T23 t239 x71_2).f1)) else ((celluloidlaw16_beside.f (wrap64 (Int.tdiv (wrap64 ((wrap64 (((rd_T23 t239 x71_2).f1) + x243001_2)) * (wrap64 ((wrap64 (4 * (t239.length : Int))) * (t239.length : Int))))) 2)) t249 (wrap64 (3 * (wrap64 ((wrap64 (4 * (t239.length : Int))) * (t239.length : Int)))))).bind fun t253 => (celluloidlaw16_CurveNear.j2 k2 (t239.length : Int) t239 (t239.length : Int) x71_2 t253 a0_0 a0_1 a1_0 a1_1 a2_0 a2_1 ((rd_T23 t239 x71_2).f0) ((rd_T23 t239 x71_2).f1))))) = some r := by rw [if_neg (show ¬ (false = true) by decide)] at H; exact H
            clear H
            have H := H1
            clear H1
            replace H := Option.bind_eq_some_iff.mp H
            obtain ⟨t252, A1160, H⟩ := H
            replace H : (if t252 = true then (celluloidlaw16_CurveNear.j2 k2 (t239.length : Int) t239 (t239.length : Int) x71_2 true a0_0 a0_1 a1_0 a1_1 a2_0 a2_1 ((rd_T23 t239 x71_2).f0) ((rd_T23 t239 x71_2).f1)) else ((celluloidlaw16_beside.f (wrap64 (Int.tdiv (wrap64 ((wrap64 (((rd_T23 t239 x71_2).f1) + x243001_2)) * (wrap64 ((wrap64 (4 * (t239.length : Int))) * (t239.length : Int))))) 2)) t249 (wrap64 (3 * (wrap64 ((wrap64 (4 * (t239.length : Int))) * (t239.length : Int)))))).bind fun t253 => (celluloidlaw16_CurveNear.j2 k2 (t239.length : Int) t239 (t239.length : Int) x71_2 t253 a0_0 a0_1 a1_0 a1_1 a2_0 a2_1 ((rd_T23 t239 x71_2).f0) ((rd_T23 t239 x71_2).f1)))) = some r := H
            have A116 := Aside0.mk A1160
            clear A1160
            by_cases c117 : t252 = true
            ·subst c117
             have H1 : (celluloidlaw16_CurveNear.j2 k2 (t239.length : Int) t239 (t239.length : Int) x71_2 true a0_0 a0_1 a1_0 a1_1 a2_0 a2_1 ((rd_T23 t239 x71_2).f0) ((rd_T23 t239 x71_2).f1)) = some r := by rw [if_pos rfl] at H; exact H
             clear H
             have H := H1
             clear H1
             have H' := Aside0.mk H
             clear H
             have hnb118 := NB245_233.out
             have hnc118 := NB233_245.out
             have hnb119 := NB245_234.out
             have hnc119 := NB234_245.out
             have hnb120 := NB245_235.out
             have hnc120 := NB235_245.out
             have hnb121 := NB245_242.out
             have hnc121 := NB242_245.out
             have hcz122_0 : w87.cell? ⟨gb245, 0, none⟩ = some (.int .i64 0) := (blk_cell BK245.out 0).trans rfl
             have hcz122_1 : w87.cell? ⟨gb245, 1, none⟩ = some (.int .i64 0) := (blk_cell BK245.out 1).trans rfl
             have hfz122_0 := blk_frozen BK245.out 0
             have hfz122_1 := blk_frozen BK245.out 1
             go_wp2_with (first | (go_at_call 19; (with_reducible refine (celluloidlaw16_beside.calls (wrap64 (((rd_T23 t239 x71_2).f0) * (wrap64 ((wrap64 (4 * (t239.length : Int))) * (t239.length : Int))))) t246 (wrap64 ((wrap64 (4 * (t239.length : Int))) * (t239.length : Int))) false _ A102.out).mono ?_); rintro e w' ⟨rfl, ⟨nd, rfl⟩⟩; (try first | exact ⟨rfl, _, World.drewN_drewN _ _ _⟩ | exact ⟨rfl, _, Eq.trans (World.drewN_drewN _ _ _) (congrArg (World.drewN _) (Nat.add_assoc _ _ _))⟩)) | (go_at_call 19; (with_reducible refine (celluloidlaw16_beside.calls (wrap64 (((rd_T23 t239 x71_2).f1) * (wrap64 ((wrap64 (4 * (t239.length : Int))) * (t239.length : Int))))) t247 (wrap64 ((wrap64 (4 * (t239.length : Int))) * (t239.length : Int))) false _ A109.out).mono ?_); rintro e w' ⟨rfl, ⟨nd, rfl⟩⟩; (try first | exact ⟨rfl, _, World.drewN_drewN _ _ _⟩ | exact ⟨rfl, _, Eq.trans (World.drewN_drewN _ _ _) (congrArg (World.drewN _) (Nat.add_assoc _ _ _))⟩); have hnb123 := NB242_233.out; have hnc123 := NB233_242.out; have hnb124 := NB242_234.out; have hnc124 := NB234_242.out; have hnb125 := NB242_235.out; have hnc125 := NB235_242.out; have hcz126_0 : w87.cell? ⟨gb242, 0, none⟩ = some (.int .i64 x243000_2) := (blk_cell BK242.out 0).trans rfl; have hcz126_1 : w87.cell? ⟨gb242, 1, none⟩ = some (.int .i64 x243001_2) := (blk_cell BK242.out 1).trans rfl; have hfz126_0 := blk_frozen BK242.out 0; have hfz126_1 := blk_frozen BK242.out 1) | (go_at_call 19; (with_reducible refine (celluloidlaw16_beside.calls (wrap64 (Int.tdiv (wrap64 ((wrap64 (((rd_T23 t239 x71_2).f0) + x243000_2)) * (wrap64 ((wrap64 (4 * (t239.length : Int))) * (t239.length : Int))))) 2)) t248 (wrap64 (3 * (wrap64 ((wrap64 (4 * (t239.length : Int))) * (t239.length : Int))))) true _ A116.out).mono ?_); rintro e w' ⟨rfl, ⟨nd, rfl⟩⟩; (try first | exact ⟨rfl, _, World.drewN_drewN _ _ _⟩ | exact ⟨rfl, _, Eq.trans (World.drewN_drewN _ _ _) (congrArg (World.drewN _) (Nat.add_assoc _ _ _))⟩)))
             repeat (go_quiet (first | (go_at_call 19; (with_reducible refine (celluloidlaw16_beside.calls (wrap64 (((rd_T23 t239 x71_2).f0) * (wrap64 ((wrap64 (4 * (t239.length : Int))) * (t239.length : Int))))) t246 (wrap64 ((wrap64 (4 * (t239.length : Int))) * (t239.length : Int))) false _ A102.out).mono ?_); rintro e w' ⟨rfl, ⟨nd, rfl⟩⟩; (try first | exact ⟨rfl, _, World.drewN_drewN _ _ _⟩ | exact ⟨rfl, _, Eq.trans (World.drewN_drewN _ _ _) (congrArg (World.drewN _) (Nat.add_assoc _ _ _))⟩)) | (go_at_call 19; (with_reducible refine (celluloidlaw16_beside.calls (wrap64 (((rd_T23 t239 x71_2).f1) * (wrap64 ((wrap64 (4 * (t239.length : Int))) * (t239.length : Int))))) t247 (wrap64 ((wrap64 (4 * (t239.length : Int))) * (t239.length : Int))) false _ A109.out).mono ?_); rintro e w' ⟨rfl, ⟨nd, rfl⟩⟩; (try first | exact ⟨rfl, _, World.drewN_drewN _ _ _⟩ | exact ⟨rfl, _, Eq.trans (World.drewN_drewN _ _ _) (congrArg (World.drewN _) (Nat.add_assoc _ _ _))⟩); have hnb123 := NB242_233.out; have hnc123 := NB233_242.out; have hnb124 := NB242_234.out; have hnc124 := NB234_242.out; have hnb125 := NB242_235.out; have hnc125 := NB235_242.out; have hcz126_0 : w87.cell? ⟨gb242, 0, none⟩ = some (.int .i64 x243000_2) := (blk_cell BK242.out 0).trans rfl; have hcz126_1 : w87.cell? ⟨gb242, 1, none⟩ = some (.int .i64 x243001_2) := (blk_cell BK242.out 1).trans rfl; have hfz126_0 := blk_frozen BK242.out 0; have hfz126_1 := blk_frozen BK242.out 1) | (go_at_call 19; (with_reducible refine (celluloidlaw16_beside.calls (wrap64 (Int.tdiv (wrap64 ((wrap64 (((rd_T23 t239 x71_2).f0) + x243000_2)) * (wrap64 ((wrap64 (4 * (t239.length : Int))) * (t239.length : Int))))) 2)) t248 (wrap64 (3 * (wrap64 ((wrap64 (4 * (t239.length : Int))) * (t239.length : Int))))) true _ A116.out).mono ?_); rintro e w' ⟨rfl, ⟨nd, rfl⟩⟩; (try first | exact ⟨rfl, _, World.drewN_drewN _ _ _⟩ | exact ⟨rfl, _, Eq.trans (World.drewN_drewN _ _ _) (congrArg (World.drewN _) (Nat.add_assoc _ _ _))⟩))); try go_wp2_with (first | (go_at_call 19; (with_reducible refine (celluloidlaw16_beside.calls (wrap64 (((rd_T23 t239 x71_2).f0) * (wrap64 ((wrap64 (4 * (t239.length : Int))) * (t239.length : Int))))) t246 (wrap64 ((wrap64 (4 * (t239.length : Int))) * (t239.length : Int))) false _ A102.out).mono ?_); rintro e w' ⟨rfl, ⟨nd, rfl⟩⟩; (try first | exact ⟨rfl, _, World.drewN_drewN _ _ _⟩ | exact ⟨rfl, _, Eq.trans (World.drewN_drewN _ _ _) (congrArg (World.drewN _) (Nat.add_assoc _ _ _))⟩)) | (go_at_call 19; (with_reducible refine (celluloidlaw16_beside.calls (wrap64 (((rd_T23 t239 x71_2).f1) * (wrap64 ((wrap64 (4 * (t239.length : Int))) * (t239.length : Int))))) t247 (wrap64 ((wrap64 (4 * (t239.length : Int))) * (t239.length : Int))) false _ A109.out).mono ?_); rintro e w' ⟨rfl, ⟨nd, rfl⟩⟩; (try first | exact ⟨rfl, _, World.drewN_drewN _ _ _⟩ | exact ⟨rfl, _, Eq.trans (World.drewN_drewN _ _ _) (congrArg (World.drewN _) (Nat.add_assoc _ _ _))⟩); have hnb123 := NB242_233.out; have hnc123 := NB233_242.out; have hnb124 := NB242_234.out; have hnc124 := NB234_242.out; have hnb125 := NB242_235.out; have hnc125 := NB235_242.out; have hcz126_0 : w87.cell? ⟨gb242, 0, none⟩ = some (.int .i64 x243000_2) := (blk_cell BK242.out 0).trans rfl; have hcz126_1 : w87.cell? ⟨gb242, 1, none⟩ = some (.int .i64 x243001_2) := (blk_cell BK242.out 1).trans rfl; have hfz126_0 := blk_frozen BK242.out 0; have hfz126_1 := blk_frozen BK242.out 1) | (go_at_call 19; (with_reducible refine (celluloidlaw16_beside.calls (wrap64 (Int.tdiv (wrap64 ((wrap64 (((rd_T23 t239 x71_2).f0) + x243000_2)) * (wrap64 ((wrap64 (4 * (t239.length : Int))) * (t239.length : Int))))) 2)) t248 (wrap64 (3 * (wrap64 ((wrap64 (4 * (t239.length : Int))) * (t239.length : Int))))) true _ A116.out).mono ?_); rintro e w' ⟨rfl, ⟨nd, rfl⟩⟩; (try first | exact ⟨rfl, _, World.drewN_drewN _ _ _⟩ | exact ⟨rfl, _, Eq.trans (World.drewN_drewN _ _ _) (congrArg (World.drewN _) (Nat.add_assoc _ _ _))⟩))))
             go_meet
             case rel => exact ⟨_, (true), (by first | rfl | (simp; done) | (simp [*]; done)), H', ⟨by have := HJ3.out; have := HK2.out; first | omega | exact Nat.le_refl _⟩, ⟨by (with_reducible repeat (first | apply Kd.R_alloc | apply Kd.R_drewN | apply Kd.R_drew)); exact Kd.R_mono (Kd.R_far (p := ⟨gb245, 1, none⟩) (Kd.R_far (p := ⟨gb245, 0, none⟩) (Kd.R_mono HO_69.out (fun k_ hk => (⟨hk, hk.2⟩ : _ ∧ k_ ≠ gb245))) (fun _ hk => hk.2) (.int .i64 ((rd_T23 t239 x71_2).f0))) (fun _ hk => hk.2) (.int .i64 ((rd_T23 t239 x71_2).f1))) (fun _ hk => ⟨hk.1.1.1, ⟨hk.1.1.2.1, ⟨hk.1.1.2.2.1, ⟨hk.1.1.2.2.2, hk.1.2⟩⟩⟩⟩)⟩, ⟨by (with_reducible repeat (first | refine blk_drewN ?_ _ | refine blk_drew ?_ | refine blk_alloc ?_ _)); refine blk_far ?_ NB233_245.out _; (with_reducible repeat (first | refine blk_drewN ?_ _ | refine blk_drew ?_ | refine blk_alloc ?_ _)); refine blk_far ?_ NB233_245.out _; (with_reducible repeat (first | refine blk_drewN ?_ _ | refine blk_drew ?_ | refine blk_alloc ?_ _)); exact BK233.out⟩, ⟨by (with_reducible repeat (first | refine blk_drewN ?_ _ | refine blk_drew ?_ | refine blk_alloc ?_ _)); refine blk_far ?_ NB234_245.out _; (with_reducible repeat (first | refine blk_drewN ?_ _ | refine blk_drew ?_ | refine blk_alloc ?_ _)); refine blk_far ?_ NB234_245.out _; (with_reducible repeat (first | refine blk_drewN ?_ _ | refine blk_drew ?_ | refine blk_alloc ?_ _)); exact BK234.out⟩, ⟨by (with_reducible repeat (first | refine blk_drewN ?_ _ | refine blk_drew ?_ | refine blk_alloc ?_ _)); refine blk_far ?_ NB235_245.out _; (with_reducible repeat (first | refine blk_drewN ?_ _ | refine blk_drew ?_ | refine blk_alloc ?_ _)); refine blk_far ?_ NB235_245.out _; (with_reducible repeat (first | refine blk_drewN ?_ _ | refine blk_drew ?_ | refine blk_alloc ?_ _)); exact BK235.out⟩, ⟨by (with_reducible repeat (first | refine blk_drewN ?_ _ | refine blk_drew ?_ | refine blk_alloc ?_ _)); refine blk_far ?_ NB242_245.out _; (with_reducible repeat (first | refine blk_drewN ?_ _ | refine blk_drew ?_ | refine blk_alloc ?_ _)); refine blk_far ?_ NB242_245.out _; (with_reducible repeat (first | refine blk_drewN ?_ _ | refine blk_drew ?_ | refine blk_alloc ?_ _)); exact BK242.out⟩, ⟨by (with_reducible repeat (first | refine blk_drewN ?_ _ | refine blk_drew ?_ | refine blk_alloc ?_ _)); refine blk_put (cs := #[.int .i64 ((rd_T23 t239 x71_2).f0), .int .i64 0]) ?_ 1 _ rfl; (with_reducible repeat (first | refine blk_drewN ?_ _ | refine blk_drew ?_ | refine blk_alloc ?_ _)); refine blk_put (cs := #[.int .i64 0, .int .i64 0]) ?_ 0 _ rfl; (with_reducible repeat (first | refine blk_drewN ?_ _ | refine blk_drew ?_ | refine blk_alloc ?_ _)); exact BK245.out⟩, ⟨by repeat (first | (with_reducible first | exact HB.out | apply below_alloc | apply pw_below_drewN | apply below_drew1 | refine below_set ?_ GE233.out | refine below_set ?_ GE234.out | refine below_set ?_ GE235.out | refine below_set ?_ GE242.out | refine below_set ?_ GE245.out) | exact HB.out)⟩⟩
            ·replace c117 := Bool.eq_false_iff.mpr c117
             subst c117
             have H1 : ((celluloidlaw16_beside.f (wrap64 (Int.tdiv (wrap64 ((wrap64 (((rd_T23 t239 x71_2).f1) + x243001_2)) * (wrap64 ((wrap64 (4 * (t239.length : Int))) * (t239.length : Int))))) 2)) t249 (wrap64 (3 * (wrap64 ((wrap64 (4 * (t239.length : Int))) * (t239.length : Int)))))).bind fun t253 => (celluloidlaw16_CurveNear.j2 k2 (t239.length : Int) t239 (t239.length : Int) x71_2 t253 a0_0 a0_1 a1_0 a1_1 a2_0 a2_1 ((rd_T23 t239 x71_2).f0) ((rd_T23 t239 x71_2).f1))) = some r := by rw [if_neg (show ¬ (false = true) by decide)] at H; exact H
             clear H
             have H := H1
             clear H1
             replace H := Option.bind_eq_some_iff.mp H
             obtain ⟨t253, A1270, H⟩ := H
             replace H : (celluloidlaw16_CurveNear.j2 k2 (t239.length : Int) t239 (t239.length : Int) x71_2 t253 a0_0 a0_1 a1_0 a1_1 a2_0 a2_1 ((rd_T23 t239 x71_2).f0) ((rd_T23 t239 x71_2).f1)) = some r := H
             have A127 := Aside0.mk A1270
             clear A1270
             have H' := Aside0.mk H
             clear H
             have hnb128 := NB245_233.out
             have hnc128 := NB233_245.out
             have hnb129 := NB245_234.out
             have hnc129 := NB234_245.out
             have hnb130 := NB245_235.out
             have hnc130 := NB235_245.out
             have hnb131 := NB245_242.out
             have hnc131 := NB242_245.out
             have hcz132_0 : w87.cell? ⟨gb245, 0, none⟩ = some (.int .i64 0) := (blk_cell BK245.out 0).trans rfl
             have hcz132_1 : w87.cell? ⟨gb245, 1, none⟩ = some (.int .i64 0) := (blk_cell BK245.out 1).trans rfl
             have hfz132_0 := blk_frozen BK245.out 0
             have hfz132_1 := blk_frozen BK245.out 1
             go_wp2_with (first | (go_at_call 19; (with_reducible refine (celluloidlaw16_beside.calls (wrap64 (((rd_T23 t239 x71_2).f0) * (wrap64 ((wrap64 (4 * (t239.length : Int))) * (t239.length : Int))))) t246 (wrap64 ((wrap64 (4 * (t239.length : Int))) * (t239.length : Int))) false _ A102.out).mono ?_); rintro e w' ⟨rfl, ⟨nd, rfl⟩⟩; (try first | exact ⟨rfl, _, World.drewN_drewN _ _ _⟩ | exact ⟨rfl, _, Eq.trans (World.drewN_drewN _ _ _) (congrArg (World.drewN _) (Nat.add_assoc _ _ _))⟩)) | (go_at_call 19; (with_reducible refine (celluloidlaw16_beside.calls (wrap64 (((rd_T23 t239 x71_2).f1) * (wrap64 ((wrap64 (4 * (t239.length : Int))) * (t239.length : Int))))) t247 (wrap64 ((wrap64 (4 * (t239.length : Int))) * (t239.length : Int))) false _ A109.out).mono ?_); rintro e w' ⟨rfl, ⟨nd, rfl⟩⟩; (try first | exact ⟨rfl, _, World.drewN_drewN _ _ _⟩ | exact ⟨rfl, _, Eq.trans (World.drewN_drewN _ _ _) (congrArg (World.drewN _) (Nat.add_assoc _ _ _))⟩); have hnb133 := NB242_233.out; have hnc133 := NB233_242.out; have hnb134 := NB242_234.out; have hnc134 := NB234_242.out; have hnb135 := NB242_235.out; have hnc135 := NB235_242.out; have hcz136_0 : w87.cell? ⟨gb242, 0, none⟩ = some (.int .i64 x243000_2) := (blk_cell BK242.out 0).trans rfl; have hcz136_1 : w87.cell? ⟨gb242, 1, none⟩ = some (.int .i64 x243001_2) := (blk_cell BK242.out 1).trans rfl; have hfz136_0 := blk_frozen BK242.out 0; have hfz136_1 := blk_frozen BK242.out 1) | (go_at_call 19; (with_reducible refine (celluloidlaw16_beside.calls (wrap64 (Int.tdiv (wrap64 ((wrap64 (((rd_T23 t239 x71_2).f0) + x243000_2)) * (wrap64 ((wrap64 (4 * (t239.length : Int))) * (t239.length : Int))))) 2)) t248 (wrap64 (3 * (wrap64 ((wrap64 (4 * (t239.length : Int))) * (t239.length : Int))))) false _ A116.out).mono ?_); rintro e w' ⟨rfl, ⟨nd, rfl⟩⟩; (try first | exact ⟨rfl, _, World.drewN_drewN _ _ _⟩ | exact ⟨rfl, _, Eq.trans (World.drewN_drewN _ _ _) (congrArg (World.drewN _) (Nat.add_assoc _ _ _))⟩)) | (go_at_call 19; (with_reducible refine (celluloidlaw16_beside.calls (wrap64 (Int.tdiv (wrap64 ((wrap64 (((rd_T23 t239 x71_2).f1) + x243001_2)) * (wrap64 ((wrap64 (4 * (t239.length : Int))) * (t239.length : Int))))) 2)) t249 (wrap64 (3 * (wrap64 ((wrap64 (4 * (t239.length : Int))) * (t239.length : Int))))) t253 _ A127.out).mono ?_); rintro e w' ⟨rfl, ⟨nd, rfl⟩⟩; (try first | exact ⟨rfl, _, World.drewN_drewN _ _ _⟩ | exact ⟨rfl, _, Eq.trans (World.drewN_drewN _ _ _) (congrArg (World.drewN _) (Nat.add_assoc _ _ _))⟩)))
             repeat (go_quiet (first | (go_at_call 19; (with_reducible refine (celluloidlaw16_beside.calls (wrap64 (((rd_T23 t239 x71_2).f0) * (wrap64 ((wrap64 (4 * (t239.length : Int))) * (t239.length : Int))))) t246 (wrap64 ((wrap64 (4 * (t239.length : Int))) * (t239.length : Int))) false _ A102.out).mono ?_); rintro e w' ⟨rfl, ⟨nd, rfl⟩⟩; (try first | exact ⟨rfl, _, World.drewN_drewN _ _ _⟩ | exact ⟨rfl, _, Eq.trans (World.drewN_drewN _ _ _) (congrArg (World.drewN _) (Nat.add_assoc _ _ _))⟩)) | (go_at_call 19; (with_reducible refine (celluloidlaw16_beside.calls (wrap64 (((rd_T23 t239 x71_2).f1) * (wrap64 ((wrap64 (4 * (t239.length : Int))) * (t239.length : Int))))) t247 (wrap64 ((wrap64 (4 * (t239.length : Int))) * (t239.length : Int))) false _ A109.out).mono ?_); rintro e w' ⟨rfl, ⟨nd, rfl⟩⟩; (try first | exact ⟨rfl, _, World.drewN_drewN _ _ _⟩ | exact ⟨rfl, _, Eq.trans (World.drewN_drewN _ _ _) (congrArg (World.drewN _) (Nat.add_assoc _ _ _))⟩); have hnb133 := NB242_233.out; have hnc133 := NB233_242.out; have hnb134 := NB242_234.out; have hnc134 := NB234_242.out; have hnb135 := NB242_235.out; have hnc135 := NB235_242.out; have hcz136_0 : w87.cell? ⟨gb242, 0, none⟩ = some (.int .i64 x243000_2) := (blk_cell BK242.out 0).trans rfl; have hcz136_1 : w87.cell? ⟨gb242, 1, none⟩ = some (.int .i64 x243001_2) := (blk_cell BK242.out 1).trans rfl; have hfz136_0 := blk_frozen BK242.out 0; have hfz136_1 := blk_frozen BK242.out 1) | (go_at_call 19; (with_reducible refine (celluloidlaw16_beside.calls (wrap64 (Int.tdiv (wrap64 ((wrap64 (((rd_T23 t239 x71_2).f0) + x243000_2)) * (wrap64 ((wrap64 (4 * (t239.length : Int))) * (t239.length : Int))))) 2)) t248 (wrap64 (3 * (wrap64 ((wrap64 (4 * (t239.length : Int))) * (t239.length : Int))))) false _ A116.out).mono ?_); rintro e w' ⟨rfl, ⟨nd, rfl⟩⟩; (try first | exact ⟨rfl, _, World.drewN_drewN _ _ _⟩ | exact ⟨rfl, _, Eq.trans (World.drewN_drewN _ _ _) (congrArg (World.drewN _) (Nat.add_assoc _ _ _))⟩)) | (go_at_call 19; (with_reducible refine (celluloidlaw16_beside.calls (wrap64 (Int.tdiv (wrap64 ((wrap64 (((rd_T23 t239 x71_2).f1) + x243001_2)) * (wrap64 ((wrap64 (4 * (t239.length : Int))) * (t239.length : Int))))) 2)) t249 (wrap64 (3 * (wrap64 ((wrap64 (4 * (t239.length : Int))) * (t239.length : Int))))) t253 _ A127.out).mono ?_); rintro e w' ⟨rfl, ⟨nd, rfl⟩⟩; (try first | exact ⟨rfl, _, World.drewN_drewN _ _ _⟩ | exact ⟨rfl, _, Eq.trans (World.drewN_drewN _ _ _) (congrArg (World.drewN _) (Nat.add_assoc _ _ _))⟩))); try go_wp2_with (first | (go_at_call 19; (with_reducible refine (celluloidlaw16_beside.calls (wrap64 (((rd_T23 t239 x71_2).f0) * (wrap64 ((wrap64 (4 * (t239.length : Int))) * (t239.length : Int))))) t246 (wrap64 ((wrap64 (4 * (t239.length : Int))) * (t239.length : Int))) false _ A102.out).mono ?_); rintro e w' ⟨rfl, ⟨nd, rfl⟩⟩; (try first | exact ⟨rfl, _, World.drewN_drewN _ _ _⟩ | exact ⟨rfl, _, Eq.trans (World.drewN_drewN _ _ _) (congrArg (World.drewN _) (Nat.add_assoc _ _ _))⟩)) | (go_at_call 19; (with_reducible refine (celluloidlaw16_beside.calls (wrap64 (((rd_T23 t239 x71_2).f1) * (wrap64 ((wrap64 (4 * (t239.length : Int))) * (t239.length : Int))))) t247 (wrap64 ((wrap64 (4 * (t239.length : Int))) * (t239.length : Int))) false _ A109.out).mono ?_); rintro e w' ⟨rfl, ⟨nd, rfl⟩⟩; (try first | exact ⟨rfl, _, World.drewN_drewN _ _ _⟩ | exact ⟨rfl, _, Eq.trans (World.drewN_drewN _ _ _) (congrArg (World.drewN _) (Nat.add_assoc _ _ _))⟩); have hnb133 := NB242_233.out; have hnc133 := NB233_242.out; have hnb134 := NB242_234.out; have hnc134 := NB234_242.out; have hnb135 := NB242_235.out; have hnc135 := NB235_242.out; have hcz136_0 : w87.cell? ⟨gb242, 0, none⟩ = some (.int .i64 x243000_2) := (blk_cell BK242.out 0).trans rfl; have hcz136_1 : w87.cell? ⟨gb242, 1, none⟩ = some (.int .i64 x243001_2) := (blk_cell BK242.out 1).trans rfl; have hfz136_0 := blk_frozen BK242.out 0; have hfz136_1 := blk_frozen BK242.out 1) | (go_at_call 19; (with_reducible refine (celluloidlaw16_beside.calls (wrap64 (Int.tdiv (wrap64 ((wrap64 (((rd_T23 t239 x71_2).f0) + x243000_2)) * (wrap64 ((wrap64 (4 * (t239.length : Int))) * (t239.length : Int))))) 2)) t248 (wrap64 (3 * (wrap64 ((wrap64 (4 * (t239.length : Int))) * (t239.length : Int))))) false _ A116.out).mono ?_); rintro e w' ⟨rfl, ⟨nd, rfl⟩⟩; (try first | exact ⟨rfl, _, World.drewN_drewN _ _ _⟩ | exact ⟨rfl, _, Eq.trans (World.drewN_drewN _ _ _) (congrArg (World.drewN _) (Nat.add_assoc _ _ _))⟩)) | (go_at_call 19; (with_reducible refine (celluloidlaw16_beside.calls (wrap64 (Int.tdiv (wrap64 ((wrap64 (((rd_T23 t239 x71_2).f1) + x243001_2)) * (wrap64 ((wrap64 (4 * (t239.length : Int))) * (t239.length : Int))))) 2)) t249 (wrap64 (3 * (wrap64 ((wrap64 (4 * (t239.length : Int))) * (t239.length : Int))))) t253 _ A127.out).mono ?_); rintro e w' ⟨rfl, ⟨nd, rfl⟩⟩; (try first | exact ⟨rfl, _, World.drewN_drewN _ _ _⟩ | exact ⟨rfl, _, Eq.trans (World.drewN_drewN _ _ _) (congrArg (World.drewN _) (Nat.add_assoc _ _ _))⟩))))
             go_meet
             case rel => exact ⟨_, (t253), (by first | rfl | (simp; done) | (simp [*]; done)), H', ⟨by have := HJ3.out; have := HK2.out; first | omega | exact Nat.le_refl _⟩, ⟨by (with_reducible repeat (first | apply Kd.R_alloc | apply Kd.R_drewN | apply Kd.R_drew)); exact Kd.R_mono (Kd.R_far (p := ⟨gb245, 1, none⟩) (Kd.R_far (p := ⟨gb245, 0, none⟩) (Kd.R_mono HO_69.out (fun k_ hk => (⟨hk, hk.2⟩ : _ ∧ k_ ≠ gb245))) (fun _ hk => hk.2) (.int .i64 ((rd_T23 t239 x71_2).f0))) (fun _ hk => hk.2) (.int .i64 ((rd_T23 t239 x71_2).f1))) (fun _ hk => ⟨hk.1.1.1, ⟨hk.1.1.2.1, ⟨hk.1.1.2.2.1, ⟨hk.1.1.2.2.2, hk.1.2⟩⟩⟩⟩)⟩, ⟨by (with_reducible repeat (first | refine blk_drewN ?_ _ | refine blk_drew ?_ | refine blk_alloc ?_ _)); refine blk_far ?_ NB233_245.out _; (with_reducible repeat (first | refine blk_drewN ?_ _ | refine blk_drew ?_ | refine blk_alloc ?_ _)); refine blk_far ?_ NB233_245.out _; (with_reducible repeat (first | refine blk_drewN ?_ _ | refine blk_drew ?_ | refine blk_alloc ?_ _)); exact BK233.out⟩, ⟨by (with_reducible repeat (first | refine blk_drewN ?_ _ | refine blk_drew ?_ | refine blk_alloc ?_ _)); refine blk_far ?_ NB234_245.out _; (with_reducible repeat (first | refine blk_drewN ?_ _ | refine blk_drew ?_ | refine blk_alloc ?_ _)); refine blk_far ?_ NB234_245.out _; (with_reducible repeat (first | refine blk_drewN ?_ _ | refine blk_drew ?_ | refine blk_alloc ?_ _)); exact BK234.out⟩, ⟨by (with_reducible repeat (first | refine blk_drewN ?_ _ | refine blk_drew ?_ | refine blk_alloc ?_ _)); refine blk_far ?_ NB235_245.out _; (with_reducible repeat (first | refine blk_drewN ?_ _ | refine blk_drew ?_ | refine blk_alloc ?_ _)); refine blk_far ?_ NB235_245.out _; (with_reducible repeat (first | refine blk_drewN ?_ _ | refine blk_drew ?_ | refine blk_alloc ?_ _)); exact BK235.out⟩, ⟨by (with_reducible repeat (first | refine blk_drewN ?_ _ | refine blk_drew ?_ | refine blk_alloc ?_ _)); refine blk_far ?_ NB242_245.out _; (with_reducible repeat (first | refine blk_drewN ?_ _ | refine blk_drew ?_ | refine blk_alloc ?_ _)); refine blk_far ?_ NB242_245.out _; (with_reducible repeat (first | refine blk_drewN ?_ _ | refine blk_drew ?_ | refine blk_alloc ?_ _)); exact BK242.out⟩, ⟨by (with_reducible repeat (first | refine blk_drewN ?_ _ | refine blk_drew ?_ | refine blk_alloc ?_ _)); refine blk_put (cs := #[.int .i64 ((rd_T23 t239 x71_2).f0), .int .i64 0]) ?_ 1 _ rfl; (with_reducible repeat (first | refine blk_drewN ?_ _ | refine blk_drew ?_ | refine blk_alloc ?_ _)); refine blk_put (cs := #[.int .i64 0, .int .i64 0]) ?_ 0 _ rfl; (with_reducible repeat (first | refine blk_drewN ?_ _ | refine blk_drew ?_ | refine blk_alloc ?_ _)); exact BK245.out⟩, ⟨by repeat (first | (with_reducible first | exact HB.out | apply below_alloc | apply pw_below_drewN | apply below_drew1 | refine below_set ?_ GE233.out | refine below_set ?_ GE234.out | refine below_set ?_ GE235.out | refine below_set ?_ GE242.out | refine below_set ?_ GE245.out) | exact HB.out)⟩⟩
         case rest =>
          clear HC86
          try clear c1
          try clear p2
          try clear q2
          try clear hx2
          try clear c3
          try clear c4
          try clear c5
          try clear c6
          try clear p6
          try clear c7
          try clear c8
          try clear c9
          try clear c10
          try clear c11
          try clear c12
          try clear c13
          try clear c15
          try clear c15b0
          try clear c16
          try clear c17
          try clear c19
          try clear p24
          try clear q24
          try clear hx24
          try clear c31
          try clear c31b0
          try clear c32
          try clear c33
          try clear c35
          try clear c43
          try clear c44
          try clear c46
          try clear c54
          try clear c55
          try clear c57
          try clear c61
          try clear p64
          try clear c65
          try clear c66
          try clear c68
          try clear c75
          try clear c76
          try clear c77
          try clear c79
          try clear c79b0
          try clear c80
          try clear c80b0
          try clear c81
          try clear c81b0
          try clear c88
          try clear c89
          try clear c90
          try clear c91
          try clear c93
          try clear c94
          try clear c95
          try clear c97
          try clear c98
          try clear c100
          try clear c103
          try clear c104
          try clear c105
          try clear c106
          try clear c107
          try clear c110
          try clear c111
          try clear c112
          try clear c113
          try clear c114
          try clear c117
          try clear c118
          try clear c119
          try clear c120
          try clear c121
          try clear c123
          try clear c124
          try clear c125
          try clear c128
          try clear c129
          try clear c130
          try clear c131
          try clear c133
          try clear c134
          try clear c135
          try clear hcz101_0
          try clear hcz101_1
          try clear hcz108_0
          try clear hcz108_1
          try clear hcz115_0
          try clear hcz115_1
          try clear hcz122_0
          try clear hcz122_1
          try clear hcz126_0
          try clear hcz126_1
          try clear hcz132_0
          try clear hcz132_1
          try clear hcz136_0
          try clear hcz136_1
          try clear hcz18_0
          try clear hcz18_1
          try clear hcz20_0
          try clear hcz20_1
          try clear hcz21_0
          try clear hcz21_1
          try clear hcz23_0
          try clear hcz23_1
          try clear hcz24_0
          try clear hcz24_1
          try clear hcz25_0
          try clear hcz25_1
          try clear hcz34_0
          try clear hcz34_1
          try clear hcz36_0
          try clear hcz36_1
          try clear hcz37_0
          try clear hcz37_1
          try clear hcz39_0
          try clear hcz39_1
          try clear hcz40_0
          try clear hcz40_1
          try clear hcz41_0
          try clear hcz41_1
          try clear hcz45_0
          try clear hcz45_1
          try clear hcz47_0
          try clear hcz47_1
          try clear hcz48_0
          try clear hcz48_1
          try clear hcz50_0
          try clear hcz50_1
          try clear hcz51_0
          try clear hcz51_1
          try clear hcz52_0
          try clear hcz52_1
          try clear hcz56_0
          try clear hcz56_1
          try clear hcz58_0
          try clear hcz58_1
          try clear hcz59_0
          try clear hcz59_1
          try clear hcz67_0
          try clear hcz67_1
          try clear hcz69_0
          try clear hcz69_1
          try clear hcz70_0
          try clear hcz70_1
          try clear hcz73_0
          try clear hcz73_1
          try clear hcz78_0
          try clear hcz78_1
          try clear hcz92_0
          try clear hcz92_1
          try clear hcz96_0
          try clear hcz96_1
          try clear hcz99_0
          try clear hcz99_1
          try clear hfz101_0
          try clear hfz101_1
          try clear hfz108_0
          try clear hfz108_1
          try clear hfz115_0
          try clear hfz115_1
          try clear hfz122_0
          try clear hfz122_1
          try clear hfz126_0
          try clear hfz126_1
          try clear hfz132_0
          try clear hfz132_1
          try clear hfz136_0
          try clear hfz136_1
          try clear hfz18_0
          try clear hfz18_1
          try clear hfz20_0
          try clear hfz20_1
          try clear hfz21_0
          try clear hfz21_1
          try clear hfz23_0
          try clear hfz23_1
          try clear hfz24_0
          try clear hfz24_1
          try clear hfz25_0
          try clear hfz25_1
          try clear hfz34_0
          try clear hfz34_1
          try clear hfz36_0
          try clear hfz36_1
          try clear hfz37_0
          try clear hfz37_1
          try clear hfz39_0
          try clear hfz39_1
          try clear hfz40_0
          try clear hfz40_1
          try clear hfz41_0
          try clear hfz41_1
          try clear hfz45_0
          try clear hfz45_1
          try clear hfz47_0
          try clear hfz47_1
          try clear hfz48_0
          try clear hfz48_1
          try clear hfz50_0
          try clear hfz50_1
          try clear hfz51_0
          try clear hfz51_1
          try clear hfz52_0
          try clear hfz52_1
          try clear hfz56_0
          try clear hfz56_1
          try clear hfz58_0
          try clear hfz58_1
          try clear hfz59_0
          try clear hfz59_1
          try clear hfz67_0
          try clear hfz67_1
          try clear hfz69_0
          try clear hfz69_1
          try clear hfz70_0
          try clear hfz70_1
          try clear hfz73_0
          try clear hfz73_1
          try clear hfz78_0
          try clear hfz78_1
          try clear hfz92_0
          try clear hfz92_1
          try clear hfz96_0
          try clear hfz96_1
          try clear hfz99_0
          try clear hfz99_1
          try clear hx244_0
          try clear hx244_1
          try clear p2
          try clear p244
          try clear q244
          obtain ⟨kq, x171_85, rfl, HA, HJ85, HO_69, BK233, BK234, BK235, BK242, BK245, HB⟩ := hcut
          cases kq with
          | zero => exact absurd HA.out (by simp [celluloidlaw16_CurveNear.j2])
          | succ kj85 =>
           have H := HA.out
           clear HA
           simp only [celluloidlaw16_CurveNear.j2] at H
           by_cases c137 : x171_85 = true
           ·subst c137
            have H1 : (some false) = some r := by rw [if_pos rfl] at H; exact H
            clear H
            have H := H1
            clear H1
            obtain rfl := Option.some.inj H
            go_wp2
            repeat (go_quiet (fail); try go_wp2)
            go_ret
            exact ⟨by first | rfl | (simp [errW_none, errW_some] <;> rfl) | (simp [*, errW_none, errW_some] <;> rfl), by repeat (first | (with_reducible first | exact HB.out | apply below_alloc | apply pw_below_drewN | apply below_drew1 | refine below_set ?_ GE233.out | refine below_set ?_ GE234.out | refine below_set ?_ GE235.out | refine below_set ?_ GE242.out | refine below_set ?_ GE245.out) | exact HB.out)⟩
           ·replace c137 := Bool.eq_false_iff.mpr c137
            subst c137
            have H1 : (celluloidlaw16_CurveNear.l0 kj85 (t239.length : Int) t239 (t239.length : Int) (wrap64 (x71_2 + 1)) a0_0 a0_1 a1_0 a1_1 a2_0 a2_1 ((rd_T23 t239 x71_2).f0) ((rd_T23 t239 x71_2).f1)) = some r := by rw [if_neg (show ¬ (false = true) by decide)] at H; exact H
            clear H
            have H := H1
            clear H1
            have H' := Aside0.mk H
            clear H
            have hnb138 := NB245_233.out
            have hnc138 := NB233_245.out
            have hnb139 := NB245_234.out
            have hnc139 := NB234_245.out
            have hnb140 := NB245_235.out
            have hnc140 := NB235_245.out
            have hnb141 := NB245_242.out
            have hnc141 := NB242_245.out
            have hcz142_0 : wc.cell? ⟨gb245, 0, none⟩ = some (.int .i64 ((rd_T23 t239 x71_2).f0)) := (blk_cell BK245.out 0).trans rfl
            have hcz142_1 : wc.cell? ⟨gb245, 1, none⟩ = some (.int .i64 ((rd_T23 t239 x71_2).f1)) := (blk_cell BK245.out 1).trans rfl
            have hfz142_0 := blk_frozen BK245.out 0
            have hfz142_1 := blk_frozen BK245.out 1
            have hnb143 := NB242_233.out
            have hnc143 := NB233_242.out
            have hnb144 := NB242_234.out
            have hnc144 := NB234_242.out
            have hnb145 := NB242_235.out
            have hnc145 := NB235_242.out
            have hcz146_0 : wc.cell? ⟨gb242, 0, none⟩ = some (.int .i64 x243000_2) := (blk_cell BK242.out 0).trans rfl
            have hcz146_1 : wc.cell? ⟨gb242, 1, none⟩ = some (.int .i64 x243001_2) := (blk_cell BK242.out 1).trans rfl
            have hfz146_0 := blk_frozen BK242.out 0
            have hfz146_1 := blk_frozen BK242.out 1
            go_wp2
            repeat (go_quiet (fail); try go_wp2)
            go_roundg kj85
            case measure => have := HJ3.out; have := HK2.out; have := HJ85.out; omega
            case rel => exact ⟨(wrap64 (x71_2 + 1)), (((rd_T23 t239 x71_2).f0)), (((rd_T23 t239 x71_2).f1)), (by first | rfl | (simp; done) | (simp [*]; done)), H', ⟨by have := HJ3.out; have := HK2.out; have := HJ85.out; omega⟩, ⟨by (with_reducible repeat (first | apply Kd.R_alloc | apply Kd.R_drewN | apply Kd.R_drew)); exact Kd.R_mono (Kd.R_far (p := ⟨gb242, 1, none⟩) (Kd.R_far (p := ⟨gb242, 0, none⟩) (Kd.R_mono HO_69.out (fun k_ hk => (⟨hk, hk.2.2.2.1⟩ : _ ∧ k_ ≠ gb242))) (fun _ hk => hk.2) (.int .i64 ((rd_T23 t239 x71_2).f0))) (fun _ hk => hk.2) (.int .i64 ((rd_T23 t239 x71_2).f1))) (fun _ hk => ⟨hk.1.1, ⟨hk.1.2.1, ⟨hk.1.2.2.1, hk.1.2.2.2.1⟩⟩⟩)⟩, ⟨by (with_reducible repeat (first | refine blk_drewN ?_ _ | refine blk_drew ?_ | refine blk_alloc ?_ _)); refine blk_far ?_ NB233_242.out _; (with_reducible repeat (first | refine blk_drewN ?_ _ | refine blk_drew ?_ | refine blk_alloc ?_ _)); refine blk_far ?_ NB233_242.out _; (with_reducible repeat (first | refine blk_drewN ?_ _ | refine blk_drew ?_ | refine blk_alloc ?_ _)); exact BK233.out⟩, ⟨by (with_reducible repeat (first | refine blk_drewN ?_ _ | refine blk_drew ?_ | refine blk_alloc ?_ _)); refine blk_far ?_ NB234_242.out _; (with_reducible repeat (first | refine blk_drewN ?_ _ | refine blk_drew ?_ | refine blk_alloc ?_ _)); refine blk_far ?_ NB234_242.out _; (with_reducible repeat (first | refine blk_drewN ?_ _ | refine blk_drew ?_ | refine blk_alloc ?_ _)); exact BK234.out⟩, ⟨by (with_reducible repeat (first | refine blk_drewN ?_ _ | refine blk_drew ?_ | refine blk_alloc ?_ _)); refine blk_far ?_ NB235_242.out _; (with_reducible repeat (first | refine blk_drewN ?_ _ | refine blk_drew ?_ | refine blk_alloc ?_ _)); refine blk_far ?_ NB235_242.out _; (with_reducible repeat (first | refine blk_drewN ?_ _ | refine blk_drew ?_ | refine blk_alloc ?_ _)); exact BK235.out⟩, ⟨by (with_reducible repeat (first | refine blk_drewN ?_ _ | refine blk_drew ?_ | refine blk_alloc ?_ _)); refine blk_put (cs := #[.int .i64 ((rd_T23 t239 x71_2).f0), .int .i64 x243001_2]) ?_ 1 _ rfl; (with_reducible repeat (first | refine blk_drewN ?_ _ | refine blk_drew ?_ | refine blk_alloc ?_ _)); refine blk_put (cs := #[.int .i64 x243000_2, .int .i64 x243001_2]) ?_ 0 _ rfl; (with_reducible repeat (first | refine blk_drewN ?_ _ | refine blk_drew ?_ | refine blk_alloc ?_ _)); exact BK242.out⟩, ⟨by repeat (first | (with_reducible first | exact HB.out | apply below_alloc | apply pw_below_drewN | apply below_drew1 | refine below_set ?_ GE233.out | refine below_set ?_ GE234.out | refine below_set ?_ GE235.out | refine below_set ?_ GE242.out | refine below_set ?_ GE245.out) | exact HB.out)⟩⟩
        ·rw [if_neg c81] at H
         exact absurd H (by simp)
       ·rw [if_neg c80] at H
        exact absurd H (by simp)
      ·rw [if_neg c79] at H
       have c79b0 : decide (x71_2 < (t239.length : Int)) = false := decide_eq_false c79
       clear c79
       by_cases c147 : (t239.length : Int) > 0
       ·rw [if_pos c147] at H
        have c147b0 : decide (0 < (t239.length : Int)) = true := decide_eq_true c147
        have c147b1 : decide (0 < t239.length) = true := decide_eq_true (by omega)
        clear c147
        replace H := Option.bind_eq_some_iff.mp H
        obtain ⟨t243, A1480, H⟩ := H
        replace H : (some t243) = some r := H
        have A148 := Aside0.mk A1480
        clear A1480
        obtain rfl := Option.some.inj H
        go_wp2_with (first | (go_at_call 14; (with_reducible refine (celluloidlaw16_awake.calls k2  t243 _ A148.out).mono ?_); rintro e w149 ⟨rfl, hb⟩; have n0_ := Aside0.mk (Kd.R_below (by (with_reducible repeat (first | apply Kd.R_alloc | apply Kd.R_drewN | apply Kd.R_drew)); exact HO_69.out) hb); have n1_ := Aside0.mk (blk_below (g := gb233) (o := .cells #[.int .i64 a0_0, .int .i64 a0_1] 23 (0, 0)) (by (with_reducible repeat (first | refine blk_drewN ?_ _ | refine blk_drew ?_ | refine blk_alloc ?_ _)); exact BK233.out) hb); have n2_ := Aside0.mk (blk_below (g := gb234) (o := .cells #[.int .i64 a1_0, .int .i64 a1_1] 23 (0, 0)) (by (with_reducible repeat (first | refine blk_drewN ?_ _ | refine blk_drew ?_ | refine blk_alloc ?_ _)); exact BK234.out) hb); have n3_ := Aside0.mk (blk_below (g := gb235) (o := .cells #[.int .i64 a2_0, .int .i64 a2_1] 23 (0, 0)) (by (with_reducible repeat (first | refine blk_drewN ?_ _ | refine blk_drew ?_ | refine blk_alloc ?_ _)); exact BK235.out) hb); have n4_ := Aside0.mk (blk_below (g := gb242) (o := .cells #[.int .i64 x243000_2, .int .i64 x243001_2] 23 (0, 0)) (by (with_reducible repeat (first | refine blk_drewN ?_ _ | refine blk_drew ?_ | refine blk_alloc ?_ _)); exact BK242.out) hb); have n5_ := Aside0.mk (below_step (by repeat (first | (with_reducible first | exact HB.out | apply below_alloc | apply pw_below_drewN | apply below_drew1 | refine below_set ?_ GE233.out | refine below_set ?_ GE234.out | refine below_set ?_ GE235.out | refine below_set ?_ GE242.out) | exact HB.out)) hb); clear HO_69; clear BK233; clear BK234; clear BK235; clear BK242; clear HB; have HO_69 := n0_; have BK233 := n1_; have BK234 := n2_; have BK235 := n3_; have BK242 := n4_; have HB := n5_; clear n0_ n1_ n2_ n3_ n4_ n5_; (try clear hb); (try clear hb2); (try clear hk); (try clear hi)))
        repeat (go_quiet (first | (go_at_call 14; (with_reducible refine (celluloidlaw16_awake.calls k2  t243 _ A148.out).mono ?_); rintro e w149 ⟨rfl, hb⟩; have n0_ := Aside0.mk (Kd.R_below (by (with_reducible repeat (first | apply Kd.R_alloc | apply Kd.R_drewN | apply Kd.R_drew)); exact HO_69.out) hb); have n1_ := Aside0.mk (blk_below (g := gb233) (o := .cells #[.int .i64 a0_0, .int .i64 a0_1] 23 (0, 0)) (by (with_reducible repeat (first | refine blk_drewN ?_ _ | refine blk_drew ?_ | refine blk_alloc ?_ _)); exact BK233.out) hb); have n2_ := Aside0.mk (blk_below (g := gb234) (o := .cells #[.int .i64 a1_0, .int .i64 a1_1] 23 (0, 0)) (by (with_reducible repeat (first | refine blk_drewN ?_ _ | refine blk_drew ?_ | refine blk_alloc ?_ _)); exact BK234.out) hb); have n3_ := Aside0.mk (blk_below (g := gb235) (o := .cells #[.int .i64 a2_0, .int .i64 a2_1] 23 (0, 0)) (by (with_reducible repeat (first | refine blk_drewN ?_ _ | refine blk_drew ?_ | refine blk_alloc ?_ _)); exact BK235.out) hb); have n4_ := Aside0.mk (blk_below (g := gb242) (o := .cells #[.int .i64 x243000_2, .int .i64 x243001_2] 23 (0, 0)) (by (with_reducible repeat (first | refine blk_drewN ?_ _ | refine blk_drew ?_ | refine blk_alloc ?_ _)); exact BK242.out) hb); have n5_ := Aside0.mk (below_step (by repeat (first | (with_reducible first | exact HB.out | apply below_alloc | apply pw_below_drewN | apply below_drew1 | refine below_set ?_ GE233.out | refine below_set ?_ GE234.out | refine below_set ?_ GE235.out | refine below_set ?_ GE242.out) | exact HB.out)) hb); clear HO_69; clear BK233; clear BK234; clear BK235; clear BK242; clear HB; have HO_69 := n0_; have BK233 := n1_; have BK234 := n2_; have BK235 := n3_; have BK242 := n4_; have HB := n5_; clear n0_ n1_ n2_ n3_ n4_ n5_; (try clear hb); (try clear hb2); (try clear hk); (try clear hi))); try go_wp2_with (first | (go_at_call 14; (with_reducible refine (celluloidlaw16_awake.calls k2  t243 _ A148.out).mono ?_); rintro e w149 ⟨rfl, hb⟩; have n0_ := Aside0.mk (Kd.R_below (by (with_reducible repeat (first | apply Kd.R_alloc | apply Kd.R_drewN | apply Kd.R_drew)); exact HO_69.out) hb); have n1_ := Aside0.mk (blk_below (g := gb233) (o := .cells #[.int .i64 a0_0, .int .i64 a0_1] 23 (0, 0)) (by (with_reducible repeat (first | refine blk_drewN ?_ _ | refine blk_drew ?_ | refine blk_alloc ?_ _)); exact BK233.out) hb); have n2_ := Aside0.mk (blk_below (g := gb234) (o := .cells #[.int .i64 a1_0, .int .i64 a1_1] 23 (0, 0)) (by (with_reducible repeat (first | refine blk_drewN ?_ _ | refine blk_drew ?_ | refine blk_alloc ?_ _)); exact BK234.out) hb); have n3_ := Aside0.mk (blk_below (g := gb235) (o := .cells #[.int .i64 a2_0, .int .i64 a2_1] 23 (0, 0)) (by (with_reducible repeat (first | refine blk_drewN ?_ _ | refine blk_drew ?_ | refine blk_alloc ?_ _)); exact BK235.out) hb); have n4_ := Aside0.mk (blk_below (g := gb242) (o := .cells #[.int .i64 x243000_2, .int .i64 x243001_2] 23 (0, 0)) (by (with_reducible repeat (first | refine blk_drewN ?_ _ | refine blk_drew ?_ | refine blk_alloc ?_ _)); exact BK242.out) hb); have n5_ := Aside0.mk (below_step (by repeat (first | (with_reducible first | exact HB.out | apply below_alloc | apply pw_below_drewN | apply below_drew1 | refine below_set ?_ GE233.out | refine below_set ?_ GE234.out | refine below_set ?_ GE235.out | refine below_set ?_ GE242.out) | exact HB.out)) hb); clear HO_69; clear BK233; clear BK234; clear BK235; clear BK242; clear HB; have HO_69 := n0_; have BK233 := n1_; have BK234 := n2_; have BK235 := n3_; have BK242 := n4_; have HB := n5_; clear n0_ n1_ n2_ n3_ n4_ n5_; (try clear hb); (try clear hb2); (try clear hk); (try clear hi))))
        go_ret
        exact ⟨by first | rfl | (simp [errW_none, errW_some] <;> rfl) | (simp [*, errW_none, errW_some] <;> rfl), by repeat (first | (with_reducible first | exact HB.out | apply below_alloc | apply pw_below_drewN | apply below_drew1 | refine below_set ?_ GE233.out | refine below_set ?_ GE234.out | refine below_set ?_ GE235.out | refine below_set ?_ GE242.out) | exact HB.out)⟩
       ·rw [if_neg c147] at H
        have c147b0 : decide (0 < (t239.length : Int)) = false := decide_eq_false c147
        have c147b1 : decide (0 < t239.length) = false := decide_eq_false (by omega)
        clear c147
        obtain rfl := Option.some.inj H
        go_wp2
        repeat (go_quiet (fail); try go_wp2)
        go_ret
        exact ⟨by first | rfl | (simp [errW_none, errW_some] <;> rfl) | (simp [*, errW_none, errW_some] <;> rfl), by repeat (first | (with_reducible first | exact HB.out | apply below_alloc | apply pw_below_drewN | apply below_drew1 | refine below_set ?_ GE233.out | refine below_set ?_ GE234.out | refine below_set ?_ GE235.out | refine below_set ?_ GE242.out) | exact HB.out)⟩

end Go.Proofs.Ytdhjcfgklbedjaa.P

-- shrunk
