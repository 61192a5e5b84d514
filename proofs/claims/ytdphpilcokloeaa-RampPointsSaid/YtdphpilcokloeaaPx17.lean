/- Printed by printx.py (wip/tool) out of the translation: plain functions that tell what the program answers, and the proofs that the program comes to these answers, for all arguments of their kinds. Lean checks it. -/
import Derived.Test.YtdphpilcokloeaaPx0
import Derived.Test.YtdphpilcokloeaaPx4
import Derived.Test.YtdphpilcokloeaaPx7
import Derived.Test.YtdphpilcokloeaaPx14
import Derived.Test.YtdphpilcokloeaaPx16
namespace Go.Proofs.Ytdphpilcokloeaa.P
open Go.RowKit Go.Proofs.YtdphpilcokloeaaW.PrintWords Go.Proofs.YtdphpilcokloeaaW.PrintLast Go.Proofs.YtdphpilcokloeaaW.PrintMore
attribute [local go_sem] max2_int min2_int max_two min_two max_three min_three max_four min_four max_five min_five max_six min_six   -- for this text's walks alone
set_option linter.unusedVariables false
set_option linter.unusedSimpArgs false

/-! ### ramp_At: function 19 -/
def ramp_At.j0 : Nat → Int → Bool → Int → Int → Int → Int → Int → Int → Int → Int → Int → Int → Int → Int → List (S32) → Int → Int → Int → Option (Int × Int × Int × Int)
  | 0, _, _, _, _, _, _, _, _, _, _, _, _, _, _, _, _, _, _ => none
  | k + 1, x5, x8, x265000, x265001, x265002, x265003, x265004, x265005, x265006, x265007, x265008, x265009, x265010, x265011, x265012, x265013, x266000, x266001 => if x8 = true then (some (0, 0, 0, 0)) else (if x265000 = 18 then ((ramp_Circle.f k x266000 x266001).bind fun t269 => ((ramp_Fold.f t269 x265011).bind fun t270 => ((ramp_Color.f k x265012 t270).bind fun bt271 => (some (bt271.1, bt271.2.1, bt271.2.2.1, bt271.2.2.2))))) else ((ramp_Fold.f x5 x265011).bind fun t275 => ((ramp_Color.f k x265012 t275).bind fun bt276 => (some (bt276.1, bt276.2.1, bt276.2.2.1, bt276.2.2.2)))))
def ramp_At.f (k : Nat) (a0_0 : Int) (a0_1 : Int) (a0_2 : Int) (a0_3 : Int) (a0_4 : Int) (a0_5 : Int) (a0_6 : Int) (a0_7 : Int) (a0_8 : Int) (a0_9 : Int) (a0_10 : Int) (a0_11 : Int) (l0_12 : List (S32)) (a0_13 : Int) (a1_0 : Int) (a1_1 : Int) : Option (Int × Int × Int × Int) := (ramp_Line.f a1_0 a1_1).bind fun t267 => ((style_RightFill.f k a0_0 a0_1 a0_2 a0_3 a0_4 a0_5 a0_6 a0_7 a0_8 a0_9 a0_10 a0_11 l0_12 a0_13).bind fun t268 => (if t268 = true then (if a0_0 = 16 then (ramp_At.j0 k t267 false a0_0 a0_1 a0_2 a0_3 a0_4 a0_5 a0_6 a0_7 a0_8 a0_9 a0_10 a0_11 l0_12 a0_13 a1_0 a1_1) else (ramp_At.j0 k t267 (a0_0 != 18) a0_0 a0_1 a0_2 a0_3 a0_4 a0_5 a0_6 a0_7 a0_8 a0_9 a0_10 a0_11 l0_12 a0_13 a1_0 a1_1)) else (ramp_At.j0 k t267 true a0_0 a0_1 a0_2 a0_3 a0_4 a0_5 a0_6 a0_7 a0_8 a0_9 a0_10 a0_11 l0_12 a0_13 a1_0 a1_1)))
theorem ramp_At.mono_l : ∀ k, (∀ y0 y1 y2 y3 y4 y5 y6 y7 y8 y9 y10 y11 y12 y13 y14 y15 y16 y17, LeO (ramp_At.j0 k y0 y1 y2 y3 y4 y5 y6 y7 y8 y9 y10 y11 y12 y13 y14 y15 y16 y17) (ramp_At.j0 (k + 1) y0 y1 y2 y3 y4 y5 y6 y7 y8 y9 y10 y11 y12 y13 y14 y15 y16 y17))
  | 0 => fun _ _ _ _ _ _ _ _ _ _ _ _ _ _ _ _ _ _ r h => by simp [ramp_At.j0] at h
  | k + 1 => by
    have ih0 := ramp_At.mono_l k
    · intro y0 y1 y2 y3 y4 y5 y6 y7 y8 y9 y10 y11 y12 y13 y14 y15 y16 y17
      unfold ramp_At.j0
      repeat' first
      | (with_reducible exact ih0 _ _ _ _ _ _ _ _ _ _ _ _ _ _ _ _ _ _)
      | (with_reducible exact ramp_Circle.mono _ _ _)
      | (with_reducible exact ramp_Color.mono _ _ _)
      | (with_reducible exact style_RightFill.mono _ _ _ _ _ _ _ _ _ _ _ _ _ _ _)
      | (with_reducible exact LeO.refl _)
      | (with_reducible exact LeO.none _)
      | (with_reducible refine LeO.ite ?_ ?_)
      | (with_reducible refine LeO.bind ?_ (fun _ => ?_))
      | exact ih0 _ _ _ _ _ _ _ _ _ _ _ _ _ _ _ _ _ _
      | exact ramp_Circle.mono _ _ _
      | exact ramp_Color.mono _ _ _
      | exact style_RightFill.mono _ _ _ _ _ _ _ _ _ _ _ _ _ _ _
      | exact LeO.none _
      | refine LeO.ite ?_ ?_
      | refine LeO.bind ?_ (fun _ => ?_)
theorem ramp_At.mono : ∀ a0 a1 a2 a3 a4 a5 a6 a7 a8 a9 a10 a11 a12 a13 a14 a15 k, LeO (ramp_At.f k a0 a1 a2 a3 a4 a5 a6 a7 a8 a9 a10 a11 a12 a13 a14 a15) (ramp_At.f (k + 1) a0 a1 a2 a3 a4 a5 a6 a7 a8 a9 a10 a11 a12 a13 a14 a15) := by
  intro a0 a1 a2 a3 a4 a5 a6 a7 a8 a9 a10 a11 a12 a13 a14 a15 k
  have ih0 := ramp_At.mono_l k
  unfold ramp_At.f
  repeat' first
      | (with_reducible exact ih0 _ _ _ _ _ _ _ _ _ _ _ _ _ _ _ _ _ _)
      | (with_reducible exact ramp_Circle.mono _ _ _)
      | (with_reducible exact ramp_Color.mono _ _ _)
      | (with_reducible exact style_RightFill.mono _ _ _ _ _ _ _ _ _ _ _ _ _ _ _)
      | (with_reducible exact LeO.refl _)
      | (with_reducible exact LeO.none _)
      | (with_reducible refine LeO.ite ?_ ?_)
      | (with_reducible refine LeO.bind ?_ (fun _ => ?_))
      | exact ih0 _ _ _ _ _ _ _ _ _ _ _ _ _ _ _ _ _ _
      | exact ramp_Circle.mono _ _ _
      | exact ramp_Color.mono _ _ _
      | exact style_RightFill.mono _ _ _ _ _ _ _ _ _ _ _ _ _ _ _
      | exact LeO.none _
      | refine LeO.ite ?_ ?_
      | refine LeO.bind ?_ (fun _ => ?_)
def ramp_At.T6 : Bool × List (List Nat × List Nat) := (true, [([], []), ([0], [0]), ([], []), ([], []), ([3], [3]), ([2, 4], [2, 4]), ([1, 5, 5], [1, 5]), ([6, 6, 0, 1, 2, 3, 4, 5, 6], [6])])
def ramp_At.B6 : List Nat := [0, 1, 0, 0, 8, 28, 63, 127]
theorem ramp_At.tab6 : rtab .any (opsOf Try.f19 6) = ramp_At.T6 := by kernel_rfl
theorem ramp_At.bits6 : waitsOk ramp_At.T6.2 ramp_At.B6 = true := by kernel_rfl
set_option maxHeartbeats 8000000 in
set_option maxRecDepth 100000 in
theorem ramp_At.calls (k : Nat) (a0_0 : Int) (a0_1 : Int) (a0_2 : Int) (a0_3 : Int) (a0_4 : Int) (a0_5 : Int) (a0_6 : Int) (a0_7 : Int) (a0_8 : Int) (a0_9 : Int) (a0_10 : Int) (a0_11 : Int) (A0_12 : Option Addr) (c0_12 : Nat) (l0_12 : List (S32)) (a0_13 : Int) (a1_0 : Int) (a1_1 : Int) (r1 : Int) (r2 : Int) (r3 : Int) (r4 : Int) (w : World) (hr0_12 : Kd.C k32 w A0_12 l0_12.length l0_12) (hc0_12 : l0_12.length ≤ c0_12) (h : ramp_At.f k a0_0 a0_1 a0_2 a0_3 a0_4 a0_5 a0_6 a0_7 a0_8 a0_9 a0_10 a0_11 l0_12 a0_13 a1_0 a1_1 = some (r1, r2, r3, r4)) :
    Calls Try.prog 19 #[.agg #[.int .i64 a0_0, .int .i64 a0_1, .int .i64 a0_2, .int .i64 a0_3, .int .i64 a0_4, .int .i64 a0_5, .int .i64 a0_6, .int .i64 a0_7, .int .i64 a0_8, .int .i64 a0_9, .int .i64 a0_10, .int .i64 a0_11, .slice A0_12 l0_12.length c0_12, .int .i64 a0_13], .agg #[.int .i64 a1_0, .int .i64 a1_1]] w fun e w' => e = .returned (.agg #[.int .i64 r1, .int .i64 r2, .int .i64 r3, .int .i64 r4]) ∧ Below w.heap.size w w' := by
  have hu43 := Try.underlying43
  have hu36 := Try.underlying36
  have hu27 := Try.underlying27
  have HR0_12 := Aside0.mk hr0_12
  have HC0_12 := Aside0.mk hc0_12
  clear hr0_12 hc0_12
  have HB := Aside0.mk (Below.refl w.heap.size w)
  have H : ((ramp_Line.f a1_0 a1_1).bind fun t267 => ((style_RightFill.f k a0_0 a0_1 a0_2 a0_3 a0_4 a0_5 a0_6 a0_7 a0_8 a0_9 a0_10 a0_11 l0_12 a0_13).bind fun t268 => (if t268 = true then (if a0_0 = 16 then (ramp_At.j0 k t267 false a0_0 a0_1 a0_2 a0_3 a0_4 a0_5 a0_6 a0_7 a0_8 a0_9 a0_10 a0_11 l0_12 a0_13 a1_0 a1_1) else (ramp_At.j0 k t267 (a0_0 != 18) a0_0 a0_1 a0_2 a0_3 a0_4 a0_5 a0_6 a0_7 a0_8 a0_9 a0_10 a0_11 l0_12 a0_13 a1_0 a1_1)) else (ramp_At.j0 k t267 true a0_0 a0_1 a0_2 a0_3 a0_4 a0_5 a0_6 a0_7 a0_8 a0_9 a0_10 a0_11 l0_12 a0_13 a1_0 a1_1)))) = some (r1, r2, r3, r4) := h
  clear h
  replace H := Option.bind_eq_some_iff.mp H
  obtain ⟨t267, A30, H⟩ := H
  replace H : ((style_RightFill.f k a0_0 a0_1 a0_2 a0_3 a0_4 a0_5 a0_6 a0_7 a0_8 a0_9 a0_10 a0_11 l0_12 a0_13).bind fun t268 => (if t268 = true then (if a0_0 = 16 then (ramp_At.j0 k t267 false a0_0 a0_1 a0_2 a0_3 a0_4 a0_5 a0_6 a0_7 a0_8 a0_9 a0_10 a0_11 l0_12 a0_13 a1_0 a1_1) else (ramp_At.j0 k t267 (a0_0 != 18) a0_0 a0_1 a0_2 a0_3 a0_4 a0_5 a0_6 a0_7 a0_8 a0_9 a0_10 a0_11 l0_12 a0_13 a1_0 a1_1)) else (ramp_At.j0 k t267 true a0_0 a0_1 a0_2 a0_3 a0_4 a0_5 a0_6 a0_7 a0_8 a0_9 a0_10 a0_11 l0_12 a0_13 a1_0 a1_1))) = some (r1, r2, r3, r4) := H
  have A3 := Aside0.mk A30
  clear A30
  have HC4 := Aside0.mk H
  clear H
  go_enter Try.func19, Try.ntmps19
  go_upto_region 2 with (first | ((with_reducible refine gate_dst (N := 2) rfl ?_); refine box_event ?hg (N := 2) ?hd (cs := #[.int .i64 a0_0, .int .i64 a0_1, .int .i64 a0_2, .int .i64 a0_3, .int .i64 a0_4, .int .i64 a0_5, .int .i64 a0_6, .int .i64 a0_7, .int .i64 a0_8, .int .i64 a0_9, .int .i64 a0_10, .int .i64 a0_11, .slice A0_12 l0_12.length c0_12, .int .i64 a0_13]) (t := 43) ?hr ?_; (case hd => rfl); (case hg => rfl); (case hr => first | (go_simp; done) | (go_simp; rfl)); intro gb264 hg w5 hbox hb; have n0_ := Aside0.mk (below_step (by repeat (first | (with_reducible first | exact HB.out | apply below_alloc | apply pw_below_drewN | apply below_drew1) | exact HB.out)) hb); have n1_ := Aside0.mk (hbox); have n2_ := Aside0.mk ((by rw [hg]; exact (below_size (by repeat (first | (with_reducible first | exact HB.out | apply below_alloc | apply pw_below_drewN | apply below_drew1) | exact HB.out))) : w.heap.size ≤ gb264)); have n3_ := Aside0.mk ((by rw [hg]; exact (below_size (by repeat (first | (with_reducible first | exact HB.out | apply below_alloc | apply pw_below_drewN | apply below_drew1) | exact HB.out))) : w.heap.size ≤ gb264)); clear HB; have HB := n0_; have BK264 := n1_; have GW264 := n2_; have GE264 := n3_; clear n0_ n1_ n2_ n3_; clear hb hbox hg) | ((with_reducible refine gate_dst (N := 3) rfl ?_); refine box_event ?hg (N := 3) ?hd (cs := #[.int .i64 a1_0, .int .i64 a1_1]) (t := 36) ?hr ?_; (case hd => rfl); (case hg => rfl); (case hr => first | (go_simp; done) | (go_simp; rfl)); intro gb265 hg w6 hbox hb; have n0_ := Aside0.mk (blk_below (g := gb264) (o := .cells #[.int .i64 a0_0, .int .i64 a0_1, .int .i64 a0_2, .int .i64 a0_3, .int .i64 a0_4, .int .i64 a0_5, .int .i64 a0_6, .int .i64 a0_7, .int .i64 a0_8, .int .i64 a0_9, .int .i64 a0_10, .int .i64 a0_11, .slice A0_12 l0_12.length c0_12, .int .i64 a0_13] 43 (0, 0)) (by (with_reducible repeat (first | refine blk_drewN ?_ _ | refine blk_drew ?_ | refine blk_alloc ?_ _)); exact BK264.out) hb); have n1_ := Aside0.mk (below_step (by repeat (first | (with_reducible first | exact HB.out | apply below_alloc | apply pw_below_drewN | apply below_drew1 | refine below_set ?_ GE264.out) | exact HB.out)) hb); have n2_ := Aside0.mk (hbox); have n3_ := Aside0.mk ((by rw [hg]; exact (below_size (by repeat (first | (with_reducible first | exact HB.out | apply below_alloc | apply pw_below_drewN | apply below_drew1 | refine below_set ?_ GE264.out) | exact HB.out))) : w.heap.size ≤ gb265)); have n4_ := Aside0.mk ((by rw [hg]; exact (below_size (by repeat (first | (with_reducible first | exact HB.out | apply below_alloc | apply pw_below_drewN | apply below_drew1 | refine below_set ?_ GE264.out) | exact HB.out))) : w.heap.size ≤ gb265)); have n5_ := Aside0.mk ((by rw [hg]; exact Nat.ne_of_lt (blk_lt (g := gb264) (o := .cells #[.int .i64 a0_0, .int .i64 a0_1, .int .i64 a0_2, .int .i64 a0_3, .int .i64 a0_4, .int .i64 a0_5, .int .i64 a0_6, .int .i64 a0_7, .int .i64 a0_8, .int .i64 a0_9, .int .i64 a0_10, .int .i64 a0_11, .slice A0_12 l0_12.length c0_12, .int .i64 a0_13] 43 (0, 0)) (by (with_reducible repeat (first | refine blk_drewN ?_ _ | refine blk_drew ?_ | refine blk_alloc ?_ _)); exact BK264.out)) : gb264 ≠ gb265)); have n6_ := Aside0.mk ((by rw [hg]; exact Nat.ne_of_gt (blk_lt (g := gb264) (o := .cells #[.int .i64 a0_0, .int .i64 a0_1, .int .i64 a0_2, .int .i64 a0_3, .int .i64 a0_4, .int .i64 a0_5, .int .i64 a0_6, .int .i64 a0_7, .int .i64 a0_8, .int .i64 a0_9, .int .i64 a0_10, .int .i64 a0_11, .slice A0_12 l0_12.length c0_12, .int .i64 a0_13] 43 (0, 0)) (by (with_reducible repeat (first | refine blk_drewN ?_ _ | refine blk_drew ?_ | refine blk_alloc ?_ _)); exact BK264.out)) : gb265 ≠ gb264)); clear BK264; clear HB; have BK264 := n0_; have HB := n1_; have BK265 := n2_; have GW265 := n3_; have GE265 := n4_; have NB264_265 := n5_; have NB265_264 := n6_; clear n0_ n1_ n2_ n3_ n4_ n5_ n6_; clear hb hbox hg) | ((with_reducible refine gate_dst (N := 4) rfl ?_); refine box_event ?hg (N := 4) ?hd (cs := #[.int .i64 0, .int .i64 0, .int .i64 0, .int .i64 0]) (t := 27) ?hr ?_; (case hd => rfl); (case hg => rfl); (case hr => first | (go_simp; done) | (go_simp; rfl)); intro gb266 hg w7 hbox hb; have n0_ := Aside0.mk (blk_below (g := gb264) (o := .cells #[.int .i64 a0_0, .int .i64 a0_1, .int .i64 a0_2, .int .i64 a0_3, .int .i64 a0_4, .int .i64 a0_5, .int .i64 a0_6, .int .i64 a0_7, .int .i64 a0_8, .int .i64 a0_9, .int .i64 a0_10, .int .i64 a0_11, .slice A0_12 l0_12.length c0_12, .int .i64 a0_13] 43 (0, 0)) (by (with_reducible repeat (first | refine blk_drewN ?_ _ | refine blk_drew ?_ | refine blk_alloc ?_ _)); exact BK264.out) hb); have n1_ := Aside0.mk (blk_below (g := gb265) (o := .cells #[.int .i64 a1_0, .int .i64 a1_1] 36 (0, 0)) (by (with_reducible repeat (first | refine blk_drewN ?_ _ | refine blk_drew ?_ | refine blk_alloc ?_ _)); exact BK265.out) hb); have n2_ := Aside0.mk (below_step (by repeat (first | (with_reducible first | exact HB.out | apply below_alloc | apply pw_below_drewN | apply below_drew1 | refine below_set ?_ GE264.out | refine below_set ?_ GE265.out) | exact HB.out)) hb); have n3_ := Aside0.mk (hbox); have n4_ := Aside0.mk ((by rw [hg]; exact (below_size (by repeat (first | (with_reducible first | exact HB.out | apply below_alloc | apply pw_below_drewN | apply below_drew1 | refine below_set ?_ GE264.out | refine below_set ?_ GE265.out) | exact HB.out))) : w.heap.size ≤ gb266)); have n5_ := Aside0.mk ((by rw [hg]; exact (below_size (by repeat (first | (with_reducible first | exact HB.out | apply below_alloc | apply pw_below_drewN | apply below_drew1 | refine below_set ?_ GE264.out | refine below_set ?_ GE265.out) | exact HB.out))) : w.heap.size ≤ gb266)); have n6_ := Aside0.mk ((by rw [hg]; exact Nat.ne_of_lt (blk_lt (g := gb264) (o := .cells #[.int .i64 a0_0, .int .i64 a0_1, .int .i64 a0_2, .int .i64 a0_3, .int .i64 a0_4, .int .i64 a0_5, .int .i64 a0_6, .int .i64 a0_7, .int .i64 a0_8, .int .i64 a0_9, .int .i64 a0_10, .int .i64 a0_11, .slice A0_12 l0_12.length c0_12, .int .i64 a0_13] 43 (0, 0)) (by (with_reducible repeat (first | refine blk_drewN ?_ _ | refine blk_drew ?_ | refine blk_alloc ?_ _)); exact BK264.out)) : gb264 ≠ gb266)); have n7_ := Aside0.mk ((by rw [hg]; exact Nat.ne_of_gt (blk_lt (g := gb264) (o := .cells #[.int .i64 a0_0, .int .i64 a0_1, .int .i64 a0_2, .int .i64 a0_3, .int .i64 a0_4, .int .i64 a0_5, .int .i64 a0_6, .int .i64 a0_7, .int .i64 a0_8, .int .i64 a0_9, .int .i64 a0_10, .int .i64 a0_11, .slice A0_12 l0_12.length c0_12, .int .i64 a0_13] 43 (0, 0)) (by (with_reducible repeat (first | refine blk_drewN ?_ _ | refine blk_drew ?_ | refine blk_alloc ?_ _)); exact BK264.out)) : gb266 ≠ gb264)); have n8_ := Aside0.mk ((by rw [hg]; exact Nat.ne_of_lt (blk_lt (g := gb265) (o := .cells #[.int .i64 a1_0, .int .i64 a1_1] 36 (0, 0)) (by (with_reducible repeat (first | refine blk_drewN ?_ _ | refine blk_drew ?_ | refine blk_alloc ?_ _)); exact BK265.out)) : gb265 ≠ gb266)); have n9_ := Aside0.mk ((by rw [hg]; exact Nat.ne_of_gt (blk_lt (g := gb265) (o := .cells #[.int .i64 a1_0, .int .i64 a1_1] 36 (0, 0)) (by (with_reducible repeat (first | refine blk_drewN ?_ _ | refine blk_drew ?_ | refine blk_alloc ?_ _)); exact BK265.out)) : gb266 ≠ gb265)); clear BK264; clear BK265; clear HB; have BK264 := n0_; have BK265 := n1_; have HB := n2_; have BK266 := n3_; have GW266 := n4_; have GE266 := n5_; have NB264_266 := n6_; have NB266_264 := n7_; have NB265_266 := n8_; have NB266_265 := n9_; clear n0_ n1_ n2_ n3_ n4_ n5_ n6_ n7_ n8_ n9_; clear hb hbox hg; have hnb8 := NB265_264.out; have hnc8 := NB264_265.out; have hnb9 := NB265_266.out; have hnc9 := NB266_265.out; have hcz10_0 : w7.cell? ⟨gb265, 0, none⟩ = some (.int .i64 a1_0) := (blk_cell BK265.out 0).trans rfl; have hcz10_1 : w7.cell? ⟨gb265, 1, none⟩ = some (.int .i64 a1_1) := (blk_cell BK265.out 1).trans rfl; have hfz10_0 := blk_frozen BK265.out 0; have hfz10_1 := blk_frozen BK265.out 1) | ((with_reducible refine gate_callee (f := 16) rfl ?_); refine goesL_ (some 7) rfl rfl Try.func16 (by kernel_rfl) rfl #[.agg #[.int .i64 a1_0, .int .i64 a1_1]] rfl (by (try simp only [List.map_toArray, List.map_cons, List.map_nil]); first | done | rfl | (simp only [List.length_drop, List.length_take]; rfl)) ?_; (with_reducible refine (ramp_Line.calls a1_0 a1_1 t267 _ A3.out).mono ?_); rintro e w11 ⟨rfl, hb⟩; refine ⟨_, rfl, ?_⟩; have n0_ := Aside0.mk (blk_below (g := gb264) (o := .cells #[.int .i64 a0_0, .int .i64 a0_1, .int .i64 a0_2, .int .i64 a0_3, .int .i64 a0_4, .int .i64 a0_5, .int .i64 a0_6, .int .i64 a0_7, .int .i64 a0_8, .int .i64 a0_9, .int .i64 a0_10, .int .i64 a0_11, .slice A0_12 l0_12.length c0_12, .int .i64 a0_13] 43 (0, 0)) (by (with_reducible repeat (first | refine blk_drewN ?_ _ | refine blk_drew ?_ | refine blk_alloc ?_ _)); exact BK264.out) hb); have n1_ := Aside0.mk (blk_below (g := gb265) (o := .cells #[.int .i64 a1_0, .int .i64 a1_1] 36 (0, 0)) (by (with_reducible repeat (first | refine blk_drewN ?_ _ | refine blk_drew ?_ | refine blk_alloc ?_ _)); exact BK265.out) hb); have n2_ := Aside0.mk (blk_below (g := gb266) (o := .cells #[.int .i64 0, .int .i64 0, .int .i64 0, .int .i64 0] 27 (0, 0)) (by (with_reducible repeat (first | refine blk_drewN ?_ _ | refine blk_drew ?_ | refine blk_alloc ?_ _)); exact BK266.out) hb); have n3_ := Aside0.mk (below_step (by repeat (first | (with_reducible first | exact HB.out | apply below_alloc | apply pw_below_drewN | apply below_drew1 | refine below_set ?_ GE264.out | refine below_set ?_ GE265.out | refine below_set ?_ GE266.out) | exact HB.out)) hb); clear BK264; clear BK265; clear BK266; clear HB; have BK264 := n0_; have BK265 := n1_; have BK266 := n2_; have HB := n3_; clear n0_ n1_ n2_ n3_; (try clear hb); (try clear hb2); (try clear hk); (try clear hi)))
  (try simp only [Act.put, List.setIfInBounds_toArray, List.set_cons_zero, List.set_cons_succ])
  go_cut [8] (fun v8 wc => ∃ (kq : Nat) (x8_3 : Bool), v8 = .bool x8_3 ∧ Aside0 (ramp_At.j0 kq t267 x8_3 a0_0 a0_1 a0_2 a0_3 a0_4 a0_5 a0_6 a0_7 a0_8 a0_9 a0_10 a0_11 l0_12 a0_13 a1_0 a1_1 = some (r1, r2, r3, r4)) ∧ Aside0 (kq ≤ k) ∧ Aside0 (wc.heap[gb264]? = some (.cells #[.int .i64 a0_0, .int .i64 a0_1, .int .i64 a0_2, .int .i64 a0_3, .int .i64 a0_4, .int .i64 a0_5, .int .i64 a0_6, .int .i64 a0_7, .int .i64 a0_8, .int .i64 a0_9, .int .i64 a0_10, .int .i64 a0_11, (.slice A0_12 l0_12.length c0_12), .int .i64 a0_13] 43 (0, 0))) ∧ Aside0 (wc.heap[gb265]? = some (.cells #[.int .i64 a1_0, .int .i64 a1_1] 36 (0, 0))) ∧ Aside0 (wc.heap[gb266]? = some (.cells #[.int .i64 0, .int .i64 0, .int .i64 0, .int .i64 0] 27 (0, 0))) ∧ Aside0 (Below w.heap.size w wc))
  case first =>
    have H := HC4.out
    clear HC4
    replace H := Option.bind_eq_some_iff.mp H
    obtain ⟨t268, A120, H⟩ := H
    replace H : (if t268 = true then (if a0_0 = 16 then (ramp_At.j0 k t267 false a0_0 a0_1 a0_2 a0_3 a0_4 a0_5 a0_6 a0_7 a0_8 a0_9 a0_10 a0_11 l0_12 a0_13 a1_0 a1_1) else (ramp_At.j0 k t267 (a0_0 != 18) a0_0 a0_1 a0_2 a0_3 a0_4 a0_5 a0_6 a0_7 a0_8 a0_9 a0_10 a0_11 l0_12 a0_13 a1_0 a1_1)) else (ramp_At.j0 k t267 true a0_0 a0_1 a0_2 a0_3 a0_4 a0_5 a0_6 a0_7 a0_8 a0_9 a0_10 a0_11 l0_12 a0_13 a1_0 a1_1)) = some (r1, r2, r3, r4) := H
    have A12 := Aside0.mk A120
    clear A120
    by_cases c13 : t268 = true
    · subst c13
      have H1 : (if a0_0 = 16 then (ramp_At.j0 k t267 false a0_0 a0_1 a0_2 a0_3 a0_4 a0_5 a0_6 a0_7 a0_8 a0_9 a0_10 a0_11 l0_12 a0_13 a1_0 a1_1) else (ramp_At.j0 k t267 (a0_0 != 18) a0_0 a0_1 a0_2 a0_3 a0_4 a0_5 a0_6 a0_7 a0_8 a0_9 a0_10 a0_11 l0_12 a0_13 a1_0 a1_1)) = some (r1, r2, r3, r4) := by rw [if_pos rfl] at H; exact H
      clear H
      have H := H1
      clear H1
      by_cases c14 : a0_0 = 16
      · rw [if_pos c14] at H
        have c14b0 : (a0_0 == 16) = true := beq_iff_eq.mpr c14
        have c14b1 : (a0_0 != 16) = false := bne_eq_false_iff_eq.mpr c14
        clear c14
        (first | rw [c14b0] | (simp only [i64_w, i32_w]; rw [c14b0]) | skip)
        have H' := Aside0.mk H
        clear H
        have hnb15 := NB264_265.out
        have hnc15 := NB265_264.out
        have hnb16 := NB264_266.out
        have hnc16 := NB266_264.out
        have hcz17_0 : w11.cell? ⟨gb264, 0, none⟩ = some (.int .i64 a0_0) := (blk_cell BK264.out 0).trans rfl
        have hcz17_1 : w11.cell? ⟨gb264, 1, none⟩ = some (.int .i64 a0_1) := (blk_cell BK264.out 1).trans rfl
        have hcz17_2 : w11.cell? ⟨gb264, 2, none⟩ = some (.int .i64 a0_2) := (blk_cell BK264.out 2).trans rfl
        have hcz17_3 : w11.cell? ⟨gb264, 3, none⟩ = some (.int .i64 a0_3) := (blk_cell BK264.out 3).trans rfl
        have hcz17_4 : w11.cell? ⟨gb264, 4, none⟩ = some (.int .i64 a0_4) := (blk_cell BK264.out 4).trans rfl
        have hcz17_5 : w11.cell? ⟨gb264, 5, none⟩ = some (.int .i64 a0_5) := (blk_cell BK264.out 5).trans rfl
        have hcz17_6 : w11.cell? ⟨gb264, 6, none⟩ = some (.int .i64 a0_6) := (blk_cell BK264.out 6).trans rfl
        have hcz17_7 : w11.cell? ⟨gb264, 7, none⟩ = some (.int .i64 a0_7) := (blk_cell BK264.out 7).trans rfl
        have hcz17_8 : w11.cell? ⟨gb264, 8, none⟩ = some (.int .i64 a0_8) := (blk_cell BK264.out 8).trans rfl
        have hcz17_9 : w11.cell? ⟨gb264, 9, none⟩ = some (.int .i64 a0_9) := (blk_cell BK264.out 9).trans rfl
        have hcz17_10 : w11.cell? ⟨gb264, 10, none⟩ = some (.int .i64 a0_10) := (blk_cell BK264.out 10).trans rfl
        have hcz17_11 : w11.cell? ⟨gb264, 11, none⟩ = some (.int .i64 a0_11) := (blk_cell BK264.out 11).trans rfl
        have hcz17_12 : w11.cell? ⟨gb264, 12, none⟩ = some (.slice A0_12 l0_12.length c0_12) := (blk_cell BK264.out 12).trans rfl
        have hcz17_13 : w11.cell? ⟨gb264, 13, none⟩ = some (.int .i64 a0_13) := (blk_cell BK264.out 13).trans rfl
        have hfz17_0 := blk_frozen BK264.out 0
        have hfz17_1 := blk_frozen BK264.out 1
        have hfz17_2 := blk_frozen BK264.out 2
        have hfz17_3 := blk_frozen BK264.out 3
        have hfz17_4 := blk_frozen BK264.out 4
        have hfz17_5 := blk_frozen BK264.out 5
        have hfz17_6 := blk_frozen BK264.out 6
        have hfz17_7 := blk_frozen BK264.out 7
        have hfz17_8 := blk_frozen BK264.out 8
        have hfz17_9 := blk_frozen BK264.out 9
        have hfz17_10 := blk_frozen BK264.out 10
        have hfz17_11 := blk_frozen BK264.out 11
        have hfz17_12 := blk_frozen BK264.out 12
        have hfz17_13 := blk_frozen BK264.out 13
        go_wp2_with (first | ((with_reducible refine gate_callee (f := 29) rfl ?_); refine goesL_ (some 10) rfl rfl Try.func29 (by kernel_rfl) rfl #[.agg #[.int .i64 a0_0, .int .i64 a0_1, .int .i64 a0_2, .int .i64 a0_3, .int .i64 a0_4, .int .i64 a0_5, .int .i64 a0_6, .int .i64 a0_7, .int .i64 a0_8, .int .i64 a0_9, .int .i64 a0_10, .int .i64 a0_11, .slice A0_12 l0_12.length c0_12, .int .i64 a0_13]] rfl (by (try simp only [List.map_toArray, List.map_cons, List.map_nil]); first | done | rfl | (simp only [List.length_drop, List.length_take]; rfl)) ?_; (with_reducible refine (style_RightFill.calls k a0_0 a0_1 a0_2 a0_3 a0_4 a0_5 a0_6 a0_7 a0_8 a0_9 a0_10 a0_11 _ _ l0_12 a0_13 true _ ?side1 ?side2 A12.out).mono ?_); (case side1 => repeat (first | exact (Kd.C_below HR0_12.out HB.out) | (with_reducible refine Kd.C_alloc ?_ _) | (with_reducible refine Kd.C_drewN ?_ _) | (with_reducible refine Kd.C_drew ?_))); (case side2 => exact HC0_12.out); rintro e w18 ⟨rfl, hb⟩; refine ⟨_, rfl, ?_⟩; have n0_ := Aside0.mk (blk_below (g := gb264) (o := .cells #[.int .i64 a0_0, .int .i64 a0_1, .int .i64 a0_2, .int .i64 a0_3, .int .i64 a0_4, .int .i64 a0_5, .int .i64 a0_6, .int .i64 a0_7, .int .i64 a0_8, .int .i64 a0_9, .int .i64 a0_10, .int .i64 a0_11, .slice A0_12 l0_12.length c0_12, .int .i64 a0_13] 43 (0, 0)) (by (with_reducible repeat (first | refine blk_drewN ?_ _ | refine blk_drew ?_ | refine blk_alloc ?_ _)); exact BK264.out) hb); have n1_ := Aside0.mk (blk_below (g := gb265) (o := .cells #[.int .i64 a1_0, .int .i64 a1_1] 36 (0, 0)) (by (with_reducible repeat (first | refine blk_drewN ?_ _ | refine blk_drew ?_ | refine blk_alloc ?_ _)); exact BK265.out) hb); have n2_ := Aside0.mk (blk_below (g := gb266) (o := .cells #[.int .i64 0, .int .i64 0, .int .i64 0, .int .i64 0] 27 (0, 0)) (by (with_reducible repeat (first | refine blk_drewN ?_ _ | refine blk_drew ?_ | refine blk_alloc ?_ _)); exact BK266.out) hb); have n3_ := Aside0.mk (below_step (by repeat (first | (with_reducible first | exact HB.out | apply below_alloc | apply pw_below_drewN | apply below_drew1 | refine below_set ?_ GE264.out | refine below_set ?_ GE265.out | refine below_set ?_ GE266.out) | exact HB.out)) hb); clear BK264; clear BK265; clear BK266; clear HB; have BK264 := n0_; have BK265 := n1_; have BK266 := n2_; have HB := n3_; clear n0_ n1_ n2_ n3_; (try clear hb); (try clear hb2); (try clear hk); (try clear hi); have hcz19_0 : w18.cell? ⟨gb264, 0, none⟩ = some (.int .i64 a0_0) := (blk_cell BK264.out 0).trans rfl; have hcz19_1 : w18.cell? ⟨gb264, 1, none⟩ = some (.int .i64 a0_1) := (blk_cell BK264.out 1).trans rfl; have hcz19_2 : w18.cell? ⟨gb264, 2, none⟩ = some (.int .i64 a0_2) := (blk_cell BK264.out 2).trans rfl; have hcz19_3 : w18.cell? ⟨gb264, 3, none⟩ = some (.int .i64 a0_3) := (blk_cell BK264.out 3).trans rfl; have hcz19_4 : w18.cell? ⟨gb264, 4, none⟩ = some (.int .i64 a0_4) := (blk_cell BK264.out 4).trans rfl; have hcz19_5 : w18.cell? ⟨gb264, 5, none⟩ = some (.int .i64 a0_5) := (blk_cell BK264.out 5).trans rfl; have hcz19_6 : w18.cell? ⟨gb264, 6, none⟩ = some (.int .i64 a0_6) := (blk_cell BK264.out 6).trans rfl; have hcz19_7 : w18.cell? ⟨gb264, 7, none⟩ = some (.int .i64 a0_7) := (blk_cell BK264.out 7).trans rfl; have hcz19_8 : w18.cell? ⟨gb264, 8, none⟩ = some (.int .i64 a0_8) := (blk_cell BK264.out 8).trans rfl; have hcz19_9 : w18.cell? ⟨gb264, 9, none⟩ = some (.int .i64 a0_9) := (blk_cell BK264.out 9).trans rfl; have hcz19_10 : w18.cell? ⟨gb264, 10, none⟩ = some (.int .i64 a0_10) := (blk_cell BK264.out 10).trans rfl; have hcz19_11 : w18.cell? ⟨gb264, 11, none⟩ = some (.int .i64 a0_11) := (blk_cell BK264.out 11).trans rfl; have hcz19_12 : w18.cell? ⟨gb264, 12, none⟩ = some (.slice A0_12 l0_12.length c0_12) := (blk_cell BK264.out 12).trans rfl; have hcz19_13 : w18.cell? ⟨gb264, 13, none⟩ = some (.int .i64 a0_13) := (blk_cell BK264.out 13).trans rfl; have hfz19_0 := blk_frozen BK264.out 0; have hfz19_1 := blk_frozen BK264.out 1; have hfz19_2 := blk_frozen BK264.out 2; have hfz19_3 := blk_frozen BK264.out 3; have hfz19_4 := blk_frozen BK264.out 4; have hfz19_5 := blk_frozen BK264.out 5; have hfz19_6 := blk_frozen BK264.out 6; have hfz19_7 := blk_frozen BK264.out 7; have hfz19_8 := blk_frozen BK264.out 8; have hfz19_9 := blk_frozen BK264.out 9; have hfz19_10 := blk_frozen BK264.out 10; have hfz19_11 := blk_frozen BK264.out 11; have hfz19_12 := blk_frozen BK264.out 12; have hfz19_13 := blk_frozen BK264.out 13))
        go_meet
        case rel => exact ⟨_, (false), (by first | rfl | (simp; done) | (simp [*]; done)), H', ⟨by first | omega | exact Nat.le_refl _⟩, ⟨by (with_reducible repeat (first | refine blk_drewN ?_ _ | refine blk_drew ?_ | refine blk_alloc ?_ _)); exact BK264.out⟩, ⟨by (with_reducible repeat (first | refine blk_drewN ?_ _ | refine blk_drew ?_ | refine blk_alloc ?_ _)); exact BK265.out⟩, ⟨by (with_reducible repeat (first | refine blk_drewN ?_ _ | refine blk_drew ?_ | refine blk_alloc ?_ _)); exact BK266.out⟩, ⟨by repeat (first | (with_reducible first | exact HB.out | apply below_alloc | apply pw_below_drewN | apply below_drew1 | refine below_set ?_ GE264.out | refine below_set ?_ GE265.out | refine below_set ?_ GE266.out) | exact HB.out)⟩⟩
      · rw [if_neg c14] at H
        have c14b0 : (a0_0 == 16) = false := beq_eq_false_iff_ne.mpr c14
        have c14b1 : (a0_0 != 16) = true := bne_iff_ne.mpr c14
        (first | rw [c14b0] | (simp only [i64_w, i32_w]; rw [c14b0]) | skip)
        have H' := Aside0.mk H
        clear H
        have hnb20 := NB264_265.out
        have hnc20 := NB265_264.out
        have hnb21 := NB264_266.out
        have hnc21 := NB266_264.out
        have hcz22_0 : w11.cell? ⟨gb264, 0, none⟩ = some (.int .i64 a0_0) := (blk_cell BK264.out 0).trans rfl
        have hcz22_1 : w11.cell? ⟨gb264, 1, none⟩ = some (.int .i64 a0_1) := (blk_cell BK264.out 1).trans rfl
        have hcz22_2 : w11.cell? ⟨gb264, 2, none⟩ = some (.int .i64 a0_2) := (blk_cell BK264.out 2).trans rfl
        have hcz22_3 : w11.cell? ⟨gb264, 3, none⟩ = some (.int .i64 a0_3) := (blk_cell BK264.out 3).trans rfl
        have hcz22_4 : w11.cell? ⟨gb264, 4, none⟩ = some (.int .i64 a0_4) := (blk_cell BK264.out 4).trans rfl
        have hcz22_5 : w11.cell? ⟨gb264, 5, none⟩ = some (.int .i64 a0_5) := (blk_cell BK264.out 5).trans rfl
        have hcz22_6 : w11.cell? ⟨gb264, 6, none⟩ = some (.int .i64 a0_6) := (blk_cell BK264.out 6).trans rfl
        have hcz22_7 : w11.cell? ⟨gb264, 7, none⟩ = some (.int .i64 a0_7) := (blk_cell BK264.out 7).trans rfl
        have hcz22_8 : w11.cell? ⟨gb264, 8, none⟩ = some (.int .i64 a0_8) := (blk_cell BK264.out 8).trans rfl
        have hcz22_9 : w11.cell? ⟨gb264, 9, none⟩ = some (.int .i64 a0_9) := (blk_cell BK264.out 9).trans rfl
        have hcz22_10 : w11.cell? ⟨gb264, 10, none⟩ = some (.int .i64 a0_10) := (blk_cell BK264.out 10).trans rfl
        have hcz22_11 : w11.cell? ⟨gb264, 11, none⟩ = some (.int .i64 a0_11) := (blk_cell BK264.out 11).trans rfl
        have hcz22_12 : w11.cell? ⟨gb264, 12, none⟩ = some (.slice A0_12 l0_12.length c0_12) := (blk_cell BK264.out 12).trans rfl
        have hcz22_13 : w11.cell? ⟨gb264, 13, none⟩ = some (.int .i64 a0_13) := (blk_cell BK264.out 13).trans rfl
        have hfz22_0 := blk_frozen BK264.out 0
        have hfz22_1 := blk_frozen BK264.out 1
        have hfz22_2 := blk_frozen BK264.out 2
        have hfz22_3 := blk_frozen BK264.out 3
        have hfz22_4 := blk_frozen BK264.out 4
        have hfz22_5 := blk_frozen BK264.out 5
        have hfz22_6 := blk_frozen BK264.out 6
        have hfz22_7 := blk_frozen BK264.out 7
        have hfz22_8 := blk_frozen BK264.out 8
        have hfz22_9 := blk_frozen BK264.out 9
        have hfz22_10 := blk_frozen BK264.out 10
        have hfz22_11 := blk_frozen BK264.out 11
        have hfz22_12 := blk_frozen BK264.out 12
        have hfz22_13 := blk_frozen BK264.out 13
        go_wp2_with (first | ((with_reducible refine gate_callee (f := 29) rfl ?_); refine goesL_ (some 10) rfl rfl Try.func29 (by kernel_rfl) rfl #[.agg #[.int .i64 a0_0, .int .i64 a0_1, .int .i64 a0_2, .int .i64 a0_3, .int .i64 a0_4, .int .i64 a0_5, .int .i64 a0_6, .int .i64 a0_7, .int .i64 a0_8, .int .i64 a0_9, .int .i64 a0_10, .int .i64 a0_11, .slice A0_12 l0_12.length c0_12, .int .i64 a0_13]] rfl (by (try simp only [List.map_toArray, List.map_cons, List.map_nil]); first | done | rfl | (simp only [List.length_drop, List.length_take]; rfl)) ?_; (with_reducible refine (style_RightFill.calls k a0_0 a0_1 a0_2 a0_3 a0_4 a0_5 a0_6 a0_7 a0_8 a0_9 a0_10 a0_11 _ _ l0_12 a0_13 true _ ?side1 ?side2 A12.out).mono ?_); (case side1 => repeat (first | exact (Kd.C_below HR0_12.out HB.out) | (with_reducible refine Kd.C_alloc ?_ _) | (with_reducible refine Kd.C_drewN ?_ _) | (with_reducible refine Kd.C_drew ?_))); (case side2 => exact HC0_12.out); rintro e w23 ⟨rfl, hb⟩; refine ⟨_, rfl, ?_⟩; have n0_ := Aside0.mk (blk_below (g := gb264) (o := .cells #[.int .i64 a0_0, .int .i64 a0_1, .int .i64 a0_2, .int .i64 a0_3, .int .i64 a0_4, .int .i64 a0_5, .int .i64 a0_6, .int .i64 a0_7, .int .i64 a0_8, .int .i64 a0_9, .int .i64 a0_10, .int .i64 a0_11, .slice A0_12 l0_12.length c0_12, .int .i64 a0_13] 43 (0, 0)) (by (with_reducible repeat (first | refine blk_drewN ?_ _ | refine blk_drew ?_ | refine blk_alloc ?_ _)); exact BK264.out) hb); have n1_ := Aside0.mk (blk_below (g := gb265) (o := .cells #[.int .i64 a1_0, .int .i64 a1_1] 36 (0, 0)) (by (with_reducible repeat (first | refine blk_drewN ?_ _ | refine blk_drew ?_ | refine blk_alloc ?_ _)); exact BK265.out) hb); have n2_ := Aside0.mk (blk_below (g := gb266) (o := .cells #[.int .i64 0, .int .i64 0, .int .i64 0, .int .i64 0] 27 (0, 0)) (by (with_reducible repeat (first | refine blk_drewN ?_ _ | refine blk_drew ?_ | refine blk_alloc ?_ _)); exact BK266.out) hb); have n3_ := Aside0.mk (below_step (by repeat (first | (with_reducible first | exact HB.out | apply below_alloc | apply pw_below_drewN | apply below_drew1 | refine below_set ?_ GE264.out | refine below_set ?_ GE265.out | refine below_set ?_ GE266.out) | exact HB.out)) hb); clear BK264; clear BK265; clear BK266; clear HB; have BK264 := n0_; have BK265 := n1_; have BK266 := n2_; have HB := n3_; clear n0_ n1_ n2_ n3_; (try clear hb); (try clear hb2); (try clear hk); (try clear hi); have hcz24_0 : w23.cell? ⟨gb264, 0, none⟩ = some (.int .i64 a0_0) := (blk_cell BK264.out 0).trans rfl; have hcz24_1 : w23.cell? ⟨gb264, 1, none⟩ = some (.int .i64 a0_1) := (blk_cell BK264.out 1).trans rfl; have hcz24_2 : w23.cell? ⟨gb264, 2, none⟩ = some (.int .i64 a0_2) := (blk_cell BK264.out 2).trans rfl; have hcz24_3 : w23.cell? ⟨gb264, 3, none⟩ = some (.int .i64 a0_3) := (blk_cell BK264.out 3).trans rfl; have hcz24_4 : w23.cell? ⟨gb264, 4, none⟩ = some (.int .i64 a0_4) := (blk_cell BK264.out 4).trans rfl; have hcz24_5 : w23.cell? ⟨gb264, 5, none⟩ = some (.int .i64 a0_5) := (blk_cell BK264.out 5).trans rfl; have hcz24_6 : w23.cell? ⟨gb264, 6, none⟩ = some (.int .i64 a0_6) := (blk_cell BK264.out 6).trans rfl; have hcz24_7 : w23.cell? ⟨gb264, 7, none⟩ = some (.int .i64 a0_7) := (blk_cell BK264.out 7).trans rfl; have hcz24_8 : w23.cell? ⟨gb264, 8, none⟩ = some (.int .i64 a0_8) := (blk_cell BK264.out 8).trans rfl; have hcz24_9 : w23.cell? ⟨gb264, 9, none⟩ = some (.int .i64 a0_9) := (blk_cell BK264.out 9).trans rfl; have hcz24_10 : w23.cell? ⟨gb264, 10, none⟩ = some (.int .i64 a0_10) := (blk_cell BK264.out 10).trans rfl; have hcz24_11 : w23.cell? ⟨gb264, 11, none⟩ = some (.int .i64 a0_11) := (blk_cell BK264.out 11).trans rfl; have hcz24_12 : w23.cell? ⟨gb264, 12, none⟩ = some (.slice A0_12 l0_12.length c0_12) := (blk_cell BK264.out 12).trans rfl; have hcz24_13 : w23.cell? ⟨gb264, 13, none⟩ = some (.int .i64 a0_13) := (blk_cell BK264.out 13).trans rfl; have hfz24_0 := blk_frozen BK264.out 0; have hfz24_1 := blk_frozen BK264.out 1; have hfz24_2 := blk_frozen BK264.out 2; have hfz24_3 := blk_frozen BK264.out 3; have hfz24_4 := blk_frozen BK264.out 4; have hfz24_5 := blk_frozen BK264.out 5; have hfz24_6 := blk_frozen BK264.out 6; have hfz24_7 := blk_frozen BK264.out 7; have hfz24_8 := blk_frozen BK264.out 8; have hfz24_9 := blk_frozen BK264.out 9; have hfz24_10 := blk_frozen BK264.out 10; have hfz24_11 := blk_frozen BK264.out 11; have hfz24_12 := blk_frozen BK264.out 12; have hfz24_13 := blk_frozen BK264.out 13))
        go_meet
        case rel => exact ⟨_, ((a0_0 != 18)), (by first | rfl | (simp; done) | (simp [*]; done)), H', ⟨by first | omega | exact Nat.le_refl _⟩, ⟨by (with_reducible repeat (first | refine blk_drewN ?_ _ | refine blk_drew ?_ | refine blk_alloc ?_ _)); exact BK264.out⟩, ⟨by (with_reducible repeat (first | refine blk_drewN ?_ _ | refine blk_drew ?_ | refine blk_alloc ?_ _)); exact BK265.out⟩, ⟨by (with_reducible repeat (first | refine blk_drewN ?_ _ | refine blk_drew ?_ | refine blk_alloc ?_ _)); exact BK266.out⟩, ⟨by repeat (first | (with_reducible first | exact HB.out | apply below_alloc | apply pw_below_drewN | apply below_drew1 | refine below_set ?_ GE264.out | refine below_set ?_ GE265.out | refine below_set ?_ GE266.out) | exact HB.out)⟩⟩
    · replace c13 := Bool.eq_false_iff.mpr c13
      subst c13
      have H1 : (ramp_At.j0 k t267 true a0_0 a0_1 a0_2 a0_3 a0_4 a0_5 a0_6 a0_7 a0_8 a0_9 a0_10 a0_11 l0_12 a0_13 a1_0 a1_1) = some (r1, r2, r3, r4) := by rw [if_neg (show ¬ (false = true) by decide)] at H; exact H
      clear H
      have H := H1
      clear H1
      have H' := Aside0.mk H
      clear H
      have hnb25 := NB264_265.out
      have hnc25 := NB265_264.out
      have hnb26 := NB264_266.out
      have hnc26 := NB266_264.out
      have hcz27_0 : w11.cell? ⟨gb264, 0, none⟩ = some (.int .i64 a0_0) := (blk_cell BK264.out 0).trans rfl
      have hcz27_1 : w11.cell? ⟨gb264, 1, none⟩ = some (.int .i64 a0_1) := (blk_cell BK264.out 1).trans rfl
      have hcz27_2 : w11.cell? ⟨gb264, 2, none⟩ = some (.int .i64 a0_2) := (blk_cell BK264.out 2).trans rfl
      have hcz27_3 : w11.cell? ⟨gb264, 3, none⟩ = some (.int .i64 a0_3) := (blk_cell BK264.out 3).trans rfl
      have hcz27_4 : w11.cell? ⟨gb264, 4, none⟩ = some (.int .i64 a0_4) := (blk_cell BK264.out 4).trans rfl
      have hcz27_5 : w11.cell? ⟨gb264, 5, none⟩ = some (.int .i64 a0_5) := (blk_cell BK264.out 5).trans rfl
      have hcz27_6 : w11.cell? ⟨gb264, 6, none⟩ = some (.int .i64 a0_6) := (blk_cell BK264.out 6).trans rfl
      have hcz27_7 : w11.cell? ⟨gb264, 7, none⟩ = some (.int .i64 a0_7) := (blk_cell BK264.out 7).trans rfl
      have hcz27_8 : w11.cell? ⟨gb264, 8, none⟩ = some (.int .i64 a0_8) := (blk_cell BK264.out 8).trans rfl
      have hcz27_9 : w11.cell? ⟨gb264, 9, none⟩ = some (.int .i64 a0_9) := (blk_cell BK264.out 9).trans rfl
      have hcz27_10 : w11.cell? ⟨gb264, 10, none⟩ = some (.int .i64 a0_10) := (blk_cell BK264.out 10).trans rfl
      have hcz27_11 : w11.cell? ⟨gb264, 11, none⟩ = some (.int .i64 a0_11) := (blk_cell BK264.out 11).trans rfl
      have hcz27_12 : w11.cell? ⟨gb264, 12, none⟩ = some (.slice A0_12 l0_12.length c0_12) := (blk_cell BK264.out 12).trans rfl
      have hcz27_13 : w11.cell? ⟨gb264, 13, none⟩ = some (.int .i64 a0_13) := (blk_cell BK264.out 13).trans rfl
      have hfz27_0 := blk_frozen BK264.out 0
      have hfz27_1 := blk_frozen BK264.out 1
      have hfz27_2 := blk_frozen BK264.out 2
      have hfz27_3 := blk_frozen BK264.out 3
      have hfz27_4 := blk_frozen BK264.out 4
      have hfz27_5 := blk_frozen BK264.out 5
      have hfz27_6 := blk_frozen BK264.out 6
      have hfz27_7 := blk_frozen BK264.out 7
      have hfz27_8 := blk_frozen BK264.out 8
      have hfz27_9 := blk_frozen BK264.out 9
      have hfz27_10 := blk_frozen BK264.out 10
      have hfz27_11 := blk_frozen BK264.out 11
      have hfz27_12 := blk_frozen BK264.out 12
      have hfz27_13 := blk_frozen BK264.out 13
      go_wp2_with (first | ((with_reducible refine gate_callee (f := 29) rfl ?_); refine goesL_ (some 10) rfl rfl Try.func29 (by kernel_rfl) rfl #[.agg #[.int .i64 a0_0, .int .i64 a0_1, .int .i64 a0_2, .int .i64 a0_3, .int .i64 a0_4, .int .i64 a0_5, .int .i64 a0_6, .int .i64 a0_7, .int .i64 a0_8, .int .i64 a0_9, .int .i64 a0_10, .int .i64 a0_11, .slice A0_12 l0_12.length c0_12, .int .i64 a0_13]] rfl (by (try simp only [List.map_toArray, List.map_cons, List.map_nil]); first | done | rfl | (simp only [List.length_drop, List.length_take]; rfl)) ?_; (with_reducible refine (style_RightFill.calls k a0_0 a0_1 a0_2 a0_3 a0_4 a0_5 a0_6 a0_7 a0_8 a0_9 a0_10 a0_11 _ _ l0_12 a0_13 false _ ?side1 ?side2 A12.out).mono ?_); (case side1 => repeat (first | exact (Kd.C_below HR0_12.out HB.out) | (with_reducible refine Kd.C_alloc ?_ _) | (with_reducible refine Kd.C_drewN ?_ _) | (with_reducible refine Kd.C_drew ?_))); (case side2 => exact HC0_12.out); rintro e w28 ⟨rfl, hb⟩; refine ⟨_, rfl, ?_⟩; have n0_ := Aside0.mk (blk_below (g := gb264) (o := .cells #[.int .i64 a0_0, .int .i64 a0_1, .int .i64 a0_2, .int .i64 a0_3, .int .i64 a0_4, .int .i64 a0_5, .int .i64 a0_6, .int .i64 a0_7, .int .i64 a0_8, .int .i64 a0_9, .int .i64 a0_10, .int .i64 a0_11, .slice A0_12 l0_12.length c0_12, .int .i64 a0_13] 43 (0, 0)) (by (with_reducible repeat (first | refine blk_drewN ?_ _ | refine blk_drew ?_ | refine blk_alloc ?_ _)); exact BK264.out) hb); have n1_ := Aside0.mk (blk_below (g := gb265) (o := .cells #[.int .i64 a1_0, .int .i64 a1_1] 36 (0, 0)) (by (with_reducible repeat (first | refine blk_drewN ?_ _ | refine blk_drew ?_ | refine blk_alloc ?_ _)); exact BK265.out) hb); have n2_ := Aside0.mk (blk_below (g := gb266) (o := .cells #[.int .i64 0, .int .i64 0, .int .i64 0, .int .i64 0] 27 (0, 0)) (by (with_reducible repeat (first | refine blk_drewN ?_ _ | refine blk_drew ?_ | refine blk_alloc ?_ _)); exact BK266.out) hb); have n3_ := Aside0.mk (below_step (by repeat (first | (with_reducible first | exact HB.out | apply below_alloc | apply pw_below_drewN | apply below_drew1 | refine below_set ?_ GE264.out | refine below_set ?_ GE265.out | refine below_set ?_ GE266.out) | exact HB.out)) hb); clear BK264; clear BK265; clear BK266; clear HB; have BK264 := n0_; have BK265 := n1_; have BK266 := n2_; have HB := n3_; clear n0_ n1_ n2_ n3_; (try clear hb); (try clear hb2); (try clear hk); (try clear hi)))
      go_meet
      case rel => exact ⟨_, (true), (by first | rfl | (simp; done) | (simp [*]; done)), H', ⟨by first | omega | exact Nat.le_refl _⟩, ⟨by (with_reducible repeat (first | refine blk_drewN ?_ _ | refine blk_drew ?_ | refine blk_alloc ?_ _)); exact BK264.out⟩, ⟨by (with_reducible repeat (first | refine blk_drewN ?_ _ | refine blk_drew ?_ | refine blk_alloc ?_ _)); exact BK265.out⟩, ⟨by (with_reducible repeat (first | refine blk_drewN ?_ _ | refine blk_drew ?_ | refine blk_alloc ?_ _)); exact BK266.out⟩, ⟨by repeat (first | (with_reducible first | exact HB.out | apply below_alloc | apply pw_below_drewN | apply below_drew1 | refine below_set ?_ GE264.out | refine below_set ?_ GE265.out | refine below_set ?_ GE266.out) | exact HB.out)⟩⟩
  case rest =>
    clear HC4
    try clear c1
    try clear c2
    try clear p2
    try clear c8
    try clear c9
    try clear c13
    try clear c14
    try clear c14b0
    try clear c14b1
    try clear c15
    try clear c16
    try clear c19
    try clear c20
    try clear c21
    try clear c25
    try clear c26
    try clear hcz10_0
    try clear hcz10_1
    try clear hcz17_0
    try clear hcz17_1
    try clear hcz17_10
    try clear hcz17_11
    try clear hcz17_12
    try clear hcz17_13
    try clear hcz17_2
    try clear hcz17_3
    try clear hcz17_4
    try clear hcz17_5
    try clear hcz17_6
    try clear hcz17_7
    try clear hcz17_8
    try clear hcz17_9
    try clear hcz19_0
    try clear hcz19_1
    try clear hcz19_10
    try clear hcz19_11
    try clear hcz19_12
    try clear hcz19_13
    try clear hcz19_2
    try clear hcz19_3
    try clear hcz19_4
    try clear hcz19_5
    try clear hcz19_6
    try clear hcz19_7
    try clear hcz19_8
    try clear hcz19_9
    try clear hcz22_0
    try clear hcz22_1
    try clear hcz22_10
    try clear hcz22_11
    try clear hcz22_12
    try clear hcz22_13
    try clear hcz22_2
    try clear hcz22_3
    try clear hcz22_4
    try clear hcz22_5
    try clear hcz22_6
    try clear hcz22_7
    try clear hcz22_8
    try clear hcz22_9
    try clear hcz24_0
    try clear hcz24_1
    try clear hcz24_10
    try clear hcz24_11
    try clear hcz24_12
    try clear hcz24_13
    try clear hcz24_2
    try clear hcz24_3
    try clear hcz24_4
    try clear hcz24_5
    try clear hcz24_6
    try clear hcz24_7
    try clear hcz24_8
    try clear hcz24_9
    try clear hcz27_0
    try clear hcz27_1
    try clear hcz27_10
    try clear hcz27_11
    try clear hcz27_12
    try clear hcz27_13
    try clear hcz27_2
    try clear hcz27_3
    try clear hcz27_4
    try clear hcz27_5
    try clear hcz27_6
    try clear hcz27_7
    try clear hcz27_8
    try clear hcz27_9
    try clear hfz10_0
    try clear hfz10_1
    try clear hfz17_0
    try clear hfz17_1
    try clear hfz17_10
    try clear hfz17_11
    try clear hfz17_12
    try clear hfz17_13
    try clear hfz17_2
    try clear hfz17_3
    try clear hfz17_4
    try clear hfz17_5
    try clear hfz17_6
    try clear hfz17_7
    try clear hfz17_8
    try clear hfz17_9
    try clear hfz19_0
    try clear hfz19_1
    try clear hfz19_10
    try clear hfz19_11
    try clear hfz19_12
    try clear hfz19_13
    try clear hfz19_2
    try clear hfz19_3
    try clear hfz19_4
    try clear hfz19_5
    try clear hfz19_6
    try clear hfz19_7
    try clear hfz19_8
    try clear hfz19_9
    try clear hfz22_0
    try clear hfz22_1
    try clear hfz22_10
    try clear hfz22_11
    try clear hfz22_12
    try clear hfz22_13
    try clear hfz22_2
    try clear hfz22_3
    try clear hfz22_4
    try clear hfz22_5
    try clear hfz22_6
    try clear hfz22_7
    try clear hfz22_8
    try clear hfz22_9
    try clear hfz24_0
    try clear hfz24_1
    try clear hfz24_10
    try clear hfz24_11
    try clear hfz24_12
    try clear hfz24_13
    try clear hfz24_2
    try clear hfz24_3
    try clear hfz24_4
    try clear hfz24_5
    try clear hfz24_6
    try clear hfz24_7
    try clear hfz24_8
    try clear hfz24_9
    try clear hfz27_0
    try clear hfz27_1
    try clear hfz27_10
    try clear hfz27_11
    try clear hfz27_12
    try clear hfz27_13
    try clear hfz27_2
    try clear hfz27_3
    try clear hfz27_4
    try clear hfz27_5
    try clear hfz27_6
    try clear hfz27_7
    try clear hfz27_8
    try clear hfz27_9
    obtain ⟨kq, x8_3, rfl, HA, HJ3, BK264, BK265, BK266, HB⟩ := hcut
    cases kq with
    | zero => exact absurd HA.out (by simp [ramp_At.j0])
    | succ kj3 =>
      have H := HA.out
      clear HA
      simp only [ramp_At.j0] at H
      by_cases c29 : x8_3 = true
      · subst c29
        have H1 : (some (0, 0, 0, 0)) = some (r1, r2, r3, r4) := by rw [if_pos rfl] at H; exact H
        clear H
        have H := H1
        clear H1
        simp only [Option.some.injEq, Prod.mk.injEq] at H
        obtain ⟨rfl, rfl, rfl, rfl⟩ := H
        have hnb30 := NB266_264.out
        have hnc30 := NB264_266.out
        have hnb31 := NB266_265.out
        have hnc31 := NB265_266.out
        have hcz32_0 : wc.cell? ⟨gb266, 0, none⟩ = some (.int .i64 0) := (blk_cell BK266.out 0).trans rfl
        have hcz32_1 : wc.cell? ⟨gb266, 1, none⟩ = some (.int .i64 0) := (blk_cell BK266.out 1).trans rfl
        have hcz32_2 : wc.cell? ⟨gb266, 2, none⟩ = some (.int .i64 0) := (blk_cell BK266.out 2).trans rfl
        have hcz32_3 : wc.cell? ⟨gb266, 3, none⟩ = some (.int .i64 0) := (blk_cell BK266.out 3).trans rfl
        have hfz32_0 := blk_frozen BK266.out 0
        have hfz32_1 := blk_frozen BK266.out 1
        have hfz32_2 := blk_frozen BK266.out 2
        have hfz32_3 := blk_frozen BK266.out 3
        go_wp2
        refine bodyPost_ret (results_cell_row rfl _ _ gb266 27 #[.int .i64 0, .int .i64 0, .int .i64 0, .int .i64 0] (0, 0) _ rfl (by (with_reducible repeat (first | refine blk_drewN ?_ _ | refine blk_drew ?_ | refine blk_alloc ?_ _)); refine blk_put (cs := #[.int .i64 0, .int .i64 0, .int .i64 0, .int .i64 0]) ?_ 3 _ rfl; (with_reducible repeat (first | refine blk_drewN ?_ _ | refine blk_drew ?_ | refine blk_alloc ?_ _)); refine blk_put (cs := #[.int .i64 0, .int .i64 0, .int .i64 0, .int .i64 0]) ?_ 2 _ rfl; (with_reducible repeat (first | refine blk_drewN ?_ _ | refine blk_drew ?_ | refine blk_alloc ?_ _)); refine blk_put (cs := #[.int .i64 0, .int .i64 0, .int .i64 0, .int .i64 0]) ?_ 1 _ rfl; (with_reducible repeat (first | refine blk_drewN ?_ _ | refine blk_drew ?_ | refine blk_alloc ?_ _)); refine blk_put (cs := #[.int .i64 0, .int .i64 0, .int .i64 0, .int .i64 0]) ?_ 0 _ rfl; (with_reducible repeat (first | refine blk_drewN ?_ _ | refine blk_drew ?_ | refine blk_alloc ?_ _)); exact BK266.out) Try.underlying27 rfl (by kernel_rfl)) rfl ?_
        exact ⟨by first | rfl | (simp [errW_none, errW_some] <;> rfl) | (simp [*, errW_none, errW_some] <;> rfl), by repeat (first | (with_reducible first | exact HB.out | apply below_alloc | apply pw_below_drewN | apply below_drew1 | refine below_set ?_ GE264.out | refine below_set ?_ GE265.out | refine below_set ?_ GE266.out) | exact HB.out)⟩
      · replace c29 := Bool.eq_false_iff.mpr c29
        subst c29
        have H1 : (if a0_0 = 18 then ((ramp_Circle.f kj3 a1_0 a1_1).bind fun t269 => ((ramp_Fold.f t269 a0_11).bind fun t270 => ((ramp_Color.f kj3 l0_12 t270).bind fun bt271 => (some (bt271.1, bt271.2.1, bt271.2.2.1, bt271.2.2.2))))) else ((ramp_Fold.f t267 a0_11).bind fun t275 => ((ramp_Color.f kj3 l0_12 t275).bind fun bt276 => (some (bt276.1, bt276.2.1, bt276.2.2.1, bt276.2.2.2))))) = some (r1, r2, r3, r4) := by rw [if_neg (show ¬ (false = true) by decide)] at H; exact H
        clear H
        have H := H1
        clear H1
        by_cases c33 : a0_0 = 18
        · rw [if_pos c33] at H
          have c33b0 : (a0_0 == 18) = true := beq_iff_eq.mpr c33
          have c33b1 : (a0_0 != 18) = false := bne_eq_false_iff_eq.mpr c33
          clear c33
          replace H := Option.bind_eq_some_iff.mp H
          obtain ⟨t269, A340, H⟩ := H
          replace H : ((ramp_Fold.f t269 a0_11).bind fun t270 => ((ramp_Color.f kj3 l0_12 t270).bind fun bt271 => (some (bt271.1, bt271.2.1, bt271.2.2.1, bt271.2.2.2)))) = some (r1, r2, r3, r4) := H
          have A34 := Aside0.mk A340
          clear A340
          replace H := Option.bind_eq_some_iff.mp H
          obtain ⟨t270, A350, H⟩ := H
          replace H : ((ramp_Color.f kj3 l0_12 t270).bind fun bt271 => (some (bt271.1, bt271.2.1, bt271.2.2.1, bt271.2.2.2))) = some (r1, r2, r3, r4) := H
          have A35 := Aside0.mk A350
          clear A350
          replace H := Option.bind_eq_some_iff.mp H
          obtain ⟨⟨t271, t272, t273, t274⟩, A360, H⟩ := H
          replace H : (some (t271, t272, t273, t274)) = some (r1, r2, r3, r4) := H
          have A36 := Aside0.mk A360
          clear A360
          simp only [Option.some.injEq, Prod.mk.injEq] at H
          obtain ⟨rfl, rfl, rfl, rfl⟩ := H
          have hnb37 := NB264_265.out
          have hnc37 := NB265_264.out
          have hnb38 := NB264_266.out
          have hnc38 := NB266_264.out
          have hcz39_0 : wc.cell? ⟨gb264, 0, none⟩ = some (.int .i64 a0_0) := (blk_cell BK264.out 0).trans rfl
          have hcz39_1 : wc.cell? ⟨gb264, 1, none⟩ = some (.int .i64 a0_1) := (blk_cell BK264.out 1).trans rfl
          have hcz39_2 : wc.cell? ⟨gb264, 2, none⟩ = some (.int .i64 a0_2) := (blk_cell BK264.out 2).trans rfl
          have hcz39_3 : wc.cell? ⟨gb264, 3, none⟩ = some (.int .i64 a0_3) := (blk_cell BK264.out 3).trans rfl
          have hcz39_4 : wc.cell? ⟨gb264, 4, none⟩ = some (.int .i64 a0_4) := (blk_cell BK264.out 4).trans rfl
          have hcz39_5 : wc.cell? ⟨gb264, 5, none⟩ = some (.int .i64 a0_5) := (blk_cell BK264.out 5).trans rfl
          have hcz39_6 : wc.cell? ⟨gb264, 6, none⟩ = some (.int .i64 a0_6) := (blk_cell BK264.out 6).trans rfl
          have hcz39_7 : wc.cell? ⟨gb264, 7, none⟩ = some (.int .i64 a0_7) := (blk_cell BK264.out 7).trans rfl
          have hcz39_8 : wc.cell? ⟨gb264, 8, none⟩ = some (.int .i64 a0_8) := (blk_cell BK264.out 8).trans rfl
          have hcz39_9 : wc.cell? ⟨gb264, 9, none⟩ = some (.int .i64 a0_9) := (blk_cell BK264.out 9).trans rfl
          have hcz39_10 : wc.cell? ⟨gb264, 10, none⟩ = some (.int .i64 a0_10) := (blk_cell BK264.out 10).trans rfl
          have hcz39_11 : wc.cell? ⟨gb264, 11, none⟩ = some (.int .i64 a0_11) := (blk_cell BK264.out 11).trans rfl
          have hcz39_12 : wc.cell? ⟨gb264, 12, none⟩ = some (.slice A0_12 l0_12.length c0_12) := (blk_cell BK264.out 12).trans rfl
          have hcz39_13 : wc.cell? ⟨gb264, 13, none⟩ = some (.int .i64 a0_13) := (blk_cell BK264.out 13).trans rfl
          have hfz39_0 := blk_frozen BK264.out 0
          have hfz39_1 := blk_frozen BK264.out 1
          have hfz39_2 := blk_frozen BK264.out 2
          have hfz39_3 := blk_frozen BK264.out 3
          have hfz39_4 := blk_frozen BK264.out 4
          have hfz39_5 := blk_frozen BK264.out 5
          have hfz39_6 := blk_frozen BK264.out 6
          have hfz39_7 := blk_frozen BK264.out 7
          have hfz39_8 := blk_frozen BK264.out 8
          have hfz39_9 := blk_frozen BK264.out 9
          have hfz39_10 := blk_frozen BK264.out 10
          have hfz39_11 := blk_frozen BK264.out 11
          have hfz39_12 := blk_frozen BK264.out 12
          have hfz39_13 := blk_frozen BK264.out 13
          have hnb40 := NB265_266.out
          have hnc40 := NB266_265.out
          have hcz41_0 : wc.cell? ⟨gb265, 0, none⟩ = some (.int .i64 a1_0) := (blk_cell BK265.out 0).trans rfl
          have hcz41_1 : wc.cell? ⟨gb265, 1, none⟩ = some (.int .i64 a1_1) := (blk_cell BK265.out 1).trans rfl
          have hfz41_0 := blk_frozen BK265.out 0
          have hfz41_1 := blk_frozen BK265.out 1
          try go_wp2_with (first | ((with_reducible refine gate_callee (f := 17) rfl ?_); refine goesL_ (some 28) rfl rfl Try.func17 (by kernel_rfl) rfl #[.agg #[.int .i64 a1_0, .int .i64 a1_1]] rfl (by (try simp only [List.map_toArray, List.map_cons, List.map_nil]); first | done | rfl | (simp only [List.length_drop, List.length_take]; rfl)) ?_; (with_reducible refine (ramp_Circle.calls kj3 a1_0 a1_1 t269 _ A34.out).mono ?_); rintro e w42 ⟨rfl, hb⟩; refine ⟨_, rfl, ?_⟩; have n0_ := Aside0.mk (blk_below (g := gb264) (o := .cells #[.int .i64 a0_0, .int .i64 a0_1, .int .i64 a0_2, .int .i64 a0_3, .int .i64 a0_4, .int .i64 a0_5, .int .i64 a0_6, .int .i64 a0_7, .int .i64 a0_8, .int .i64 a0_9, .int .i64 a0_10, .int .i64 a0_11, .slice A0_12 l0_12.length c0_12, .int .i64 a0_13] 43 (0, 0)) (by (with_reducible repeat (first | refine blk_drewN ?_ _ | refine blk_drew ?_ | refine blk_alloc ?_ _)); exact BK264.out) hb); have n1_ := Aside0.mk (blk_below (g := gb265) (o := .cells #[.int .i64 a1_0, .int .i64 a1_1] 36 (0, 0)) (by (with_reducible repeat (first | refine blk_drewN ?_ _ | refine blk_drew ?_ | refine blk_alloc ?_ _)); exact BK265.out) hb); have n2_ := Aside0.mk (blk_below (g := gb266) (o := .cells #[.int .i64 0, .int .i64 0, .int .i64 0, .int .i64 0] 27 (0, 0)) (by (with_reducible repeat (first | refine blk_drewN ?_ _ | refine blk_drew ?_ | refine blk_alloc ?_ _)); exact BK266.out) hb); have n3_ := Aside0.mk (below_step (by repeat (first | (with_reducible first | exact HB.out | apply below_alloc | apply pw_below_drewN | apply below_drew1 | refine below_set ?_ GE264.out | refine below_set ?_ GE265.out | refine below_set ?_ GE266.out) | exact HB.out)) hb); clear BK264; clear BK265; clear BK266; clear HB; have BK264 := n0_; have BK265 := n1_; have BK266 := n2_; have HB := n3_; clear n0_ n1_ n2_ n3_; (try clear hb); (try clear hb2); (try clear hk); (try clear hi)))
          have n0_ := Aside0.mk (blk_drew BK264.out)
          have n1_ := Aside0.mk (blk_drew BK265.out)
          have n2_ := Aside0.mk (blk_drew BK266.out)
          have n3_ := Aside0.mk (below_drew1 HB.out)
          clear BK264
          clear BK265
          clear BK266
          clear HB
          have BK264 := n0_
          have BK265 := n1_
          have BK266 := n2_
          have HB := n3_
          clear n0_ n1_ n2_ n3_
          refine start_ (n := 8) (S := fun w' => w'.cell? ⟨gb264, 0, none⟩ = some (.int .i64 a0_0) ∧ w'.cell? ⟨gb264, 1, none⟩ = some (.int .i64 a0_1) ∧ w'.cell? ⟨gb264, 2, none⟩ = some (.int .i64 a0_2) ∧ w'.cell? ⟨gb264, 3, none⟩ = some (.int .i64 a0_3) ∧ w'.cell? ⟨gb264, 4, none⟩ = some (.int .i64 a0_4) ∧ w'.cell? ⟨gb264, 5, none⟩ = some (.int .i64 a0_5) ∧ w'.cell? ⟨gb264, 6, none⟩ = some (.int .i64 a0_6) ∧ w'.cell? ⟨gb264, 7, none⟩ = some (.int .i64 a0_7) ∧ w'.cell? ⟨gb264, 8, none⟩ = some (.int .i64 a0_8) ∧ w'.cell? ⟨gb264, 9, none⟩ = some (.int .i64 a0_9) ∧ w'.cell? ⟨gb264, 10, none⟩ = some (.int .i64 a0_10) ∧ w'.cell? ⟨gb264, 11, none⟩ = some (.int .i64 a0_11) ∧ w'.cell? ⟨gb264, 12, none⟩ = some (.slice A0_12 l0_12.length c0_12) ∧ w'.cell? ⟨gb264, 13, none⟩ = some (.int .i64 a0_13)) (ds := []) #[false, false, false, false, false, false, false, false] (by kernel_rfl) rfl rfl ⟨(blk_cell BK264.out 0).trans rfl, (blk_cell BK264.out 1).trans rfl, (blk_cell BK264.out 2).trans rfl, (blk_cell BK264.out 3).trans rfl, (blk_cell BK264.out 4).trans rfl, (blk_cell BK264.out 5).trans rfl, (blk_cell BK264.out 6).trans rfl, (blk_cell BK264.out 7).trans rfl, (blk_cell BK264.out 8).trans rfl, (blk_cell BK264.out 9).trans rfl, (blk_cell BK264.out 10).trans rfl, (blk_cell BK264.out 11).trans rfl, (blk_cell BK264.out 12).trans rfl, (blk_cell BK264.out 13).trans rfl⟩ (fun hHeld => ?_); refine with_tabW ramp_At.tab6 ramp_At.bits6 (fun HT_ HW_ => ?_)
          generalize w42.drew = w43 at BK264 BK265 BK266 HB hHeld ⊢
          refine pure_ (i := 0) (N := some 29) (v := ?_) (a' := ?_) #[true, false, false, false, false, false, false, false] rfl rfl (any_of HT_.out (by kernel_rfl)) (fun _ _ _ h => h) (Or.inl ⟨by rfl, ?_⟩) ?_ ?_
          rotate_left
          · intro w'
            go_simp
            with_reducible rfl
          rotate_left
          · simp only [Act.put, List.setIfInBounds_toArray, List.set_cons_zero, List.set_cons_succ, i64_w, i32_w]
            rfl
          refine pure_ (i := 2) (N := some 31) (v := ?_) (a' := ?_) #[true, false, true, false, false, false, false, false] rfl rfl (any_of HT_.out (by kernel_rfl)) (fun _ _ _ h => h) (Or.inl ⟨by rfl, ?_⟩) ?_ ?_
          rotate_left
          · intro w'
            go_simp
            with_reducible rfl
          rotate_left
          · simp only [Act.put, List.setIfInBounds_toArray, List.set_cons_zero, List.set_cons_succ, i64_w, i32_w]
            rfl
          refine pure_ (i := 3) (N := some 32) (v := ?_) (a' := ?_) #[true, false, true, true, false, false, false, false] rfl rfl (any_of HT_.out (by kernel_rfl)) (fun _ _ _ h => h) (Or.inl ⟨by rfl, ?_⟩) ?_ ?_
          rotate_left
          · intro w'
            go_simp
            with_reducible rfl
          rotate_left
          · simp only [Act.put, List.setIfInBounds_toArray, List.set_cons_zero, List.set_cons_succ, i64_w, i32_w]
            rfl
          refine take_ (i := 1) (N := some 30) (v := ?_) (a' := ?_) #[true, true, true, true, false, false, false, false] rfl rfl (take_ofW HT_.out HW_.out (by kernel_rfl)) (fun _ _ _ h => h) (Or.inl ⟨by rfl, ?_⟩) hHeld ?_ ?_
          rotate_left
          · rintro w' ⟨s0, s1, s2, s3, s4, s5, s6, s7, s8, s9, s10, s11, s12, s13⟩
            go_simp
            with_reducible rfl
          rotate_left
          · simp only [Act.put, List.setIfInBounds_toArray, List.set_cons_zero, List.set_cons_succ, i64_w, i32_w]
            rfl
          refine take_ (i := 4) (N := some 33) (v := ?_) (a' := ?_) #[true, true, true, true, true, false, false, false] rfl rfl (take_ofW HT_.out HW_.out (by kernel_rfl)) (fun _ _ _ h => h) (Or.inl ⟨by rfl, ?_⟩) hHeld ?_ ?_
          rotate_left
          · rintro w' ⟨s0, s1, s2, s3, s4, s5, s6, s7, s8, s9, s10, s11, s12, s13⟩
            go_simp
            with_reducible rfl
          rotate_left
          · simp only [Act.put, List.setIfInBounds_toArray, List.set_cons_zero, List.set_cons_succ, i64_w, i32_w]
            rfl
          refine one_ (i := 5) (N := some 34) #[true, true, true, true, true, true, false, false] rfl rfl (one_of HT_.out (by kernel_rfl)) (by decide) (fun K hK => ?_)
          refine goes_ Try.func10 (by kernel_rfl) rfl #[.int .i64 t269, .int .i64 a0_11] (by rfl) rfl rfl (by (try simp only [List.map_toArray, List.map_cons, List.map_nil]); first | done | rfl | (simp only [List.length_drop, List.length_take]; rfl)) ?_
          with_reducible refine (ramp_Fold.calls t269 a0_11 t270 _ A35.out).mono ?_
          rintro e w44 ⟨rfl, hb⟩
          refine ⟨_, rfl, ?_⟩
          have n0_ := Aside0.mk (blk_below (g := gb264) (o := .cells #[.int .i64 a0_0, .int .i64 a0_1, .int .i64 a0_2, .int .i64 a0_3, .int .i64 a0_4, .int .i64 a0_5, .int .i64 a0_6, .int .i64 a0_7, .int .i64 a0_8, .int .i64 a0_9, .int .i64 a0_10, .int .i64 a0_11, .slice A0_12 l0_12.length c0_12, .int .i64 a0_13] 43 (0, 0)) (by (with_reducible repeat (first | refine blk_drewN ?_ _ | refine blk_drew ?_ | refine blk_alloc ?_ _)); exact BK264.out) hb)
          have n1_ := Aside0.mk (blk_below (g := gb265) (o := .cells #[.int .i64 a1_0, .int .i64 a1_1] 36 (0, 0)) (by (with_reducible repeat (first | refine blk_drewN ?_ _ | refine blk_drew ?_ | refine blk_alloc ?_ _)); exact BK265.out) hb)
          have n2_ := Aside0.mk (blk_below (g := gb266) (o := .cells #[.int .i64 0, .int .i64 0, .int .i64 0, .int .i64 0] 27 (0, 0)) (by (with_reducible repeat (first | refine blk_drewN ?_ _ | refine blk_drew ?_ | refine blk_alloc ?_ _)); exact BK266.out) hb)
          have n3_ := Aside0.mk (below_step (by repeat (first | (with_reducible first | exact HB.out | apply below_alloc | apply pw_below_drewN | apply below_drew1 | refine below_set ?_ GE264.out | refine below_set ?_ GE265.out | refine below_set ?_ GE266.out) | exact HB.out)) hb)
          clear BK264
          clear BK265
          clear BK266
          clear HB
          have BK264 := n0_
          have BK265 := n1_
          have BK266 := n2_
          have HB := n3_
          clear n0_ n1_ n2_ n3_
          (try clear hb)
          (try clear hb2)
          (try clear hk)
          (try clear hi)
          refine hK.out _ _ ⟨(blk_cell BK264.out 0).trans rfl, (blk_cell BK264.out 1).trans rfl, (blk_cell BK264.out 2).trans rfl, (blk_cell BK264.out 3).trans rfl, (blk_cell BK264.out 4).trans rfl, (blk_cell BK264.out 5).trans rfl, (blk_cell BK264.out 6).trans rfl, (blk_cell BK264.out 7).trans rfl, (blk_cell BK264.out 8).trans rfl, (blk_cell BK264.out 9).trans rfl, (blk_cell BK264.out 10).trans rfl, (blk_cell BK264.out 11).trans rfl, (blk_cell BK264.out 12).trans rfl, (blk_cell BK264.out 13).trans rfl⟩ (fun hHeld => ?_)
          clear hK K
          refine norm_ (a' := ?_) ?_ ?_
          rotate_left
          · show Act.put _ (some 34) _ = _
            simp only [Act.put, List.setIfInBounds_toArray, List.set_cons_zero, List.set_cons_succ, i64_w, i32_w]
            rfl
          refine one_ (i := 6) (N := some 35) #[true, true, true, true, true, true, true, false] rfl rfl (one_of HT_.out (by kernel_rfl)) (by decide) (fun K hK => ?_)
          refine goes_ Try.func13 (by kernel_rfl) rfl #[.slice A0_12 l0_12.length c0_12, .int .i64 t270] (by rfl) rfl rfl (by (try simp only [List.map_toArray, List.map_cons, List.map_nil]); first | done | rfl | (simp only [List.length_drop, List.length_take]; rfl)) ?_
          with_reducible refine (ramp_Color.calls kj3 _ _ l0_12 t270 t271 t272 t273 t274 _ ?side1 ?side2 A36.out).mono ?_
          (case side1 => repeat (first | exact (Kd.C_below HR0_12.out HB.out) | (with_reducible refine Kd.C_alloc ?_ _) | (with_reducible refine Kd.C_drewN ?_ _) | (with_reducible refine Kd.C_drew ?_)))
          (case side2 => exact HC0_12.out)
          rintro e w45 ⟨rfl, hb⟩
          refine ⟨_, rfl, ?_⟩
          have n0_ := Aside0.mk (blk_below (g := gb264) (o := .cells #[.int .i64 a0_0, .int .i64 a0_1, .int .i64 a0_2, .int .i64 a0_3, .int .i64 a0_4, .int .i64 a0_5, .int .i64 a0_6, .int .i64 a0_7, .int .i64 a0_8, .int .i64 a0_9, .int .i64 a0_10, .int .i64 a0_11, .slice A0_12 l0_12.length c0_12, .int .i64 a0_13] 43 (0, 0)) (by (with_reducible repeat (first | refine blk_drewN ?_ _ | refine blk_drew ?_ | refine blk_alloc ?_ _)); exact BK264.out) hb)
          have n1_ := Aside0.mk (blk_below (g := gb265) (o := .cells #[.int .i64 a1_0, .int .i64 a1_1] 36 (0, 0)) (by (with_reducible repeat (first | refine blk_drewN ?_ _ | refine blk_drew ?_ | refine blk_alloc ?_ _)); exact BK265.out) hb)
          have n2_ := Aside0.mk (blk_below (g := gb266) (o := .cells #[.int .i64 0, .int .i64 0, .int .i64 0, .int .i64 0] 27 (0, 0)) (by (with_reducible repeat (first | refine blk_drewN ?_ _ | refine blk_drew ?_ | refine blk_alloc ?_ _)); exact BK266.out) hb)
          have n3_ := Aside0.mk (below_step (by repeat (first | (with_reducible first | exact HB.out | apply below_alloc | apply pw_below_drewN | apply below_drew1 | refine below_set ?_ GE264.out | refine below_set ?_ GE265.out | refine below_set ?_ GE266.out) | exact HB.out)) hb)
          clear BK264
          clear BK265
          clear BK266
          clear HB
          have BK264 := n0_
          have BK265 := n1_
          have BK266 := n2_
          have HB := n3_
          clear n0_ n1_ n2_ n3_
          (try clear hb)
          (try clear hb2)
          (try clear hk)
          (try clear hi)
          refine hK.out _ _ ⟨(blk_cell BK264.out 0).trans rfl, (blk_cell BK264.out 1).trans rfl, (blk_cell BK264.out 2).trans rfl, (blk_cell BK264.out 3).trans rfl, (blk_cell BK264.out 4).trans rfl, (blk_cell BK264.out 5).trans rfl, (blk_cell BK264.out 6).trans rfl, (blk_cell BK264.out 7).trans rfl, (blk_cell BK264.out 8).trans rfl, (blk_cell BK264.out 9).trans rfl, (blk_cell BK264.out 10).trans rfl, (blk_cell BK264.out 11).trans rfl, (blk_cell BK264.out 12).trans rfl, (blk_cell BK264.out 13).trans rfl⟩ (fun hHeld => ?_)
          clear hK K
          refine norm_ (a' := ?_) ?_ ?_
          rotate_left
          · show Act.put _ (some 35) _ = _
            simp only [Act.put, List.setIfInBounds_toArray, List.set_cons_zero, List.set_cons_succ, i64_w, i32_w]
            rfl
          refine one_ (i := 7) (N := none) #[true, true, true, true, true, true, true, true] rfl rfl (one_of HT_.out (by kernel_rfl)) (by decide) (fun K hK => ?_)
          have hs46 : w45.cell? ⟨gb266, 0, none⟩ = some (.int .i64 0) := (blk_cell BK266.out 0).trans rfl
          have hfs46 := blk_frozen BK266.out 0
          have hns46_0 := NB264_266.out
          have hns46_1 := NB265_266.out
          have hms46_0 := NB266_264.out
          have hms46_1 := NB266_265.out
          have hs47 : w45.cell? ⟨gb266, 1, none⟩ = some (.int .i64 0) := (blk_cell BK266.out 1).trans rfl
          have hfs47 := blk_frozen BK266.out 1
          have hns47_0 := NB264_266.out
          have hns47_1 := NB265_266.out
          have hms47_0 := NB266_264.out
          have hms47_1 := NB266_265.out
          have hs48 : w45.cell? ⟨gb266, 2, none⟩ = some (.int .i64 0) := (blk_cell BK266.out 2).trans rfl
          have hfs48 := blk_frozen BK266.out 2
          have hns48_0 := NB264_266.out
          have hns48_1 := NB265_266.out
          have hms48_0 := NB266_264.out
          have hms48_1 := NB266_265.out
          have hs49 : w45.cell? ⟨gb266, 3, none⟩ = some (.int .i64 0) := (blk_cell BK266.out 3).trans rfl
          have hfs49 := blk_frozen BK266.out 3
          have hns49_0 := NB264_266.out
          have hns49_1 := NB265_266.out
          have hms49_0 := NB266_264.out
          have hms49_1 := NB266_265.out
          refine skip_ (w1 := ?_) (by rfl) rfl ?_ ?_
          rotate_left
          · go_simp
            rfl
          refine hK.out _ _ ⟨((cell_far (p := ⟨gb266, _, none⟩) NB264_266.out _).trans (((cell_far (p := ⟨gb266, _, none⟩) NB264_266.out _).trans (((cell_far (p := ⟨gb266, _, none⟩) NB264_266.out _).trans (((cell_far (p := ⟨gb266, _, none⟩) NB264_266.out _).trans (hHeld.1)))))))), ((cell_far (p := ⟨gb266, _, none⟩) NB264_266.out _).trans (((cell_far (p := ⟨gb266, _, none⟩) NB264_266.out _).trans (((cell_far (p := ⟨gb266, _, none⟩) NB264_266.out _).trans (((cell_far (p := ⟨gb266, _, none⟩) NB264_266.out _).trans (hHeld.2.1)))))))), ((cell_far (p := ⟨gb266, _, none⟩) NB264_266.out _).trans (((cell_far (p := ⟨gb266, _, none⟩) NB264_266.out _).trans (((cell_far (p := ⟨gb266, _, none⟩) NB264_266.out _).trans (((cell_far (p := ⟨gb266, _, none⟩) NB264_266.out _).trans (hHeld.2.2.1)))))))), ((cell_far (p := ⟨gb266, _, none⟩) NB264_266.out _).trans (((cell_far (p := ⟨gb266, _, none⟩) NB264_266.out _).trans (((cell_far (p := ⟨gb266, _, none⟩) NB264_266.out _).trans (((cell_far (p := ⟨gb266, _, none⟩) NB264_266.out _).trans (hHeld.2.2.2.1)))))))), ((cell_far (p := ⟨gb266, _, none⟩) NB264_266.out _).trans (((cell_far (p := ⟨gb266, _, none⟩) NB264_266.out _).trans (((cell_far (p := ⟨gb266, _, none⟩) NB264_266.out _).trans (((cell_far (p := ⟨gb266, _, none⟩) NB264_266.out _).trans (hHeld.2.2.2.2.1)))))))), ((cell_far (p := ⟨gb266, _, none⟩) NB264_266.out _).trans (((cell_far (p := ⟨gb266, _, none⟩) NB264_266.out _).trans (((cell_far (p := ⟨gb266, _, none⟩) NB264_266.out _).trans (((cell_far (p := ⟨gb266, _, none⟩) NB264_266.out _).trans (hHeld.2.2.2.2.2.1)))))))), ((cell_far (p := ⟨gb266, _, none⟩) NB264_266.out _).trans (((cell_far (p := ⟨gb266, _, none⟩) NB264_266.out _).trans (((cell_far (p := ⟨gb266, _, none⟩) NB264_266.out _).trans (((cell_far (p := ⟨gb266, _, none⟩) NB264_266.out _).trans (hHeld.2.2.2.2.2.2.1)))))))), ((cell_far (p := ⟨gb266, _, none⟩) NB264_266.out _).trans (((cell_far (p := ⟨gb266, _, none⟩) NB264_266.out _).trans (((cell_far (p := ⟨gb266, _, none⟩) NB264_266.out _).trans (((cell_far (p := ⟨gb266, _, none⟩) NB264_266.out _).trans (hHeld.2.2.2.2.2.2.2.1)))))))), ((cell_far (p := ⟨gb266, _, none⟩) NB264_266.out _).trans (((cell_far (p := ⟨gb266, _, none⟩) NB264_266.out _).trans (((cell_far (p := ⟨gb266, _, none⟩) NB264_266.out _).trans (((cell_far (p := ⟨gb266, _, none⟩) NB264_266.out _).trans (hHeld.2.2.2.2.2.2.2.2.1)))))))), ((cell_far (p := ⟨gb266, _, none⟩) NB264_266.out _).trans (((cell_far (p := ⟨gb266, _, none⟩) NB264_266.out _).trans (((cell_far (p := ⟨gb266, _, none⟩) NB264_266.out _).trans (((cell_far (p := ⟨gb266, _, none⟩) NB264_266.out _).trans (hHeld.2.2.2.2.2.2.2.2.2.1)))))))), ((cell_far (p := ⟨gb266, _, none⟩) NB264_266.out _).trans (((cell_far (p := ⟨gb266, _, none⟩) NB264_266.out _).trans (((cell_far (p := ⟨gb266, _, none⟩) NB264_266.out _).trans (((cell_far (p := ⟨gb266, _, none⟩) NB264_266.out _).trans (hHeld.2.2.2.2.2.2.2.2.2.2.1)))))))), ((cell_far (p := ⟨gb266, _, none⟩) NB264_266.out _).trans (((cell_far (p := ⟨gb266, _, none⟩) NB264_266.out _).trans (((cell_far (p := ⟨gb266, _, none⟩) NB264_266.out _).trans (((cell_far (p := ⟨gb266, _, none⟩) NB264_266.out _).trans (hHeld.2.2.2.2.2.2.2.2.2.2.2.1)))))))), ((cell_far (p := ⟨gb266, _, none⟩) NB264_266.out _).trans (((cell_far (p := ⟨gb266, _, none⟩) NB264_266.out _).trans (((cell_far (p := ⟨gb266, _, none⟩) NB264_266.out _).trans (((cell_far (p := ⟨gb266, _, none⟩) NB264_266.out _).trans (hHeld.2.2.2.2.2.2.2.2.2.2.2.2.1)))))))), ((cell_far (p := ⟨gb266, _, none⟩) NB264_266.out _).trans (((cell_far (p := ⟨gb266, _, none⟩) NB264_266.out _).trans (((cell_far (p := ⟨gb266, _, none⟩) NB264_266.out _).trans (((cell_far (p := ⟨gb266, _, none⟩) NB264_266.out _).trans (hHeld.2.2.2.2.2.2.2.2.2.2.2.2.2))))))))⟩ (fun hHeld => ?_)
          clear hK K
          refine done_ (done_of HT_.out (by kernel_rfl)) ?_
          try go_wp2
          refine bodyPost_ret (results_cell_row rfl _ _ gb266 27 #[.int .i64 t271, .int .i64 t272, .int .i64 t273, .int .i64 t274] (0, 0) _ rfl (by (with_reducible repeat (first | refine blk_drewN ?_ _ | refine blk_drew ?_ | refine blk_alloc ?_ _)); refine blk_put (cs := #[.int .i64 t271, .int .i64 t272, .int .i64 t273, .int .i64 0]) ?_ 3 _ rfl; (with_reducible repeat (first | refine blk_drewN ?_ _ | refine blk_drew ?_ | refine blk_alloc ?_ _)); refine blk_put (cs := #[.int .i64 t271, .int .i64 t272, .int .i64 0, .int .i64 0]) ?_ 2 _ rfl; (with_reducible repeat (first | refine blk_drewN ?_ _ | refine blk_drew ?_ | refine blk_alloc ?_ _)); refine blk_put (cs := #[.int .i64 t271, .int .i64 0, .int .i64 0, .int .i64 0]) ?_ 1 _ rfl; (with_reducible repeat (first | refine blk_drewN ?_ _ | refine blk_drew ?_ | refine blk_alloc ?_ _)); refine blk_put (cs := #[.int .i64 0, .int .i64 0, .int .i64 0, .int .i64 0]) ?_ 0 _ rfl; (with_reducible repeat (first | refine blk_drewN ?_ _ | refine blk_drew ?_ | refine blk_alloc ?_ _)); exact BK266.out) Try.underlying27 rfl (by kernel_rfl)) rfl ?_
          exact ⟨by first | rfl | (simp [errW_none, errW_some] <;> rfl) | (simp [*, errW_none, errW_some] <;> rfl), by repeat (first | (with_reducible first | exact HB.out | apply below_alloc | apply pw_below_drewN | apply below_drew1 | refine below_set ?_ GE264.out | refine below_set ?_ GE265.out | refine below_set ?_ GE266.out) | exact HB.out)⟩
        · rw [if_neg c33] at H
          have c33b0 : (a0_0 == 18) = false := beq_eq_false_iff_ne.mpr c33
          have c33b1 : (a0_0 != 18) = true := bne_iff_ne.mpr c33
          replace H := Option.bind_eq_some_iff.mp H
          obtain ⟨t275, A500, H⟩ := H
          replace H : ((ramp_Color.f kj3 l0_12 t275).bind fun bt276 => (some (bt276.1, bt276.2.1, bt276.2.2.1, bt276.2.2.2))) = some (r1, r2, r3, r4) := H
          have A50 := Aside0.mk A500
          clear A500
          replace H := Option.bind_eq_some_iff.mp H
          obtain ⟨⟨t276, t277, t278, t279⟩, A510, H⟩ := H
          replace H : (some (t276, t277, t278, t279)) = some (r1, r2, r3, r4) := H
          have A51 := Aside0.mk A510
          clear A510
          simp only [Option.some.injEq, Prod.mk.injEq] at H
          obtain ⟨rfl, rfl, rfl, rfl⟩ := H
          have hnb52 := NB264_265.out
          have hnc52 := NB265_264.out
          have hnb53 := NB264_266.out
          have hnc53 := NB266_264.out
          have hcz54_0 : wc.cell? ⟨gb264, 0, none⟩ = some (.int .i64 a0_0) := (blk_cell BK264.out 0).trans rfl
          have hcz54_1 : wc.cell? ⟨gb264, 1, none⟩ = some (.int .i64 a0_1) := (blk_cell BK264.out 1).trans rfl
          have hcz54_2 : wc.cell? ⟨gb264, 2, none⟩ = some (.int .i64 a0_2) := (blk_cell BK264.out 2).trans rfl
          have hcz54_3 : wc.cell? ⟨gb264, 3, none⟩ = some (.int .i64 a0_3) := (blk_cell BK264.out 3).trans rfl
          have hcz54_4 : wc.cell? ⟨gb264, 4, none⟩ = some (.int .i64 a0_4) := (blk_cell BK264.out 4).trans rfl
          have hcz54_5 : wc.cell? ⟨gb264, 5, none⟩ = some (.int .i64 a0_5) := (blk_cell BK264.out 5).trans rfl
          have hcz54_6 : wc.cell? ⟨gb264, 6, none⟩ = some (.int .i64 a0_6) := (blk_cell BK264.out 6).trans rfl
          have hcz54_7 : wc.cell? ⟨gb264, 7, none⟩ = some (.int .i64 a0_7) := (blk_cell BK264.out 7).trans rfl
          have hcz54_8 : wc.cell? ⟨gb264, 8, none⟩ = some (.int .i64 a0_8) := (blk_cell BK264.out 8).trans rfl
          have hcz54_9 : wc.cell? ⟨gb264, 9, none⟩ = some (.int .i64 a0_9) := (blk_cell BK264.out 9).trans rfl
          have hcz54_10 : wc.cell? ⟨gb264, 10, none⟩ = some (.int .i64 a0_10) := (blk_cell BK264.out 10).trans rfl
          have hcz54_11 : wc.cell? ⟨gb264, 11, none⟩ = some (.int .i64 a0_11) := (blk_cell BK264.out 11).trans rfl
          have hcz54_12 : wc.cell? ⟨gb264, 12, none⟩ = some (.slice A0_12 l0_12.length c0_12) := (blk_cell BK264.out 12).trans rfl
          have hcz54_13 : wc.cell? ⟨gb264, 13, none⟩ = some (.int .i64 a0_13) := (blk_cell BK264.out 13).trans rfl
          have hfz54_0 := blk_frozen BK264.out 0
          have hfz54_1 := blk_frozen BK264.out 1
          have hfz54_2 := blk_frozen BK264.out 2
          have hfz54_3 := blk_frozen BK264.out 3
          have hfz54_4 := blk_frozen BK264.out 4
          have hfz54_5 := blk_frozen BK264.out 5
          have hfz54_6 := blk_frozen BK264.out 6
          have hfz54_7 := blk_frozen BK264.out 7
          have hfz54_8 := blk_frozen BK264.out 8
          have hfz54_9 := blk_frozen BK264.out 9
          have hfz54_10 := blk_frozen BK264.out 10
          have hfz54_11 := blk_frozen BK264.out 11
          have hfz54_12 := blk_frozen BK264.out 12
          have hfz54_13 := blk_frozen BK264.out 13
          try go_wp2
          have n0_ := Aside0.mk (blk_drew BK264.out)
          have n1_ := Aside0.mk (blk_drew BK265.out)
          have n2_ := Aside0.mk (blk_drew BK266.out)
          have n3_ := Aside0.mk (below_drew1 HB.out)
          clear BK264
          clear BK265
          clear BK266
          clear HB
          have BK264 := n0_
          have BK265 := n1_
          have BK266 := n2_
          have HB := n3_
          clear n0_ n1_ n2_ n3_
          refine start_ (n := 8) (S := fun w' => w'.cell? ⟨gb264, 0, none⟩ = some (.int .i64 a0_0) ∧ w'.cell? ⟨gb264, 1, none⟩ = some (.int .i64 a0_1) ∧ w'.cell? ⟨gb264, 2, none⟩ = some (.int .i64 a0_2) ∧ w'.cell? ⟨gb264, 3, none⟩ = some (.int .i64 a0_3) ∧ w'.cell? ⟨gb264, 4, none⟩ = some (.int .i64 a0_4) ∧ w'.cell? ⟨gb264, 5, none⟩ = some (.int .i64 a0_5) ∧ w'.cell? ⟨gb264, 6, none⟩ = some (.int .i64 a0_6) ∧ w'.cell? ⟨gb264, 7, none⟩ = some (.int .i64 a0_7) ∧ w'.cell? ⟨gb264, 8, none⟩ = some (.int .i64 a0_8) ∧ w'.cell? ⟨gb264, 9, none⟩ = some (.int .i64 a0_9) ∧ w'.cell? ⟨gb264, 10, none⟩ = some (.int .i64 a0_10) ∧ w'.cell? ⟨gb264, 11, none⟩ = some (.int .i64 a0_11) ∧ w'.cell? ⟨gb264, 12, none⟩ = some (.slice A0_12 l0_12.length c0_12) ∧ w'.cell? ⟨gb264, 13, none⟩ = some (.int .i64 a0_13)) (ds := []) #[false, false, false, false, false, false, false, false] (by kernel_rfl) rfl rfl ⟨(blk_cell BK264.out 0).trans rfl, (blk_cell BK264.out 1).trans rfl, (blk_cell BK264.out 2).trans rfl, (blk_cell BK264.out 3).trans rfl, (blk_cell BK264.out 4).trans rfl, (blk_cell BK264.out 5).trans rfl, (blk_cell BK264.out 6).trans rfl, (blk_cell BK264.out 7).trans rfl, (blk_cell BK264.out 8).trans rfl, (blk_cell BK264.out 9).trans rfl, (blk_cell BK264.out 10).trans rfl, (blk_cell BK264.out 11).trans rfl, (blk_cell BK264.out 12).trans rfl, (blk_cell BK264.out 13).trans rfl⟩ (fun hHeld => ?_); refine with_tabW ramp_At.tab6 ramp_At.bits6 (fun HT_ HW_ => ?_)
          generalize wc.drew = w55 at BK264 BK265 BK266 HB hHeld ⊢
          refine pure_ (i := 0) (N := some 29) (v := ?_) (a' := ?_) #[true, false, false, false, false, false, false, false] rfl rfl (any_of HT_.out (by kernel_rfl)) (fun _ _ _ h => h) (Or.inl ⟨by rfl, ?_⟩) ?_ ?_
          rotate_left
          · intro w'
            go_simp
            with_reducible rfl
          rotate_left
          · simp only [Act.put, List.setIfInBounds_toArray, List.set_cons_zero, List.set_cons_succ, i64_w, i32_w]
            rfl
          refine pure_ (i := 2) (N := some 31) (v := ?_) (a' := ?_) #[true, false, true, false, false, false, false, false] rfl rfl (any_of HT_.out (by kernel_rfl)) (fun _ _ _ h => h) (Or.inl ⟨by rfl, ?_⟩) ?_ ?_
          rotate_left
          · intro w'
            go_simp
            with_reducible rfl
          rotate_left
          · simp only [Act.put, List.setIfInBounds_toArray, List.set_cons_zero, List.set_cons_succ, i64_w, i32_w]
            rfl
          refine pure_ (i := 3) (N := some 32) (v := ?_) (a' := ?_) #[true, false, true, true, false, false, false, false] rfl rfl (any_of HT_.out (by kernel_rfl)) (fun _ _ _ h => h) (Or.inl ⟨by rfl, ?_⟩) ?_ ?_
          rotate_left
          · intro w'
            go_simp
            with_reducible rfl
          rotate_left
          · simp only [Act.put, List.setIfInBounds_toArray, List.set_cons_zero, List.set_cons_succ, i64_w, i32_w]
            rfl
          refine take_ (i := 1) (N := some 30) (v := ?_) (a' := ?_) #[true, true, true, true, false, false, false, false] rfl rfl (take_ofW HT_.out HW_.out (by kernel_rfl)) (fun _ _ _ h => h) (Or.inl ⟨by rfl, ?_⟩) hHeld ?_ ?_
          rotate_left
          · rintro w' ⟨s0, s1, s2, s3, s4, s5, s6, s7, s8, s9, s10, s11, s12, s13⟩
            go_simp
            with_reducible rfl
          rotate_left
          · simp only [Act.put, List.setIfInBounds_toArray, List.set_cons_zero, List.set_cons_succ, i64_w, i32_w]
            rfl
          refine take_ (i := 4) (N := some 33) (v := ?_) (a' := ?_) #[true, true, true, true, true, false, false, false] rfl rfl (take_ofW HT_.out HW_.out (by kernel_rfl)) (fun _ _ _ h => h) (Or.inl ⟨by rfl, ?_⟩) hHeld ?_ ?_
          rotate_left
          · rintro w' ⟨s0, s1, s2, s3, s4, s5, s6, s7, s8, s9, s10, s11, s12, s13⟩
            go_simp
            with_reducible rfl
          rotate_left
          · simp only [Act.put, List.setIfInBounds_toArray, List.set_cons_zero, List.set_cons_succ, i64_w, i32_w]
            rfl
          refine one_ (i := 5) (N := some 34) #[true, true, true, true, true, true, false, false] rfl rfl (one_of HT_.out (by kernel_rfl)) (by decide) (fun K hK => ?_)
          refine goes_ Try.func10 (by kernel_rfl) rfl #[.int .i64 t267, .int .i64 a0_11] (by rfl) rfl rfl (by (try simp only [List.map_toArray, List.map_cons, List.map_nil]); first | done | rfl | (simp only [List.length_drop, List.length_take]; rfl)) ?_
          with_reducible refine (ramp_Fold.calls t267 a0_11 t275 _ A50.out).mono ?_
          rintro e w56 ⟨rfl, hb⟩
          refine ⟨_, rfl, ?_⟩
          have n0_ := Aside0.mk (blk_below (g := gb264) (o := .cells #[.int .i64 a0_0, .int .i64 a0_1, .int .i64 a0_2, .int .i64 a0_3, .int .i64 a0_4, .int .i64 a0_5, .int .i64 a0_6, .int .i64 a0_7, .int .i64 a0_8, .int .i64 a0_9, .int .i64 a0_10, .int .i64 a0_11, .slice A0_12 l0_12.length c0_12, .int .i64 a0_13] 43 (0, 0)) (by (with_reducible repeat (first | refine blk_drewN ?_ _ | refine blk_drew ?_ | refine blk_alloc ?_ _)); exact BK264.out) hb)
          have n1_ := Aside0.mk (blk_below (g := gb265) (o := .cells #[.int .i64 a1_0, .int .i64 a1_1] 36 (0, 0)) (by (with_reducible repeat (first | refine blk_drewN ?_ _ | refine blk_drew ?_ | refine blk_alloc ?_ _)); exact BK265.out) hb)
          have n2_ := Aside0.mk (blk_below (g := gb266) (o := .cells #[.int .i64 0, .int .i64 0, .int .i64 0, .int .i64 0] 27 (0, 0)) (by (with_reducible repeat (first | refine blk_drewN ?_ _ | refine blk_drew ?_ | refine blk_alloc ?_ _)); exact BK266.out) hb)
          have n3_ := Aside0.mk (below_step (by repeat (first | (with_reducible first | exact HB.out | apply below_alloc | apply pw_below_drewN | apply below_drew1 | refine below_set ?_ GE264.out | refine below_set ?_ GE265.out | refine below_set ?_ GE266.out) | exact HB.out)) hb)
          clear BK264
          clear BK265
          clear BK266
          clear HB
          have BK264 := n0_
          have BK265 := n1_
          have BK266 := n2_
          have HB := n3_
          clear n0_ n1_ n2_ n3_
          (try clear hb)
          (try clear hb2)
          (try clear hk)
          (try clear hi)
          refine hK.out _ _ ⟨(blk_cell BK264.out 0).trans rfl, (blk_cell BK264.out 1).trans rfl, (blk_cell BK264.out 2).trans rfl, (blk_cell BK264.out 3).trans rfl, (blk_cell BK264.out 4).trans rfl, (blk_cell BK264.out 5).trans rfl, (blk_cell BK264.out 6).trans rfl, (blk_cell BK264.out 7).trans rfl, (blk_cell BK264.out 8).trans rfl, (blk_cell BK264.out 9).trans rfl, (blk_cell BK264.out 10).trans rfl, (blk_cell BK264.out 11).trans rfl, (blk_cell BK264.out 12).trans rfl, (blk_cell BK264.out 13).trans rfl⟩ (fun hHeld => ?_)
          clear hK K
          refine norm_ (a' := ?_) ?_ ?_
          rotate_left
          · show Act.put _ (some 34) _ = _
            simp only [Act.put, List.setIfInBounds_toArray, List.set_cons_zero, List.set_cons_succ, i64_w, i32_w]
            rfl
          refine one_ (i := 6) (N := some 35) #[true, true, true, true, true, true, true, false] rfl rfl (one_of HT_.out (by kernel_rfl)) (by decide) (fun K hK => ?_)
          refine goes_ Try.func13 (by kernel_rfl) rfl #[.slice A0_12 l0_12.length c0_12, .int .i64 t275] (by rfl) rfl rfl (by (try simp only [List.map_toArray, List.map_cons, List.map_nil]); first | done | rfl | (simp only [List.length_drop, List.length_take]; rfl)) ?_
          with_reducible refine (ramp_Color.calls kj3 _ _ l0_12 t275 t276 t277 t278 t279 _ ?side1 ?side2 A51.out).mono ?_
          (case side1 => repeat (first | exact (Kd.C_below HR0_12.out HB.out) | (with_reducible refine Kd.C_alloc ?_ _) | (with_reducible refine Kd.C_drewN ?_ _) | (with_reducible refine Kd.C_drew ?_)))
          (case side2 => exact HC0_12.out)
          rintro e w57 ⟨rfl, hb⟩
          refine ⟨_, rfl, ?_⟩
          have n0_ := Aside0.mk (blk_below (g := gb264) (o := .cells #[.int .i64 a0_0, .int .i64 a0_1, .int .i64 a0_2, .int .i64 a0_3, .int .i64 a0_4, .int .i64 a0_5, .int .i64 a0_6, .int .i64 a0_7, .int .i64 a0_8, .int .i64 a0_9, .int .i64 a0_10, .int .i64 a0_11, .slice A0_12 l0_12.length c0_12, .int .i64 a0_13] 43 (0, 0)) (by (with_reducible repeat (first | refine blk_drewN ?_ _ | refine blk_drew ?_ | refine blk_alloc ?_ _)); exact BK264.out) hb)
          have n1_ := Aside0.mk (blk_below (g := gb265) (o := .cells #[.int .i64 a1_0, .int .i64 a1_1] 36 (0, 0)) (by (with_reducible repeat (first | refine blk_drewN ?_ _ | refine blk_drew ?_ | refine blk_alloc ?_ _)); exact BK265.out) hb)
          have n2_ := Aside0.mk (blk_below (g := gb266) (o := .cells #[.int .i64 0, .int .i64 0, .int .i64 0, .int .i64 0] 27 (0, 0)) (by (with_reducible repeat (first | refine blk_drewN ?_ _ | refine blk_drew ?_ | refine blk_alloc ?_ _)); exact BK266.out) hb)
          have n3_ := Aside0.mk (below_step (by repeat (first | (with_reducible first | exact HB.out | apply below_alloc | apply pw_below_drewN | apply below_drew1 | refine below_set ?_ GE264.out | refine below_set ?_ GE265.out | refine below_set ?_ GE266.out) | exact HB.out)) hb)
          clear BK264
          clear BK265
          clear BK266
          clear HB
          have BK264 := n0_
          have BK265 := n1_
          have BK266 := n2_
          have HB := n3_
          clear n0_ n1_ n2_ n3_
          (try clear hb)
          (try clear hb2)
          (try clear hk)
          (try clear hi)
          refine hK.out _ _ ⟨(blk_cell BK264.out 0).trans rfl, (blk_cell BK264.out 1).trans rfl, (blk_cell BK264.out 2).trans rfl, (blk_cell BK264.out 3).trans rfl, (blk_cell BK264.out 4).trans rfl, (blk_cell BK264.out 5).trans rfl, (blk_cell BK264.out 6).trans rfl, (blk_cell BK264.out 7).trans rfl, (blk_cell BK264.out 8).trans rfl, (blk_cell BK264.out 9).trans rfl, (blk_cell BK264.out 10).trans rfl, (blk_cell BK264.out 11).trans rfl, (blk_cell BK264.out 12).trans rfl, (blk_cell BK264.out 13).trans rfl⟩ (fun hHeld => ?_)
          clear hK K
          refine norm_ (a' := ?_) ?_ ?_
          rotate_left
          · show Act.put _ (some 35) _ = _
            simp only [Act.put, List.setIfInBounds_toArray, List.set_cons_zero, List.set_cons_succ, i64_w, i32_w]
            rfl
          refine one_ (i := 7) (N := none) #[true, true, true, true, true, true, true, true] rfl rfl (one_of HT_.out (by kernel_rfl)) (by decide) (fun K hK => ?_)
          have hs58 : w57.cell? ⟨gb266, 0, none⟩ = some (.int .i64 0) := (blk_cell BK266.out 0).trans rfl
          have hfs58 := blk_frozen BK266.out 0
          have hns58_0 := NB264_266.out
          have hns58_1 := NB265_266.out
          have hms58_0 := NB266_264.out
          have hms58_1 := NB266_265.out
          have hs59 : w57.cell? ⟨gb266, 1, none⟩ = some (.int .i64 0) := (blk_cell BK266.out 1).trans rfl
          have hfs59 := blk_frozen BK266.out 1
          have hns59_0 := NB264_266.out
          have hns59_1 := NB265_266.out
          have hms59_0 := NB266_264.out
          have hms59_1 := NB266_265.out
          have hs60 : w57.cell? ⟨gb266, 2, none⟩ = some (.int .i64 0) := (blk_cell BK266.out 2).trans rfl
          have hfs60 := blk_frozen BK266.out 2
          have hns60_0 := NB264_266.out
          have hns60_1 := NB265_266.out
          have hms60_0 := NB266_264.out
          have hms60_1 := NB266_265.out
          have hs61 : w57.cell? ⟨gb266, 3, none⟩ = some (.int .i64 0) := (blk_cell BK266.out 3).trans rfl
          have hfs61 := blk_frozen BK266.out 3
          have hns61_0 := NB264_266.out
          have hns61_1 := NB265_266.out
          have hms61_0 := NB266_264.out
          have hms61_1 := NB266_265.out
          refine skip_ (w1 := ?_) (by rfl) rfl ?_ ?_
          rotate_left
          · go_simp
            rfl
          refine hK.out _ _ ⟨((cell_far (p := ⟨gb266, _, none⟩) NB264_266.out _).trans (((cell_far (p := ⟨gb266, _, none⟩) NB264_266.out _).trans (((cell_far (p := ⟨gb266, _, none⟩) NB264_266.out _).trans (((cell_far (p := ⟨gb266, _, none⟩) NB264_266.out _).trans (hHeld.1)))))))), ((cell_far (p := ⟨gb266, _, none⟩) NB264_266.out _).trans (((cell_far (p := ⟨gb266, _, none⟩) NB264_266.out _).trans (((cell_far (p := ⟨gb266, _, none⟩) NB264_266.out _).trans (((cell_far (p := ⟨gb266, _, none⟩) NB264_266.out _).trans (hHeld.2.1)))))))), ((cell_far (p := ⟨gb266, _, none⟩) NB264_266.out _).trans (((cell_far (p := ⟨gb266, _, none⟩) NB264_266.out _).trans (((cell_far (p := ⟨gb266, _, none⟩) NB264_266.out _).trans (((cell_far (p := ⟨gb266, _, none⟩) NB264_266.out _).trans (hHeld.2.2.1)))))))), ((cell_far (p := ⟨gb266, _, none⟩) NB264_266.out _).trans (((cell_far (p := ⟨gb266, _, none⟩) NB264_266.out _).trans (((cell_far (p := ⟨gb266, _, none⟩) NB264_266.out _).trans (((cell_far (p := ⟨gb266, _, none⟩) NB264_266.out _).trans (hHeld.2.2.2.1)))))))), ((cell_far (p := ⟨gb266, _, none⟩) NB264_266.out _).trans (((cell_far (p := ⟨gb266, _, none⟩) NB264_266.out _).trans (((cell_far (p := ⟨gb266, _, none⟩) NB264_266.out _).trans (((cell_far (p := ⟨gb266, _, none⟩) NB264_266.out _).trans (hHeld.2.2.2.2.1)))))))), ((cell_far (p := ⟨gb266, _, none⟩) NB264_266.out _).trans (((cell_far (p := ⟨gb266, _, none⟩) NB264_266.out _).trans (((cell_far (p := ⟨gb266, _, none⟩) NB264_266.out _).trans (((cell_far (p := ⟨gb266, _, none⟩) NB264_266.out _).trans (hHeld.2.2.2.2.2.1)))))))), ((cell_far (p := ⟨gb266, _, none⟩) NB264_266.out _).trans (((cell_far (p := ⟨gb266, _, none⟩) NB264_266.out _).trans (((cell_far (p := ⟨gb266, _, none⟩) NB264_266.out _).trans (((cell_far (p := ⟨gb266, _, none⟩) NB264_266.out _).trans (hHeld.2.2.2.2.2.2.1)))))))), ((cell_far (p := ⟨gb266, _, none⟩) NB264_266.out _).trans (((cell_far (p := ⟨gb266, _, none⟩) NB264_266.out _).trans (((cell_far (p := ⟨gb266, _, none⟩) NB264_266.out _).trans (((cell_far (p := ⟨gb266, _, none⟩) NB264_266.out _).trans (hHeld.2.2.2.2.2.2.2.1)))))))), ((cell_far (p := ⟨gb266, _, none⟩) NB264_266.out _).trans (((cell_far (p := ⟨gb266, _, none⟩) NB264_266.out _).trans (((cell_far (p := ⟨gb266, _, none⟩) NB264_266.out _).trans (((cell_far (p := ⟨gb266, _, none⟩) NB264_266.out _).trans (hHeld.2.2.2.2.2.2.2.2.1)))))))), ((cell_far (p := ⟨gb266, _, none⟩) NB264_266.out _).trans (((cell_far (p := ⟨gb266, _, none⟩) NB264_266.out _).trans (((cell_far (p := ⟨gb266, _, none⟩) NB264_266.out _).trans (((cell_far (p := ⟨gb266, _, none⟩) NB264_266.out _).trans (hHeld.2.2.2.2.2.2.2.2.2.1)))))))), ((cell_far (p := ⟨gb266, _, none⟩) NB264_266.out _).trans (((cell_far (p := ⟨gb266, _, none⟩) NB264_266.out _).trans (((cell_far (p := ⟨gb266, _, none⟩) NB264_266.out _).trans (((cell_far (p := ⟨gb266, _, none⟩) NB264_266.out _).trans (hHeld.2.2.2.2.2.2.2.2.2.2.1)))))))), ((cell_far (p := ⟨gb266, _, none⟩) NB264_266.out _).trans (((cell_far (p := ⟨gb266, _, none⟩) NB264_266.out _).trans (((cell_far (p := ⟨gb266, _, none⟩) NB264_266.out _).trans (((cell_far (p := ⟨gb266, _, none⟩) NB264_266.out _).trans (hHeld.2.2.2.2.2.2.2.2.2.2.2.1)))))))), ((cell_far (p := ⟨gb266, _, none⟩) NB264_266.out _).trans (((cell_far (p := ⟨gb266, _, none⟩) NB264_266.out _).trans (((cell_far (p := ⟨gb266, _, none⟩) NB264_266.out _).trans (((cell_far (p := ⟨gb266, _, none⟩) NB264_266.out _).trans (hHeld.2.2.2.2.2.2.2.2.2.2.2.2.1)))))))), ((cell_far (p := ⟨gb266, _, none⟩) NB264_266.out _).trans (((cell_far (p := ⟨gb266, _, none⟩) NB264_266.out _).trans (((cell_far (p := ⟨gb266, _, none⟩) NB264_266.out _).trans (((cell_far (p := ⟨gb266, _, none⟩) NB264_266.out _).trans (hHeld.2.2.2.2.2.2.2.2.2.2.2.2.2))))))))⟩ (fun hHeld => ?_)
          clear hK K
          refine done_ (done_of HT_.out (by kernel_rfl)) ?_
          try go_wp2
          refine bodyPost_ret (results_cell_row rfl _ _ gb266 27 #[.int .i64 t276, .int .i64 t277, .int .i64 t278, .int .i64 t279] (0, 0) _ rfl (by (with_reducible repeat (first | refine blk_drewN ?_ _ | refine blk_drew ?_ | refine blk_alloc ?_ _)); refine blk_put (cs := #[.int .i64 t276, .int .i64 t277, .int .i64 t278, .int .i64 0]) ?_ 3 _ rfl; (with_reducible repeat (first | refine blk_drewN ?_ _ | refine blk_drew ?_ | refine blk_alloc ?_ _)); refine blk_put (cs := #[.int .i64 t276, .int .i64 t277, .int .i64 0, .int .i64 0]) ?_ 2 _ rfl; (with_reducible repeat (first | refine blk_drewN ?_ _ | refine blk_drew ?_ | refine blk_alloc ?_ _)); refine blk_put (cs := #[.int .i64 t276, .int .i64 0, .int .i64 0, .int .i64 0]) ?_ 1 _ rfl; (with_reducible repeat (first | refine blk_drewN ?_ _ | refine blk_drew ?_ | refine blk_alloc ?_ _)); refine blk_put (cs := #[.int .i64 0, .int .i64 0, .int .i64 0, .int .i64 0]) ?_ 0 _ rfl; (with_reducible repeat (first | refine blk_drewN ?_ _ | refine blk_drew ?_ | refine blk_alloc ?_ _)); exact BK266.out) Try.underlying27 rfl (by kernel_rfl)) rfl ?_
          exact ⟨by first | rfl | (simp [errW_none, errW_some] <;> rfl) | (simp [*, errW_none, errW_some] <;> rfl), by repeat (first | (with_reducible first | exact HB.out | apply below_alloc | apply pw_below_drewN | apply below_drew1 | refine below_set ?_ GE264.out | refine below_set ?_ GE265.out | refine below_set ?_ GE266.out) | exact HB.out)⟩

/-! ### celluloidref07_in: function 45 -/
def celluloidref07_in.f (a0 : Int) (a1 : Int) : Option (Bool) := if a0 ≥ (wrap64 (-a1)) then (some (decide (a0 ≤ a1))) else (some false)
set_option maxHeartbeats 8000000 in
set_option maxRecDepth 100000 in
theorem celluloidref07_in.calls (a0 : Int) (a1 : Int) (r : Bool) (w : World) (h : celluloidref07_in.f a0 a1 = some r) :
    Calls Try.prog 45 #[.int .i64 a0, .int .i64 a1] w fun e w' => e = .returned (.bool r) ∧ Drawn0 w w' := by
  have H : (if a0 ≥ (wrap64 (-a1)) then (some (decide (a0 ≤ a1))) else (some false)) = some r := h
  clear h
  by_cases c3 : a0 ≥ (wrap64 (-a1))
  · rw [if_pos c3] at H
    have c3b0 : decide ((wrap64 (-a1)) ≤ a0) = true := decide_eq_true c3
    clear c3
    obtain rfl := Option.some.inj H
    go_enter Try.func45, Try.ntmps45
    go_wp2
    go_ret
    exact ⟨by first | rfl | (simp; done) | (simp [*]; done), by repeat (first | exact Drawn0.refl _ | apply Drawn0.step)⟩
  · rw [if_neg c3] at H
    have c3b0 : decide ((wrap64 (-a1)) ≤ a0) = false := decide_eq_false c3
    clear c3
    obtain rfl := Option.some.inj H
    go_enter Try.func45, Try.ntmps45
    go_wp2
    go_ret
    exact ⟨by first | rfl | (simp; done) | (simp [*]; done), by repeat (first | exact Drawn0.refl _ | apply Drawn0.step)⟩

end Go.Proofs.Ytdphpilcokloeaa.P
