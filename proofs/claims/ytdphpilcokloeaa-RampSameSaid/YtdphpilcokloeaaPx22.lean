/- Printed by printx.py (wip/tool) out of the translation: plain functions that tell what the program answers, and the proofs that the program comes to these answers, for all arguments of their kinds. Lean checks it. -/
import Derived.Test.YtdphpilcokloeaaPx0
import Derived.Test.YtdphpilcokloeaaPx1
import Derived.Test.YtdphpilcokloeaaPx4
import Derived.Test.YtdphpilcokloeaaPx7
import Derived.Test.YtdphpilcokloeaaPx8
import Derived.Test.YtdphpilcokloeaaPx17
namespace Go.Proofs.Ytdphpilcokloeaa.P
open Go.RowKit Go.Proofs.YtdphpilcokloeaaW.PrintWords Go.Proofs.YtdphpilcokloeaaW.PrintLast Go.Proofs.YtdphpilcokloeaaW.PrintMore
attribute [local go_sem] max2_int min2_int max_two min_two max_three min_three max_four min_four max_five min_five max_six min_six   -- for this text's walks alone
set_option linter.unusedVariables false
set_option linter.unusedSimpArgs false

attribute [local go_sem high] eqA27
/-! ### celluloidlaw19_RampSame: function 9 -/
mutual
def celluloidlaw19_RampSame.j0 : Nat → List Int → Int → Bool → Int → Bool → Int → Int → Int → Int → Int → Int → Option (Bool)
  | 0, _, _, _, _, _, _, _, _, _, _, _ => none
  | k + 1, x0, x2, x3, x4, x30, x332000, x332001, x332002, x332003, x333000, x333001 => if x30 = true then ((celluloidlaw19_awake.f k).bind fun t334 => (some t334)) else (celluloidlaw19_RampSame.l0 k x2 x3 x4 ([] : List (S32)) 0 x0 (x0.length : Int) 0 x332000 x332001 x332002 x332003 x333000 x333001)
def celluloidlaw19_RampSame.l0 : Nat → Int → Bool → Int → List (S32) → Int → List Int → Int → Int → Int → Int → Int → Int → Int → Int → Option (Bool)
  | 0, _, _, _, _, _, _, _, _, _, _, _, _, _, _ => none
  | k + 1, x2, x3, x4, x13, x14, x32, x33, x34, x332000, x332001, x332002, x332003, x333000, x333001 => if x34 < x33 then (if 0 ≤ x34 then (if x34 < (x32.length : Int) then (if x13.length < 3518437208883 then (celluloidlaw19_RampSame.l0 k x2 x3 x4 (x13 ++ [(⟨wrap64 (mx x14 (rd x32 x34)), (⟨x332000, x332001, x332002, x332003⟩ : S27)⟩ : S32)]) (mx x14 (rd x32 x34)) x32 x33 (wrap64 (x34 + 1)) x332000 x332001 x332002 x332003 x333000 x333001) else (none)) else (none)) else (none)) else (if x3 = true then ((ramp_Color.f k x13 (wrap64 (x2))).bind fun bt340 => (if (bt340.1 == x332000 && (bt340.2.1 == x332001 && (bt340.2.2.1 == x332002 && (bt340.2.2.2 == x332003)))) = true then ((ramp_At.f k 18 0 0 0 0 65536 0 0 65536 0 0 (wrap64 (Int.tmod x4 3)) x13 0 x333000 x333001).bind fun bt344 => (if (bt344.1 == x332000 && (bt344.2.1 == x332001 && (bt344.2.2.1 == x332002 && (bt344.2.2.2 == x332003)))) = true then ((celluloidlaw19_awake.f k).bind fun t348 => (some t348)) else (some false))) else (some false))) else ((ramp_Color.f k x13 (wrap64 (x2))).bind fun bt349 => (if (bt349.1 == x332000 && (bt349.2.1 == x332001 && (bt349.2.2.1 == x332002 && (bt349.2.2.2 == x332003)))) = true then ((ramp_At.f k 16 0 0 0 0 65536 0 0 65536 0 0 (wrap64 (Int.tmod x4 3)) x13 0 x333000 x333001).bind fun bt353 => (if (bt353.1 == x332000 && (bt353.2.1 == x332001 && (bt353.2.2.1 == x332002 && (bt353.2.2.2 == x332003)))) = true then ((celluloidlaw19_awake.f k).bind fun t357 => (some t357)) else (some false))) else (some false))))
end
def celluloidlaw19_RampSame.f (k : Nat) (l0 : List Int) (a1_0 : Int) (a1_1 : Int) (a1_2 : Int) (a1_3 : Int) (a2 : Int) (a3 : Bool) (a4 : Int) (a5_0 : Int) (a5_1 : Int) : Option (Bool) := if (l0.length : Int) = 0 then (celluloidlaw19_RampSame.j0 k l0 a2 a3 a4 true a1_0 a1_1 a1_2 a1_3 a5_0 a5_1) else (if (l0.length : Int) > 8 then (celluloidlaw19_RampSame.j0 k l0 a2 a3 a4 true a1_0 a1_1 a1_2 a1_3 a5_0 a5_1) else ((field_RightRGBA.f k a1_0 a1_1 a1_2 a1_3).bind fun t333 => (celluloidlaw19_RampSame.j0 k l0 a2 a3 a4 (!t333) a1_0 a1_1 a1_2 a1_3 a5_0 a5_1)))
theorem celluloidlaw19_RampSame.mono_l : ∀ k, (∀ y0 y1 y2 y3 y4 y5 y6 y7 y8 y9 y10, LeO (celluloidlaw19_RampSame.j0 k y0 y1 y2 y3 y4 y5 y6 y7 y8 y9 y10) (celluloidlaw19_RampSame.j0 (k + 1) y0 y1 y2 y3 y4 y5 y6 y7 y8 y9 y10)) ∧ (∀ y0 y1 y2 y3 y4 y5 y6 y7 y8 y9 y10 y11 y12 y13, LeO (celluloidlaw19_RampSame.l0 k y0 y1 y2 y3 y4 y5 y6 y7 y8 y9 y10 y11 y12 y13) (celluloidlaw19_RampSame.l0 (k + 1) y0 y1 y2 y3 y4 y5 y6 y7 y8 y9 y10 y11 y12 y13))
  | 0 => ⟨fun _ _ _ _ _ _ _ _ _ _ _ r h => by simp [celluloidlaw19_RampSame.j0] at h, fun _ _ _ _ _ _ _ _ _ _ _ _ _ _ r h => by simp [celluloidlaw19_RampSame.l0] at h⟩
  | k + 1 => by
    obtain ⟨ih0, ih1⟩ := celluloidlaw19_RampSame.mono_l k
    refine ⟨?_, ?_⟩
    · intro y0 y1 y2 y3 y4 y5 y6 y7 y8 y9 y10
      unfold celluloidlaw19_RampSame.j0
      repeat' first
      | (with_reducible exact ih0 _ _ _ _ _ _ _ _ _ _ _)
      | (with_reducible exact ih1 _ _ _ _ _ _ _ _ _ _ _ _ _ _)
      | (with_reducible exact celluloidlaw19_awake.mono _)
      | (with_reducible exact field_RightRGBA.mono _ _ _ _ _)
      | (with_reducible exact ramp_At.mono _ _ _ _ _ _ _ _ _ _ _ _ _ _ _ _ _)
      | (with_reducible exact ramp_Color.mono _ _ _)
      | (with_reducible exact LeO.refl _)
      | (with_reducible exact LeO.none _)
      | (with_reducible refine LeO.ite ?_ ?_)
      | (with_reducible refine LeO.bind ?_ (fun _ => ?_))
      | exact ih0 _ _ _ _ _ _ _ _ _ _ _
      | exact ih1 _ _ _ _ _ _ _ _ _ _ _ _ _ _
      | exact celluloidlaw19_awake.mono _
      | exact field_RightRGBA.mono _ _ _ _ _
      | exact ramp_At.mono _ _ _ _ _ _ _ _ _ _ _ _ _ _ _ _ _
      | exact ramp_Color.mono _ _ _
      | exact LeO.none _
      | refine LeO.ite ?_ ?_
      | refine LeO.bind ?_ (fun _ => ?_)
    · intro y0 y1 y2 y3 y4 y5 y6 y7 y8 y9 y10 y11 y12 y13
      unfold celluloidlaw19_RampSame.l0
      repeat' first
      | (with_reducible exact ih0 _ _ _ _ _ _ _ _ _ _ _)
      | (with_reducible exact ih1 _ _ _ _ _ _ _ _ _ _ _ _ _ _)
      | (with_reducible exact celluloidlaw19_awake.mono _)
      | (with_reducible exact field_RightRGBA.mono _ _ _ _ _)
      | (with_reducible exact ramp_At.mono _ _ _ _ _ _ _ _ _ _ _ _ _ _ _ _ _)
      | (with_reducible exact ramp_Color.mono _ _ _)
      | (with_reducible exact LeO.refl _)
      | (with_reducible exact LeO.none _)
      | (with_reducible refine LeO.ite ?_ ?_)
      | (with_reducible refine LeO.bind ?_ (fun _ => ?_))
      | exact ih0 _ _ _ _ _ _ _ _ _ _ _
      | exact ih1 _ _ _ _ _ _ _ _ _ _ _ _ _ _
      | exact celluloidlaw19_awake.mono _
      | exact field_RightRGBA.mono _ _ _ _ _
      | exact ramp_At.mono _ _ _ _ _ _ _ _ _ _ _ _ _ _ _ _ _
      | exact ramp_Color.mono _ _ _
      | exact LeO.none _
      | refine LeO.ite ?_ ?_
      | refine LeO.bind ?_ (fun _ => ?_)
theorem celluloidlaw19_RampSame.mono : ∀ a0 a1 a2 a3 a4 a5 a6 a7 a8 a9 k, LeO (celluloidlaw19_RampSame.f k a0 a1 a2 a3 a4 a5 a6 a7 a8 a9) (celluloidlaw19_RampSame.f (k + 1) a0 a1 a2 a3 a4 a5 a6 a7 a8 a9) := by
  intro a0 a1 a2 a3 a4 a5 a6 a7 a8 a9 k
  obtain ⟨ih0, ih1⟩ := celluloidlaw19_RampSame.mono_l k
  unfold celluloidlaw19_RampSame.f
  repeat' first
      | (with_reducible exact ih0 _ _ _ _ _ _ _ _ _ _ _)
      | (with_reducible exact ih1 _ _ _ _ _ _ _ _ _ _ _ _ _ _)
      | (with_reducible exact celluloidlaw19_awake.mono _)
      | (with_reducible exact field_RightRGBA.mono _ _ _ _ _)
      | (with_reducible exact ramp_At.mono _ _ _ _ _ _ _ _ _ _ _ _ _ _ _ _ _)
      | (with_reducible exact ramp_Color.mono _ _ _)
      | (with_reducible exact LeO.refl _)
      | (with_reducible exact LeO.none _)
      | (with_reducible refine LeO.ite ?_ ?_)
      | (with_reducible refine LeO.bind ?_ (fun _ => ?_))
      | exact ih0 _ _ _ _ _ _ _ _ _ _ _
      | exact ih1 _ _ _ _ _ _ _ _ _ _ _ _ _ _
      | exact celluloidlaw19_awake.mono _
      | exact field_RightRGBA.mono _ _ _ _ _
      | exact ramp_At.mono _ _ _ _ _ _ _ _ _ _ _ _ _ _ _ _ _
      | exact ramp_Color.mono _ _ _
      | exact LeO.none _
      | refine LeO.ite ?_ ?_
      | refine LeO.bind ?_ (fun _ => ?_)
def celluloidlaw19_RampSame.T14 : Bool × List (List Nat × List Nat) := (true, [([], []), ([], []), ([1], [1]), ([0, 2], [0, 2]), ([], []), ([3, 4], [3, 4]), ([5, 3], [5]), ([6], [6]), ([6], [6]), ([7, 8, 6, 6], [6, 7, 8]), ([6], [6]), ([9, 10, 6], [6, 9, 10]), ([6, 11], [6, 11]), ([12, 9], [12]), ([13, 13], [13]), ([13, 14], [13, 14]), ([15, 14, 0, 1, 2, 3, 4, 5, 6, 7, 8, 9, 10, 11, 12, 13, 14, 15], [15])])
def celluloidlaw19_RampSame.B14 : List Nat := [0, 0, 2, 7, 0, 31, 63, 127, 127, 511, 127, 2047, 4095, 8191, 16383, 32767, 65535]
theorem celluloidlaw19_RampSame.tab14 : rtab .any (opsOf Try.f9 14) = celluloidlaw19_RampSame.T14 := by kernel_rfl
theorem celluloidlaw19_RampSame.bits14 : waitsOk celluloidlaw19_RampSame.T14.2 celluloidlaw19_RampSame.B14 = true := by kernel_rfl
set_option maxHeartbeats 8000000 in
set_option maxRecDepth 100000 in
theorem celluloidlaw19_RampSame.calls (k : Nat) (A0 : Option Addr) (c0 : Nat) (l0 : List Int) (a1_0 : Int) (a1_1 : Int) (a1_2 : Int) (a1_3 : Int) (a2 : Int) (a3 : Bool) (a4 : Int) (a5_0 : Int) (a5_1 : Int) (r : Bool) (w : World) (hr0 : Kd.C (Kd.int .u8) w A0 l0.length l0) (hc0 : l0.length ≤ c0) (h : celluloidlaw19_RampSame.f k l0 a1_0 a1_1 a1_2 a1_3 a2 a3 a4 a5_0 a5_1 = some r) :
    Calls Try.prog 9 #[.slice A0 l0.length c0, .agg #[.int .i64 a1_0, .int .i64 a1_1, .int .i64 a1_2, .int .i64 a1_3], .int .u8 a2, .bool a3, .int .u8 a4, .agg #[.int .i64 a5_0, .int .i64 a5_1]] w fun e w' => e = .returned (.bool r) ∧ Below w.heap.size w w' := by
  have hu27 := Try.underlying27
  have hu36 := Try.underlying36
  have hu32 := Try.underlying32
  have hu41 := Try.underlying41
  have hu43 := Try.underlying43
  have HR0 := Aside0.mk hr0
  have HC0 := Aside0.mk hc0
  clear hr0 hc0
  have HB := Aside0.mk (Below.refl w.heap.size w)
  have H : (if (l0.length : Int) = 0 then (celluloidlaw19_RampSame.j0 k l0 a2 a3 a4 true a1_0 a1_1 a1_2 a1_3 a5_0 a5_1) else (if (l0.length : Int) > 8 then (celluloidlaw19_RampSame.j0 k l0 a2 a3 a4 true a1_0 a1_1 a1_2 a1_3 a5_0 a5_1) else ((field_RightRGBA.f k a1_0 a1_1 a1_2 a1_3).bind fun t333 => (celluloidlaw19_RampSame.j0 k l0 a2 a3 a4 (!t333) a1_0 a1_1 a1_2 a1_3 a5_0 a5_1)))) = some r := h
  clear h
  have HC7 := Aside0.mk H
  clear H
  go_enter Try.func9, Try.ntmps9
  go_upto_region 1 with (first | ((with_reducible refine gate_dst (N := 7) rfl ?_); (try (refine gate_guard (by rfl) ?_; dsimp only)); refine box_event ?hg (N := 7) ?hd (cs := #[.int .i64 a1_0, .int .i64 a1_1, .int .i64 a1_2, .int .i64 a1_3]) (t := 27) ?hr ?_; (case hd => rfl); (case hg => rfl); (case hr => first | (go_simp; done) | (go_simp; rfl)); intro gb331 hg w8 hbox hb; have n0_ := Aside0.mk (below_step (by repeat (first | (with_reducible first | exact HB.out | apply below_alloc | apply pw_below_drewN | apply below_drew1) | exact HB.out)) hb); have n1_ := Aside0.mk (hbox); have n2_ := Aside0.mk ((by rw [hg]; exact (below_size (by repeat (first | (with_reducible first | exact HB.out | apply below_alloc | apply pw_below_drewN | apply below_drew1) | exact HB.out))) : w.heap.size ≤ gb331)); have n3_ := Aside0.mk ((by rw [hg]; exact (below_size (by repeat (first | (with_reducible first | exact HB.out | apply below_alloc | apply pw_below_drewN | apply below_drew1) | exact HB.out))) : w.heap.size ≤ gb331)); clear HB; have HB := n0_; have BK331 := n1_; have GW331 := n2_; have GE331 := n3_; clear n0_ n1_ n2_ n3_; clear hb hbox hg) | ((with_reducible refine gate_dst (N := 11) rfl ?_); (try (refine gate_guard (by rfl) ?_; dsimp only)); refine box_event ?hg (N := 11) ?hd (cs := #[.int .i64 a5_0, .int .i64 a5_1]) (t := 36) ?hr ?_; (case hd => rfl); (case hg => rfl); (case hr => first | (go_simp; done) | (go_simp; rfl)); intro gb332 hg w9 hbox hb; have n0_ := Aside0.mk (blk_below (g := gb331) (o := .cells #[.int .i64 a1_0, .int .i64 a1_1, .int .i64 a1_2, .int .i64 a1_3] 27 (0, 0)) (by (with_reducible repeat (first | refine blk_drewN ?_ _ | refine blk_drew ?_ | refine blk_alloc ?_ _)); exact BK331.out) hb); have n1_ := Aside0.mk (below_step (by repeat (first | (with_reducible first | exact HB.out | apply below_alloc | apply pw_below_drewN | apply below_drew1 | refine below_set ?_ GE331.out) | exact HB.out)) hb); have n2_ := Aside0.mk (hbox); have n3_ := Aside0.mk ((by rw [hg]; exact (below_size (by repeat (first | (with_reducible first | exact HB.out | apply below_alloc | apply pw_below_drewN | apply below_drew1 | refine below_set ?_ GE331.out) | exact HB.out))) : w.heap.size ≤ gb332)); have n4_ := Aside0.mk ((by rw [hg]; exact (below_size (by repeat (first | (with_reducible first | exact HB.out | apply below_alloc | apply pw_below_drewN | apply below_drew1 | refine below_set ?_ GE331.out) | exact HB.out))) : w.heap.size ≤ gb332)); have n5_ := Aside0.mk ((by rw [hg]; exact Nat.ne_of_lt (blk_lt (g := gb331) (o := .cells #[.int .i64 a1_0, .int .i64 a1_1, .int .i64 a1_2, .int .i64 a1_3] 27 (0, 0)) (by (with_reducible repeat (first | refine blk_drewN ?_ _ | refine blk_drew ?_ | refine blk_alloc ?_ _)); exact BK331.out)) : gb331 ≠ gb332)); have n6_ := Aside0.mk ((by rw [hg]; exact Nat.ne_of_gt (blk_lt (g := gb331) (o := .cells #[.int .i64 a1_0, .int .i64 a1_1, .int .i64 a1_2, .int .i64 a1_3] 27 (0, 0)) (by (with_reducible repeat (first | refine blk_drewN ?_ _ | refine blk_drew ?_ | refine blk_alloc ?_ _)); exact BK331.out)) : gb332 ≠ gb331)); clear BK331; clear HB; have BK331 := n0_; have HB := n1_; have BK332 := n2_; have GW332 := n3_; have GE332 := n4_; have NB331_332 := n5_; have NB332_331 := n6_; clear n0_ n1_ n2_ n3_ n4_ n5_ n6_; clear hb hbox hg))
  (try simp only [Act.put, List.setIfInBounds_toArray, List.set_cons_zero, List.set_cons_succ])
  go_cut [30] (fun v30 wc => ∃ (kq : Nat) (x30_6 : Bool), v30 = .bool x30_6 ∧ Aside0 (celluloidlaw19_RampSame.j0 kq l0 a2 a3 a4 x30_6 a1_0 a1_1 a1_2 a1_3 a5_0 a5_1 = some r) ∧ Aside0 (kq ≤ k) ∧ Aside0 (wc.heap[gb331]? = some (.cells #[.int .i64 a1_0, .int .i64 a1_1, .int .i64 a1_2, .int .i64 a1_3] 27 (0, 0))) ∧ Aside0 (wc.heap[gb332]? = some (.cells #[.int .i64 a5_0, .int .i64 a5_1] 36 (0, 0))) ∧ Aside0 (Below w.heap.size w wc))
  case first =>
    have H := HC7.out
    clear HC7
    by_cases c10 : (l0.length : Int) = 0
    · rw [if_pos c10] at H
      have c10b0 : ((l0.length : Int) == 0) = true := beq_iff_eq.mpr c10
      have c10b1 : ((l0.length : Int) != 0) = false := bne_eq_false_iff_eq.mpr c10
      clear c10
      (first | rw [c10b0] | (simp only [i64_w, i32_w]; rw [c10b0]) | skip)
      have H' := Aside0.mk H
      clear H
      go_wp2
      go_meet
      case rel => exact ⟨_, (true), (by first | rfl | (simp; done) | (simp [*]; done)), H', ⟨by first | omega | exact Nat.le_refl _⟩, ⟨by (with_reducible repeat (first | refine blk_drewN ?_ _ | refine blk_drew ?_ | refine blk_alloc ?_ _)); exact BK331.out⟩, ⟨by (with_reducible repeat (first | refine blk_drewN ?_ _ | refine blk_drew ?_ | refine blk_alloc ?_ _)); exact BK332.out⟩, ⟨by repeat (first | (with_reducible first | exact HB.out | apply below_alloc | apply pw_below_drewN | apply below_drew1 | refine below_set ?_ GE331.out | refine below_set ?_ GE332.out) | exact HB.out)⟩⟩
    · rw [if_neg c10] at H
      have c10b0 : ((l0.length : Int) == 0) = false := beq_eq_false_iff_ne.mpr c10
      have c10b1 : ((l0.length : Int) != 0) = true := bne_iff_ne.mpr c10
      have c10b2 : ¬ (l0 = []) := fun h_ => c10 (by rw [h_]; rfl)
      (first | rw [c10b0] | (simp only [i64_w, i32_w]; rw [c10b0]) | skip)
      by_cases c11 : (l0.length : Int) > 8
      · rw [if_pos c11] at H
        have c11b0 : decide (8 < (l0.length : Int)) = true := decide_eq_true c11
        have c11b1 : decide (8 < l0.length) = true := decide_eq_true (by omega)
        clear c11
        have H' := Aside0.mk H
        clear H
        go_wp2
        go_meet
        case rel => exact ⟨_, (true), (by first | rfl | (simp; done) | (simp [*]; done)), H', ⟨by first | omega | exact Nat.le_refl _⟩, ⟨by (with_reducible repeat (first | refine blk_drewN ?_ _ | refine blk_drew ?_ | refine blk_alloc ?_ _)); exact BK331.out⟩, ⟨by (with_reducible repeat (first | refine blk_drewN ?_ _ | refine blk_drew ?_ | refine blk_alloc ?_ _)); exact BK332.out⟩, ⟨by repeat (first | (with_reducible first | exact HB.out | apply below_alloc | apply pw_below_drewN | apply below_drew1 | refine below_set ?_ GE331.out | refine below_set ?_ GE332.out) | exact HB.out)⟩⟩
      · rw [if_neg c11] at H
        have c11b0 : decide (8 < (l0.length : Int)) = false := decide_eq_false c11
        have c11b1 : decide (8 < l0.length) = false := decide_eq_false (by omega)
        clear c11
        replace H := Option.bind_eq_some_iff.mp H
        obtain ⟨t333, A120, H⟩ := H
        replace H : (celluloidlaw19_RampSame.j0 k l0 a2 a3 a4 (!t333) a1_0 a1_1 a1_2 a1_3 a5_0 a5_1) = some r := H
        have A12 := Aside0.mk A120
        clear A120
        have H' := Aside0.mk H
        clear H
        have hnb13 := NB331_332.out
        have hnc13 := NB332_331.out
        have hcz14_0 : w9.cell? ⟨gb331, 0, none⟩ = some (.int .i64 a1_0) := (blk_cell BK331.out 0).trans rfl
        have hcz14_1 : w9.cell? ⟨gb331, 1, none⟩ = some (.int .i64 a1_1) := (blk_cell BK331.out 1).trans rfl
        have hcz14_2 : w9.cell? ⟨gb331, 2, none⟩ = some (.int .i64 a1_2) := (blk_cell BK331.out 2).trans rfl
        have hcz14_3 : w9.cell? ⟨gb331, 3, none⟩ = some (.int .i64 a1_3) := (blk_cell BK331.out 3).trans rfl
        have hfz14_0 := blk_frozen BK331.out 0
        have hfz14_1 := blk_frozen BK331.out 1
        have hfz14_2 := blk_frozen BK331.out 2
        have hfz14_3 := blk_frozen BK331.out 3
        go_wp2_with (first | (go_at_call 22; (with_reducible refine (field_RightRGBA.calls k a1_0 a1_1 a1_2 a1_3 t333 _ A12.out).mono ?_); rintro e w15 ⟨rfl, hb⟩; have n0_ := Aside0.mk (blk_below (g := gb331) (o := .cells #[.int .i64 a1_0, .int .i64 a1_1, .int .i64 a1_2, .int .i64 a1_3] 27 (0, 0)) (by (with_reducible repeat (first | refine blk_drewN ?_ _ | refine blk_drew ?_ | refine blk_alloc ?_ _)); exact BK331.out) hb); have n1_ := Aside0.mk (blk_below (g := gb332) (o := .cells #[.int .i64 a5_0, .int .i64 a5_1] 36 (0, 0)) (by (with_reducible repeat (first | refine blk_drewN ?_ _ | refine blk_drew ?_ | refine blk_alloc ?_ _)); exact BK332.out) hb); have n2_ := Aside0.mk (below_step (by repeat (first | (with_reducible first | exact HB.out | apply below_alloc | apply pw_below_drewN | apply below_drew1 | refine below_set ?_ GE331.out | refine below_set ?_ GE332.out) | exact HB.out)) hb); clear BK331; clear BK332; clear HB; have BK331 := n0_; have BK332 := n1_; have HB := n2_; clear n0_ n1_ n2_; (try clear hb); (try clear hb2); (try clear hk); (try clear hi)))
        go_meet
        case rel => exact ⟨_, (!t333), (by first | rfl | (simp; done) | (simp [*]; done)), H', ⟨by first | omega | exact Nat.le_refl _⟩, ⟨by (with_reducible repeat (first | refine blk_drewN ?_ _ | refine blk_drew ?_ | refine blk_alloc ?_ _)); exact BK331.out⟩, ⟨by (with_reducible repeat (first | refine blk_drewN ?_ _ | refine blk_drew ?_ | refine blk_alloc ?_ _)); exact BK332.out⟩, ⟨by repeat (first | (with_reducible first | exact HB.out | apply below_alloc | apply pw_below_drewN | apply below_drew1 | refine below_set ?_ GE331.out | refine below_set ?_ GE332.out) | exact HB.out)⟩⟩
  case rest =>
    clear HC7
    try clear c1
    try clear p2
    try clear c9
    try clear c10
    try clear c10b0
    try clear c10b1
    try clear c10b2
    try clear c11
    try clear c11b0
    try clear c11b1
    try clear c13
    try clear hcz14_0
    try clear hcz14_1
    try clear hcz14_2
    try clear hcz14_3
    try clear hfz14_0
    try clear hfz14_1
    try clear hfz14_2
    try clear hfz14_3
    obtain ⟨kq, x30_6, rfl, HA, HJ6, BK331, BK332, HB⟩ := hcut
    cases kq with
    | zero => exact absurd HA.out (by simp [celluloidlaw19_RampSame.j0])
    | succ kj6 =>
      have H := HA.out
      clear HA
      simp only [celluloidlaw19_RampSame.j0] at H
      by_cases c16 : x30_6 = true
      · subst c16
        have H1 : ((celluloidlaw19_awake.f kj6).bind fun t334 => (some t334)) = some r := by rw [if_pos rfl] at H; exact H
        clear H
        have H := H1
        clear H1
        replace H := Option.bind_eq_some_iff.mp H
        obtain ⟨t334, A170, H⟩ := H
        replace H : (some t334) = some r := H
        have A17 := Aside0.mk A170
        clear A170
        obtain rfl := Option.some.inj H
        go_wp2_with (first | ((with_reducible refine gate_callee (f := 12) rfl ?_); refine goesL_ (some 31) rfl rfl Try.func12 (by kernel_rfl) rfl #[] rfl (by (try simp only [List.map_toArray, List.map_cons, List.map_nil]); first | done | rfl | (simp only [List.length_drop, List.length_take]; rfl)) ?_; (with_reducible refine (celluloidlaw19_awake.calls kj6  t334 _ A17.out).mono ?_); rintro e w18 ⟨rfl, hb⟩; refine ⟨_, rfl, ?_⟩; have n0_ := Aside0.mk (blk_below (g := gb331) (o := .cells #[.int .i64 a1_0, .int .i64 a1_1, .int .i64 a1_2, .int .i64 a1_3] 27 (0, 0)) (by (with_reducible repeat (first | refine blk_drewN ?_ _ | refine blk_drew ?_ | refine blk_alloc ?_ _)); exact BK331.out) hb); have n1_ := Aside0.mk (blk_below (g := gb332) (o := .cells #[.int .i64 a5_0, .int .i64 a5_1] 36 (0, 0)) (by (with_reducible repeat (first | refine blk_drewN ?_ _ | refine blk_drew ?_ | refine blk_alloc ?_ _)); exact BK332.out) hb); have n2_ := Aside0.mk (below_step (by repeat (first | (with_reducible first | exact HB.out | apply below_alloc | apply pw_below_drewN | apply below_drew1 | refine below_set ?_ GE331.out | refine below_set ?_ GE332.out) | exact HB.out)) hb); clear BK331; clear BK332; clear HB; have BK331 := n0_; have BK332 := n1_; have HB := n2_; clear n0_ n1_ n2_; (try clear hb); (try clear hb2); (try clear hk); (try clear hi)))
        go_ret
        exact ⟨by first | rfl | (simp [errW_none, errW_some] <;> rfl) | (simp [*, errW_none, errW_some] <;> rfl), by repeat (first | (with_reducible first | exact HB.out | apply below_alloc | apply pw_below_drewN | apply below_drew1 | refine below_set ?_ GE331.out | refine below_set ?_ GE332.out) | exact HB.out)⟩
      · replace c16 := Bool.eq_false_iff.mpr c16
        subst c16
        have H1 : (celluloidlaw19_RampSame.l0 kj6 a2 a3 a4 ([] : List (S32)) 0 l0 (l0.length : Int) 0 a1_0 a1_1 a1_2 a1_3 a5_0 a5_1) = some r := by rw [if_neg (show ¬ (false = true) by decide)] at H; exact H
        clear H
        have H := H1
        clear H1
        have H' := Aside0.mk H
        clear H
        go_wp2
        go_loopg [13, 14, 34] kj6 (fun kq v13 v14 v34 w' => ∃ (x13_2 : List (S32)) (x14_2 : Int) (x34_2 : Int), v14 = .int .u8 x14_2 ∧ v34 = .int .i64 x34_2 ∧ Aside0 (celluloidlaw19_RampSame.l0 kq a2 a3 a4 x13_2 x14_2 l0 (l0.length : Int) x34_2 a1_0 a1_1 a1_2 a1_3 a5_0 a5_1 = some r) ∧ Aside0 (kq ≤ kj6) ∧ Aside0 (Kd.R k32 32 w' w.heap.size (fun _ => True) v13 x13_2) ∧ Aside0 (w'.heap[gb331]? = some (.cells #[.int .i64 a1_0, .int .i64 a1_1, .int .i64 a1_2, .int .i64 a1_3] 27 (0, 0))) ∧ Aside0 (w'.heap[gb332]? = some (.cells #[.int .i64 a5_0, .int .i64 a5_1] 36 (0, 0))) ∧ Aside0 (Below w.heap.size w w'))
        case atStart => exact ⟨(([] : List (S32))), (0), (0), (by first | rfl | (simp; done) | (simp [*]; done)), (by first | rfl | (simp; done) | (simp [*]; done)), H', ⟨Nat.le_refl _⟩, ⟨by first | exact Kd.R_nil _ _ _ _ _ | exact Kd.N_nil _ _ _ _ _ | exact Kd.V_nil _ _ _ _ _ | exact Kd.Q_nil _ _ _ _ _ | exact Kd.S_nil _ _ _ _ _⟩, ⟨by (with_reducible repeat (first | refine blk_drewN ?_ _ | refine blk_drew ?_ | refine blk_alloc ?_ _)); exact BK331.out⟩, ⟨by (with_reducible repeat (first | refine blk_drewN ?_ _ | refine blk_drew ?_ | refine blk_alloc ?_ _)); exact BK332.out⟩, ⟨by repeat (first | (with_reducible first | exact HB.out | apply below_alloc | apply pw_below_drewN | apply below_drew1 | refine below_set ?_ GE331.out | refine below_set ?_ GE332.out) | exact HB.out)⟩⟩
        case round =>
          clear H'
          try clear c1
          try clear p2
          try clear c9
          try clear c10
          try clear c10b0
          try clear c10b1
          try clear c10b2
          try clear c11
          try clear c11b0
          try clear c11b1
          try clear c12
          try clear c13
          try clear c16
          try clear hcz14_0
          try clear hcz14_1
          try clear hcz14_2
          try clear hcz14_3
          try clear hfz14_0
          try clear hfz14_1
          try clear hfz14_2
          try clear hfz14_3
          try clear p2
          obtain ⟨x13_2, x14_2, x34_2, rfl, rfl, HA, HK2, HO_13, BK331, BK332, HB⟩ := hrel
          cases gk with
          | zero => exact absurd HA.out (by simp [celluloidlaw19_RampSame.l0])
          | succ k2 =>
            have H := HA.out
            clear HA
            simp only [celluloidlaw19_RampSame.l0] at H
            by_cases c19 : x34_2 < (l0.length : Int)
            · rw [if_pos c19] at H
              have c19b0 : decide (x34_2 < (l0.length : Int)) = true := decide_eq_true c19
              clear c19
              by_cases c20 : 0 ≤ x34_2
              · rw [if_pos c20] at H
                have c20b0 : decide (0 ≤ x34_2) = true := decide_eq_true c20
                clear c20
                by_cases c21 : x34_2 < (l0.length : Int)
                · rw [if_pos c21] at H
                  have c21b0 : decide (x34_2 < (l0.length : Int)) = true := decide_eq_true c21
                  clear c21
                  obtain ⟨ji22, hji22⟩ : ∃ j_ : Int, (mx x14_2 (rd l0 x34_2)) = j_ := ⟨_, rfl⟩
                  replace H : (if x13_2.length < 3518437208883 then (celluloidlaw19_RampSame.l0 k2 a2 a3 a4 (x13_2 ++ [(⟨wrap64 (ji22), (⟨a1_0, a1_1, a1_2, a1_3⟩ : S27)⟩ : S32)]) ji22 l0 (l0.length : Int) (wrap64 (x34_2 + 1)) a1_0 a1_1 a1_2 a1_3 a5_0 a5_1) else (none)) = some r := by first | (rw [hji22] at H; exact H) | (simp only [hji22] at H ⊢; exact H)
                  have hji22_ : (if x14_2 < (rd l0 x34_2) then (rd l0 x34_2) else x14_2) = ji22 := hji22
                  by_cases c23 : x13_2.length < 3518437208883
                  · rw [if_pos c23] at H
                    have LMc23 := Aside0.mk c23
                    clear c23
                    obtain ⟨y336, hy336⟩ : ∃ y_ : List (S32), y_ = (x13_2 ++ [(⟨wrap64 (ji22), (⟨a1_0, a1_1, a1_2, a1_3⟩ : S27)⟩ : S32)]) := ⟨_, rfl⟩
                    replace H : (celluloidlaw19_RampSame.l0 k2 a2 a3 a4 y336 ji22 l0 (l0.length : Int) (wrap64 (x34_2 + 1)) a1_0 a1_1 a1_2 a1_3 a5_0 a5_1) = some r := by first | (rw [hy336]; with_reducible exact H) | (have H2_ := (Option.bind_some _ _).symm.trans H; rw [hy336]; with_reducible exact H2_) | (have H2_ := (Option.bind_some _ _).symm.trans H; with_reducible exact H2_) | with_reducible exact H | (rw [hy336]; exact H) | exact H
                    have Ny336 := Aside0.mk hy336
                    clear hy336
                    have H' := Aside0.mk H
                    clear H
                    have p335 : 0 ≤ (x34_2 : Int) := of_decide_eq_true (by first | (with_reducible assumption) | assumption)
                    have q335 : x34_2 < (l0.length : Int) := of_decide_eq_true (by first | (with_reducible assumption) | assumption)
                    obtain ⟨ad335, e335, hx335_0⟩ := Kd.at_int HR0.out x34_2 p335 q335
                    cases e335
                    replace hx335_0 := (HB.out.cell (World.block_lt_of_cell? w _ hx335_0)).trans hx335_0
                    replace p335 := eq_true p335
                    replace q335 := eq_true q335
                    have hnb24 := NB331_332.out
                    have hnc24 := NB332_331.out
                    have hcz25_0 : wr.cell? ⟨gb331, 0, none⟩ = some (.int .i64 a1_0) := (blk_cell BK331.out 0).trans rfl
                    have hcz25_1 : wr.cell? ⟨gb331, 1, none⟩ = some (.int .i64 a1_1) := (blk_cell BK331.out 1).trans rfl
                    have hcz25_2 : wr.cell? ⟨gb331, 2, none⟩ = some (.int .i64 a1_2) := (blk_cell BK331.out 2).trans rfl
                    have hcz25_3 : wr.cell? ⟨gb331, 3, none⟩ = some (.int .i64 a1_3) := (blk_cell BK331.out 3).trans rfl
                    have hfz25_0 := blk_frozen BK331.out 0
                    have hfz25_1 := blk_frozen BK331.out 1
                    have hfz25_2 := blk_frozen BK331.out 2
                    have hfz25_3 := blk_frozen BK331.out 3
                    go_wp2_with (first | ((with_reducible refine gate_builtin (b := .append) (xs := #[.tmp 41, .tmp 46]) rfl ?_); (try (refine gate_guard (by rfl) ?_; dsimp only)); at_builtin; refine Kd.R_append k32 (w0 := w) w.heap.size rfl (.tmp 41) (.tmp 46) 25 32 (.agg #[(.int .i64 0), (.int .i64 0), (.int .i64 0), (.int .i64 0), (.int .i64 0)]) 40 rfl Try.underlying25 info32 rfl (by decide) (by omega) u13 x13_2 (⟨wrap64 (ji22), (⟨a1_0, a1_1, a1_2, a1_3⟩ : S27)⟩ : S32) [.int .i64 (wrap64 (ji22)), .int .i64 a1_0, .int .i64 a1_1, .int .i64 a1_2, .int .i64 a1_3] (fun _ => True) (fun _ => False) rfl rfl ?aP (fun _ hk => hk.elim) ?aF ?aO ?aB ?aS ?aL ?_; (case aP => exact k32_mkM _ _ _ (⟨wrap64 (ji22), (⟨a1_0, a1_1, a1_2, a1_3⟩ : S27)⟩ : S32)); (case aB => exact (by repeat (first | (with_reducible first | exact HB.out | apply below_alloc | apply pw_below_drewN | apply below_drew1 | refine below_set ?_ GE331.out | refine below_set ?_ GE332.out) | exact HB.out))); (case aF => exact (fun _ _ => trivial)); (case aO => exact (by (with_reducible repeat (first | apply Kd.R_alloc | apply Kd.R_drewN | apply Kd.R_drew)); exact HO_13.out)); (case aS => exact (below_size (by repeat (first | (with_reducible first | exact HB.out | apply below_alloc | apply pw_below_drewN | apply below_drew1 | refine below_set ?_ GE331.out | refine below_set ?_ GE332.out) | exact HB.out)))); (case aL => have := LMc23.out; omega); intro v337 w26 ho hb hg hat; rw [← Ny336.out] at ho; have n0_ := Aside0.mk (blk_grown (g := gb331) (o := .cells #[.int .i64 a1_0, .int .i64 a1_1, .int .i64 a1_2, .int .i64 a1_3] 27 (0, 0)) (by (with_reducible repeat (first | refine blk_drewN ?_ _ | refine blk_drew ?_ | refine blk_alloc ?_ _)); exact BK331.out) hg (Kd.R_ne HO_13.out BK331.out (by decide))); have n1_ := Aside0.mk (blk_grown (g := gb332) (o := .cells #[.int .i64 a5_0, .int .i64 a5_1] 36 (0, 0)) (by (with_reducible repeat (first | refine blk_drewN ?_ _ | refine blk_drew ?_ | refine blk_alloc ?_ _)); exact BK332.out) hg (Kd.R_ne HO_13.out BK332.out (by decide))); have n2_ := Aside0.mk (hb); have n3_ := Aside0.mk (ho); clear BK331; clear BK332; clear HB; clear HO_13; have BK331 := n0_; have BK332 := n1_; have HB := n2_; have HO338 := n3_; clear n0_ n1_ n2_ n3_; clear ho hb hg hat))
                    go_roundg k2
                    case measure => have := HJ6.out; have := HK2.out; omega
                    case rel => exact ⟨(y336), (ji22), (wrap64 (x34_2 + 1)), (by first | rfl | (simp; done) | (simp only [← hji22] <;> (first | rfl | simp)) | (simp [*]; done)), (by first | rfl | (simp; done) | (simp [*]; done)), H', ⟨by have := HJ6.out; have := HK2.out; omega⟩, ⟨by (with_reducible repeat (first | apply Kd.R_alloc | apply Kd.R_drewN | apply Kd.R_drew)); exact HO338.out⟩, ⟨by (with_reducible repeat (first | refine blk_drewN ?_ _ | refine blk_drew ?_ | refine blk_alloc ?_ _)); exact BK331.out⟩, ⟨by (with_reducible repeat (first | refine blk_drewN ?_ _ | refine blk_drew ?_ | refine blk_alloc ?_ _)); exact BK332.out⟩, ⟨by repeat (first | (with_reducible first | exact HB.out | apply below_alloc | apply pw_below_drewN | apply below_drew1 | refine below_set ?_ GE331.out | refine below_set ?_ GE332.out) | exact HB.out)⟩⟩
                  · rw [if_neg c23] at H
                    exact absurd H (by simp)
                · rw [if_neg c21] at H
                  exact absurd H (by simp)
              · rw [if_neg c20] at H
                exact absurd H (by simp)
            · rw [if_neg c19] at H
              have c19b0 : decide (x34_2 < (l0.length : Int)) = false := decide_eq_false c19
              clear c19
              by_cases c27 : a3 = true
              · subst c27
                have H1 : ((ramp_Color.f k2 x13_2 (wrap64 (a2))).bind fun bt340 => (if (bt340.1 == a1_0 && (bt340.2.1 == a1_1 && (bt340.2.2.1 == a1_2 && (bt340.2.2.2 == a1_3)))) = true then ((ramp_At.f k2 18 0 0 0 0 65536 0 0 65536 0 0 (wrap64 (Int.tmod a4 3)) x13_2 0 a5_0 a5_1).bind fun bt344 => (if (bt344.1 == a1_0 && (bt344.2.1 == a1_1 && (bt344.2.2.1 == a1_2 && (bt344.2.2.2 == a1_3)))) = true then ((celluloidlaw19_awake.f k2).bind fun t348 => (some t348)) else (some false))) else (some false))) = some r := by rw [if_pos rfl] at H; exact H
                clear H
                have H := H1
                clear H1
                replace H := Option.bind_eq_some_iff.mp H
                obtain ⟨⟨t340, t341, t342, t343⟩, A280, H⟩ := H
                replace H : (if (t340 == a1_0 && (t341 == a1_1 && (t342 == a1_2 && (t343 == a1_3)))) = true then ((ramp_At.f k2 18 0 0 0 0 65536 0 0 65536 0 0 (wrap64 (Int.tmod a4 3)) x13_2 0 a5_0 a5_1).bind fun bt344 => (if (bt344.1 == a1_0 && (bt344.2.1 == a1_1 && (bt344.2.2.1 == a1_2 && (bt344.2.2.2 == a1_3)))) = true then ((celluloidlaw19_awake.f k2).bind fun t348 => (some t348)) else (some false))) else (some false)) = some r := H
                have A28 := Aside0.mk A280
                clear A280
                by_cases c29 : (t340 == a1_0 && (t341 == a1_1 && (t342 == a1_2 && (t343 == a1_3)))) = true
                · rw [if_pos c29] at H
                  have c29b0 : (t340 == a1_0 && (t341 == a1_1 && (t342 == a1_2 && (t343 == a1_3)))) = true := c29
                  (try (have c29b1 : decide (t340 = a1_0 && (t341 == a1_1 && (t342 == a1_2 && (t343 == a1_3)))) = true := by simpa using c29))
                  (try (have c29b2 : (t340 == a1_0 && (t341 == a1_1 && (t342 == a1_2 && (t343 == a1_3)))) = true := by simpa using c29))
                  clear c29
                  replace H := Option.bind_eq_some_iff.mp H
                  obtain ⟨⟨t344, t345, t346, t347⟩, A300, H⟩ := H
                  replace H : (if (t344 == a1_0 && (t345 == a1_1 && (t346 == a1_2 && (t347 == a1_3)))) = true then ((celluloidlaw19_awake.f k2).bind fun t348 => (some t348)) else (some false)) = some r := H
                  have A30 := Aside0.mk A300
                  clear A300
                  by_cases c31 : (t344 == a1_0 && (t345 == a1_1 && (t346 == a1_2 && (t347 == a1_3)))) = true
                  · rw [if_pos c31] at H
                    have c31b0 : (t344 == a1_0 && (t345 == a1_1 && (t346 == a1_2 && (t347 == a1_3)))) = true := c31
                    (try (have c31b1 : decide (t344 = a1_0 && (t345 == a1_1 && (t346 == a1_2 && (t347 == a1_3)))) = true := by simpa using c31))
                    (try (have c31b2 : (t344 == a1_0 && (t345 == a1_1 && (t346 == a1_2 && (t347 == a1_3)))) = true := by simpa using c31))
                    clear c31
                    replace H := Option.bind_eq_some_iff.mp H
                    obtain ⟨t348, A320, H⟩ := H
                    replace H : (some t348) = some r := H
                    have A32 := Aside0.mk A320
                    clear A320
                    obtain rfl := Option.some.inj H
                    obtain ⟨Ao33, co33, eo33⟩ := Kd.R_slice HO_13.out
                    subst eo33
                    try go_wp2_with (first | ((with_reducible refine gate_dst (N := 17) rfl ?_); (try (refine gate_guard (by rfl) ?_; dsimp only)); refine box_event ?hg (N := 17) ?hd (cs := #[.int .i64 0, .int .i64 0, .int .i64 0, .int .i64 0, .int .i64 0, .int .i64 0, .int .i64 0, .int .i64 0, .int .i64 0, .int .i64 0, .int .i64 0, .int .i64 0, .slice none 0 0, .int .i64 0]) (t := 43) ?hr ?_; (case hd => rfl); (case hg => rfl); (case hr => first | (go_simp; done) | (go_simp; rfl)); intro gb339 hg w34 hbox hb; have n0_ := Aside0.mk (Kd.R_below (by (with_reducible repeat (first | apply Kd.R_alloc | apply Kd.R_drewN | apply Kd.R_drew)); exact HO_13.out) hb); have n1_ := Aside0.mk (blk_below (g := gb331) (o := .cells #[.int .i64 a1_0, .int .i64 a1_1, .int .i64 a1_2, .int .i64 a1_3] 27 (0, 0)) (by (with_reducible repeat (first | refine blk_drewN ?_ _ | refine blk_drew ?_ | refine blk_alloc ?_ _)); exact BK331.out) hb); have n2_ := Aside0.mk (blk_below (g := gb332) (o := .cells #[.int .i64 a5_0, .int .i64 a5_1] 36 (0, 0)) (by (with_reducible repeat (first | refine blk_drewN ?_ _ | refine blk_drew ?_ | refine blk_alloc ?_ _)); exact BK332.out) hb); have n3_ := Aside0.mk (below_step (by repeat (first | (with_reducible first | exact HB.out | apply below_alloc | apply pw_below_drewN | apply below_drew1 | refine below_set ?_ GE331.out | refine below_set ?_ GE332.out) | exact HB.out)) hb); have n4_ := Aside0.mk (hbox); have n5_ := Aside0.mk ((by rw [hg]; exact (below_size (by repeat (first | (with_reducible first | exact HB.out | apply below_alloc | apply pw_below_drewN | apply below_drew1 | refine below_set ?_ GE331.out | refine below_set ?_ GE332.out) | exact HB.out))) : w.heap.size ≤ gb339)); have n6_ := Aside0.mk ((by rw [hg]; exact (below_size (by repeat (first | (with_reducible first | exact HB.out | apply below_alloc | apply pw_below_drewN | apply below_drew1 | refine below_set ?_ GE331.out | refine below_set ?_ GE332.out) | exact HB.out))) : w.heap.size ≤ gb339)); have n7_ := Aside0.mk ((by rw [hg]; exact Nat.ne_of_lt (blk_lt (g := gb331) (o := .cells #[.int .i64 a1_0, .int .i64 a1_1, .int .i64 a1_2, .int .i64 a1_3] 27 (0, 0)) (by (with_reducible repeat (first | refine blk_drewN ?_ _ | refine blk_drew ?_ | refine blk_alloc ?_ _)); exact BK331.out)) : gb331 ≠ gb339)); have n8_ := Aside0.mk ((by rw [hg]; exact Nat.ne_of_gt (blk_lt (g := gb331) (o := .cells #[.int .i64 a1_0, .int .i64 a1_1, .int .i64 a1_2, .int .i64 a1_3] 27 (0, 0)) (by (with_reducible repeat (first | refine blk_drewN ?_ _ | refine blk_drew ?_ | refine blk_alloc ?_ _)); exact BK331.out)) : gb339 ≠ gb331)); have n9_ := Aside0.mk ((by rw [hg]; exact Nat.ne_of_lt (blk_lt (g := gb332) (o := .cells #[.int .i64 a5_0, .int .i64 a5_1] 36 (0, 0)) (by (with_reducible repeat (first | refine blk_drewN ?_ _ | refine blk_drew ?_ | refine blk_alloc ?_ _)); exact BK332.out)) : gb332 ≠ gb339)); have n10_ := Aside0.mk ((by rw [hg]; exact Nat.ne_of_gt (blk_lt (g := gb332) (o := .cells #[.int .i64 a5_0, .int .i64 a5_1] 36 (0, 0)) (by (with_reducible repeat (first | refine blk_drewN ?_ _ | refine blk_drew ?_ | refine blk_alloc ?_ _)); exact BK332.out)) : gb339 ≠ gb332)); clear HO_13; clear BK331; clear BK332; clear HB; have HO_13 := n0_; have BK331 := n1_; have BK332 := n2_; have HB := n3_; have BK339 := n4_; have GW339 := n5_; have GE339 := n6_; have NB331_339 := n7_; have NB339_331 := n8_; have NB332_339 := n9_; have NB339_332 := n10_; clear n0_ n1_ n2_ n3_ n4_ n5_ n6_ n7_ n8_ n9_ n10_; clear hb hbox hg; have hnb35 := NB339_331.out; have hnc35 := NB331_339.out; have hnb36 := NB339_332.out; have hnc36 := NB332_339.out; have hcz37_0 : w34.cell? ⟨gb339, 0, none⟩ = some (.int .i64 0) := (blk_cell BK339.out 0).trans rfl; have hcz37_1 : w34.cell? ⟨gb339, 1, none⟩ = some (.int .i64 0) := (blk_cell BK339.out 1).trans rfl; have hcz37_2 : w34.cell? ⟨gb339, 2, none⟩ = some (.int .i64 0) := (blk_cell BK339.out 2).trans rfl; have hcz37_3 : w34.cell? ⟨gb339, 3, none⟩ = some (.int .i64 0) := (blk_cell BK339.out 3).trans rfl; have hcz37_4 : w34.cell? ⟨gb339, 4, none⟩ = some (.int .i64 0) := (blk_cell BK339.out 4).trans rfl; have hcz37_5 : w34.cell? ⟨gb339, 5, none⟩ = some (.int .i64 0) := (blk_cell BK339.out 5).trans rfl; have hcz37_6 : w34.cell? ⟨gb339, 6, none⟩ = some (.int .i64 0) := (blk_cell BK339.out 6).trans rfl; have hcz37_7 : w34.cell? ⟨gb339, 7, none⟩ = some (.int .i64 0) := (blk_cell BK339.out 7).trans rfl; have hcz37_8 : w34.cell? ⟨gb339, 8, none⟩ = some (.int .i64 0) := (blk_cell BK339.out 8).trans rfl; have hcz37_9 : w34.cell? ⟨gb339, 9, none⟩ = some (.int .i64 0) := (blk_cell BK339.out 9).trans rfl; have hcz37_10 : w34.cell? ⟨gb339, 10, none⟩ = some (.int .i64 0) := (blk_cell BK339.out 10).trans rfl; have hcz37_11 : w34.cell? ⟨gb339, 11, none⟩ = some (.int .i64 0) := (blk_cell BK339.out 11).trans rfl; have hcz37_12 : w34.cell? ⟨gb339, 12, none⟩ = some (.slice none 0 0) := (blk_cell BK339.out 12).trans rfl; have hcz37_13 : w34.cell? ⟨gb339, 13, none⟩ = some (.int .i64 0) := (blk_cell BK339.out 13).trans rfl; have hfz37_0 := blk_frozen BK339.out 0; have hfz37_1 := blk_frozen BK339.out 1; have hfz37_2 := blk_frozen BK339.out 2; have hfz37_3 := blk_frozen BK339.out 3; have hfz37_4 := blk_frozen BK339.out 4; have hfz37_5 := blk_frozen BK339.out 5; have hfz37_6 := blk_frozen BK339.out 6; have hfz37_7 := blk_frozen BK339.out 7; have hfz37_8 := blk_frozen BK339.out 8; have hfz37_9 := blk_frozen BK339.out 9; have hfz37_10 := blk_frozen BK339.out 10; have hfz37_11 := blk_frozen BK339.out 11; have hfz37_12 := blk_frozen BK339.out 12; have hfz37_13 := blk_frozen BK339.out 13))
                    have n0_ : Aside0 (Kd.R k32 32 (((((((((((((((w34.setCell ⟨gb339, 0, none⟩ (.int .i64 16)).setCell ⟨gb339, 1, none⟩ (.int .i64 0)).setCell ⟨gb339, 2, none⟩ (.int .i64 0)).setCell ⟨gb339, 3, none⟩ (.int .i64 0)).setCell ⟨gb339, 4, none⟩ (.int .i64 0)).setCell ⟨gb339, 5, none⟩ (.int .i64 65536)).setCell ⟨gb339, 6, none⟩ (.int .i64 0)).setCell ⟨gb339, 7, none⟩ (.int .i64 0)).setCell ⟨gb339, 8, none⟩ (.int .i64 65536)).setCell ⟨gb339, 9, none⟩ (.int .i64 0)).setCell ⟨gb339, 10, none⟩ (.int .i64 0)).setCell ⟨gb339, 11, none⟩ (.int .i64 (wrap64 (Int.tmod a4 3)))).setCell ⟨gb339, 12, none⟩ (.slice Ao33 x13_2.length co33)).setCell ⟨gb339, 13, none⟩ (.int .i64 0)).setCell ⟨gb339, 0, none⟩ (.int .i64 18)) w.heap.size (fun _ => True) (.slice Ao33 x13_2.length co33) x13_2) := ⟨by (with_reducible repeat (first | apply Kd.R_alloc | apply Kd.R_drewN | apply Kd.R_drew)); exact Kd.R_mono (Kd.R_far (p := ⟨gb339, 0, none⟩) (Kd.R_far (p := ⟨gb339, 13, none⟩) (Kd.R_far (p := ⟨gb339, 12, none⟩) (Kd.R_far (p := ⟨gb339, 11, none⟩) (Kd.R_far (p := ⟨gb339, 10, none⟩) (Kd.R_far (p := ⟨gb339, 9, none⟩) (Kd.R_far (p := ⟨gb339, 8, none⟩) (Kd.R_far (p := ⟨gb339, 7, none⟩) (Kd.R_far (p := ⟨gb339, 6, none⟩) (Kd.R_far (p := ⟨gb339, 5, none⟩) (Kd.R_far (p := ⟨gb339, 4, none⟩) (Kd.R_far (p := ⟨gb339, 3, none⟩) (Kd.R_far (p := ⟨gb339, 2, none⟩) (Kd.R_far (p := ⟨gb339, 1, none⟩) (Kd.R_far (p := ⟨gb339, 0, none⟩) (Kd.R_types HO_13.out BK339.out (by decide)) (fun _ hk => hk.2) (.int .i64 16)) (fun _ hk => hk.2) (.int .i64 0)) (fun _ hk => hk.2) (.int .i64 0)) (fun _ hk => hk.2) (.int .i64 0)) (fun _ hk => hk.2) (.int .i64 0)) (fun _ hk => hk.2) (.int .i64 65536)) (fun _ hk => hk.2) (.int .i64 0)) (fun _ hk => hk.2) (.int .i64 0)) (fun _ hk => hk.2) (.int .i64 65536)) (fun _ hk => hk.2) (.int .i64 0)) (fun _ hk => hk.2) (.int .i64 0)) (fun _ hk => hk.2) (.int .i64 (wrap64 (Int.tmod a4 3)))) (fun _ hk => hk.2) (.slice Ao33 x13_2.length co33)) (fun _ hk => hk.2) (.int .i64 0)) (fun _ hk => hk.2) (.int .i64 18)) (fun _ hk => trivial)⟩
                    have n1_ : Aside0 ((((((((((((((((w34.setCell ⟨gb339, 0, none⟩ (.int .i64 16)).setCell ⟨gb339, 1, none⟩ (.int .i64 0)).setCell ⟨gb339, 2, none⟩ (.int .i64 0)).setCell ⟨gb339, 3, none⟩ (.int .i64 0)).setCell ⟨gb339, 4, none⟩ (.int .i64 0)).setCell ⟨gb339, 5, none⟩ (.int .i64 65536)).setCell ⟨gb339, 6, none⟩ (.int .i64 0)).setCell ⟨gb339, 7, none⟩ (.int .i64 0)).setCell ⟨gb339, 8, none⟩ (.int .i64 65536)).setCell ⟨gb339, 9, none⟩ (.int .i64 0)).setCell ⟨gb339, 10, none⟩ (.int .i64 0)).setCell ⟨gb339, 11, none⟩ (.int .i64 (wrap64 (Int.tmod a4 3)))).setCell ⟨gb339, 12, none⟩ (.slice Ao33 x13_2.length co33)).setCell ⟨gb339, 13, none⟩ (.int .i64 0)).setCell ⟨gb339, 0, none⟩ (.int .i64 18)).heap[gb331]? = some (.cells #[.int .i64 a1_0, .int .i64 a1_1, .int .i64 a1_2, .int .i64 a1_3] 27 (0, 0))) := ⟨by (with_reducible repeat (first | refine blk_drewN ?_ _ | refine blk_drew ?_ | refine blk_alloc ?_ _)); refine blk_far ?_ NB331_339.out _; (with_reducible repeat (first | refine blk_drewN ?_ _ | refine blk_drew ?_ | refine blk_alloc ?_ _)); refine blk_far ?_ NB331_339.out _; (with_reducible repeat (first | refine blk_drewN ?_ _ | refine blk_drew ?_ | refine blk_alloc ?_ _)); refine blk_far ?_ NB331_339.out _; (with_reducible repeat (first | refine blk_drewN ?_ _ | refine blk_drew ?_ | refine blk_alloc ?_ _)); refine blk_far ?_ NB331_339.out _; (with_reducible repeat (first | refine blk_drewN ?_ _ | refine blk_drew ?_ | refine blk_alloc ?_ _)); refine blk_far ?_ NB331_339.out _; (with_reducible repeat (first | refine blk_drewN ?_ _ | refine blk_drew ?_ | refine blk_alloc ?_ _)); refine blk_far ?_ NB331_339.out _; (with_reducible repeat (first | refine blk_drewN ?_ _ | refine blk_drew ?_ | refine blk_alloc ?_ _)); refine blk_far ?_ NB331_339.out _; (with_reducible repeat (first | refine blk_drewN ?_ _ | refine blk_drew ?_ | refine blk_alloc ?_ _)); refine blk_far ?_ NB331_339.out _; (with_reducible repeat (first | refine blk_drewN ?_ _ | refine blk_drew ?_ | refine blk_alloc ?_ _)); refine blk_far ?_ NB331_339.out _; (with_reducible repeat (first | refine blk_drewN ?_ _ | refine blk_drew ?_ | refine blk_alloc ?_ _)); refine blk_far ?_ NB331_339.out _; (with_reducible repeat (first | refine blk_drewN ?_ _ | refine blk_drew ?_ | refine blk_alloc ?_ _)); refine blk_far ?_ NB331_339.out _; (with_reducible repeat (first | refine blk_drewN ?_ _ | refine blk_drew ?_ | refine blk_alloc ?_ _)); refine blk_far ?_ NB331_339.out _; (with_reducible repeat (first | refine blk_drewN ?_ _ | refine blk_drew ?_ | refine blk_alloc ?_ _)); refine blk_far ?_ NB331_339.out _; (with_reducible repeat (first | refine blk_drewN ?_ _ | refine blk_drew ?_ | refine blk_alloc ?_ _)); refine blk_far ?_ NB331_339.out _; (with_reducible repeat (first | refine blk_drewN ?_ _ | refine blk_drew ?_ | refine blk_alloc ?_ _)); refine blk_far ?_ NB331_339.out _; (with_reducible repeat (first | refine blk_drewN ?_ _ | refine blk_drew ?_ | refine blk_alloc ?_ _)); exact BK331.out⟩
                    have n2_ : Aside0 ((((((((((((((((w34.setCell ⟨gb339, 0, none⟩ (.int .i64 16)).setCell ⟨gb339, 1, none⟩ (.int .i64 0)).setCell ⟨gb339, 2, none⟩ (.int .i64 0)).setCell ⟨gb339, 3, none⟩ (.int .i64 0)).setCell ⟨gb339, 4, none⟩ (.int .i64 0)).setCell ⟨gb339, 5, none⟩ (.int .i64 65536)).setCell ⟨gb339, 6, none⟩ (.int .i64 0)).setCell ⟨gb339, 7, none⟩ (.int .i64 0)).setCell ⟨gb339, 8, none⟩ (.int .i64 65536)).setCell ⟨gb339, 9, none⟩ (.int .i64 0)).setCell ⟨gb339, 10, none⟩ (.int .i64 0)).setCell ⟨gb339, 11, none⟩ (.int .i64 (wrap64 (Int.tmod a4 3)))).setCell ⟨gb339, 12, none⟩ (.slice Ao33 x13_2.length co33)).setCell ⟨gb339, 13, none⟩ (.int .i64 0)).setCell ⟨gb339, 0, none⟩ (.int .i64 18)).heap[gb332]? = some (.cells #[.int .i64 a5_0, .int .i64 a5_1] 36 (0, 0))) := ⟨by (with_reducible repeat (first | refine blk_drewN ?_ _ | refine blk_drew ?_ | refine blk_alloc ?_ _)); refine blk_far ?_ NB332_339.out _; (with_reducible repeat (first | refine blk_drewN ?_ _ | refine blk_drew ?_ | refine blk_alloc ?_ _)); refine blk_far ?_ NB332_339.out _; (with_reducible repeat (first | refine blk_drewN ?_ _ | refine blk_drew ?_ | refine blk_alloc ?_ _)); refine blk_far ?_ NB332_339.out _; (with_reducible repeat (first | refine blk_drewN ?_ _ | refine blk_drew ?_ | refine blk_alloc ?_ _)); refine blk_far ?_ NB332_339.out _; (with_reducible repeat (first | refine blk_drewN ?_ _ | refine blk_drew ?_ | refine blk_alloc ?_ _)); refine blk_far ?_ NB332_339.out _; (with_reducible repeat (first | refine blk_drewN ?_ _ | refine blk_drew ?_ | refine blk_alloc ?_ _)); refine blk_far ?_ NB332_339.out _; (with_reducible repeat (first | refine blk_drewN ?_ _ | refine blk_drew ?_ | refine blk_alloc ?_ _)); refine blk_far ?_ NB332_339.out _; (with_reducible repeat (first | refine blk_drewN ?_ _ | refine blk_drew ?_ | refine blk_alloc ?_ _)); refine blk_far ?_ NB332_339.out _; (with_reducible repeat (first | refine blk_drewN ?_ _ | refine blk_drew ?_ | refine blk_alloc ?_ _)); refine blk_far ?_ NB332_339.out _; (with_reducible repeat (first | refine blk_drewN ?_ _ | refine blk_drew ?_ | refine blk_alloc ?_ _)); refine blk_far ?_ NB332_339.out _; (with_reducible repeat (first | refine blk_drewN ?_ _ | refine blk_drew ?_ | refine blk_alloc ?_ _)); refine blk_far ?_ NB332_339.out _; (with_reducible repeat (first | refine blk_drewN ?_ _ | refine blk_drew ?_ | refine blk_alloc ?_ _)); refine blk_far ?_ NB332_339.out _; (with_reducible repeat (first | refine blk_drewN ?_ _ | refine blk_drew ?_ | refine blk_alloc ?_ _)); refine blk_far ?_ NB332_339.out _; (with_reducible repeat (first | refine blk_drewN ?_ _ | refine blk_drew ?_ | refine blk_alloc ?_ _)); refine blk_far ?_ NB332_339.out _; (with_reducible repeat (first | refine blk_drewN ?_ _ | refine blk_drew ?_ | refine blk_alloc ?_ _)); refine blk_far ?_ NB332_339.out _; (with_reducible repeat (first | refine blk_drewN ?_ _ | refine blk_drew ?_ | refine blk_alloc ?_ _)); exact BK332.out⟩
                    have n3_ : Aside0 ((((((((((((((((w34.setCell ⟨gb339, 0, none⟩ (.int .i64 16)).setCell ⟨gb339, 1, none⟩ (.int .i64 0)).setCell ⟨gb339, 2, none⟩ (.int .i64 0)).setCell ⟨gb339, 3, none⟩ (.int .i64 0)).setCell ⟨gb339, 4, none⟩ (.int .i64 0)).setCell ⟨gb339, 5, none⟩ (.int .i64 65536)).setCell ⟨gb339, 6, none⟩ (.int .i64 0)).setCell ⟨gb339, 7, none⟩ (.int .i64 0)).setCell ⟨gb339, 8, none⟩ (.int .i64 65536)).setCell ⟨gb339, 9, none⟩ (.int .i64 0)).setCell ⟨gb339, 10, none⟩ (.int .i64 0)).setCell ⟨gb339, 11, none⟩ (.int .i64 (wrap64 (Int.tmod a4 3)))).setCell ⟨gb339, 12, none⟩ (.slice Ao33 x13_2.length co33)).setCell ⟨gb339, 13, none⟩ (.int .i64 0)).setCell ⟨gb339, 0, none⟩ (.int .i64 18)).heap[gb339]? = some (.cells #[.int .i64 18, .int .i64 0, .int .i64 0, .int .i64 0, .int .i64 0, .int .i64 65536, .int .i64 0, .int .i64 0, .int .i64 65536, .int .i64 0, .int .i64 0, .int .i64 (wrap64 (Int.tmod a4 3)), .slice Ao33 x13_2.length co33, .int .i64 0] 43 (0, 0))) := ⟨by (with_reducible repeat (first | refine blk_drewN ?_ _ | refine blk_drew ?_ | refine blk_alloc ?_ _)); refine blk_put (cs := #[.int .i64 16, .int .i64 0, .int .i64 0, .int .i64 0, .int .i64 0, .int .i64 65536, .int .i64 0, .int .i64 0, .int .i64 65536, .int .i64 0, .int .i64 0, .int .i64 (wrap64 (Int.tmod a4 3)), .slice Ao33 x13_2.length co33, .int .i64 0]) ?_ 0 _ rfl; (with_reducible repeat (first | refine blk_drewN ?_ _ | refine blk_drew ?_ | refine blk_alloc ?_ _)); refine blk_put (cs := #[.int .i64 16, .int .i64 0, .int .i64 0, .int .i64 0, .int .i64 0, .int .i64 65536, .int .i64 0, .int .i64 0, .int .i64 65536, .int .i64 0, .int .i64 0, .int .i64 (wrap64 (Int.tmod a4 3)), .slice Ao33 x13_2.length co33, .int .i64 0]) ?_ 13 _ rfl; (with_reducible repeat (first | refine blk_drewN ?_ _ | refine blk_drew ?_ | refine blk_alloc ?_ _)); refine blk_put (cs := #[.int .i64 16, .int .i64 0, .int .i64 0, .int .i64 0, .int .i64 0, .int .i64 65536, .int .i64 0, .int .i64 0, .int .i64 65536, .int .i64 0, .int .i64 0, .int .i64 (wrap64 (Int.tmod a4 3)), .slice none 0 0, .int .i64 0]) ?_ 12 _ rfl; (with_reducible repeat (first | refine blk_drewN ?_ _ | refine blk_drew ?_ | refine blk_alloc ?_ _)); refine blk_put (cs := #[.int .i64 16, .int .i64 0, .int .i64 0, .int .i64 0, .int .i64 0, .int .i64 65536, .int .i64 0, .int .i64 0, .int .i64 65536, .int .i64 0, .int .i64 0, .int .i64 0, .slice none 0 0, .int .i64 0]) ?_ 11 _ rfl; (with_reducible repeat (first | refine blk_drewN ?_ _ | refine blk_drew ?_ | refine blk_alloc ?_ _)); refine blk_put (cs := #[.int .i64 16, .int .i64 0, .int .i64 0, .int .i64 0, .int .i64 0, .int .i64 65536, .int .i64 0, .int .i64 0, .int .i64 65536, .int .i64 0, .int .i64 0, .int .i64 0, .slice none 0 0, .int .i64 0]) ?_ 10 _ rfl; (with_reducible repeat (first | refine blk_drewN ?_ _ | refine blk_drew ?_ | refine blk_alloc ?_ _)); refine blk_put (cs := #[.int .i64 16, .int .i64 0, .int .i64 0, .int .i64 0, .int .i64 0, .int .i64 65536, .int .i64 0, .int .i64 0, .int .i64 65536, .int .i64 0, .int .i64 0, .int .i64 0, .slice none 0 0, .int .i64 0]) ?_ 9 _ rfl; (with_reducible repeat (first | refine blk_drewN ?_ _ | refine blk_drew ?_ | refine blk_alloc ?_ _)); refine blk_put (cs := #[.int .i64 16, .int .i64 0, .int .i64 0, .int .i64 0, .int .i64 0, .int .i64 65536, .int .i64 0, .int .i64 0, .int .i64 0, .int .i64 0, .int .i64 0, .int .i64 0, .slice none 0 0, .int .i64 0]) ?_ 8 _ rfl; (with_reducible repeat (first | refine blk_drewN ?_ _ | refine blk_drew ?_ | refine blk_alloc ?_ _)); refine blk_put (cs := #[.int .i64 16, .int .i64 0, .int .i64 0, .int .i64 0, .int .i64 0, .int .i64 65536, .int .i64 0, .int .i64 0, .int .i64 0, .int .i64 0, .int .i64 0, .int .i64 0, .slice none 0 0, .int .i64 0]) ?_ 7 _ rfl; (with_reducible repeat (first | refine blk_drewN ?_ _ | refine blk_drew ?_ | refine blk_alloc ?_ _)); refine blk_put (cs := #[.int .i64 16, .int .i64 0, .int .i64 0, .int .i64 0, .int .i64 0, .int .i64 65536, .int .i64 0, .int .i64 0, .int .i64 0, .int .i64 0, .int .i64 0, .int .i64 0, .slice none 0 0, .int .i64 0]) ?_ 6 _ rfl; (with_reducible repeat (first | refine blk_drewN ?_ _ | refine blk_drew ?_ | refine blk_alloc ?_ _)); refine blk_put (cs := #[.int .i64 16, .int .i64 0, .int .i64 0, .int .i64 0, .int .i64 0, .int .i64 0, .int .i64 0, .int .i64 0, .int .i64 0, .int .i64 0, .int .i64 0, .int .i64 0, .slice none 0 0, .int .i64 0]) ?_ 5 _ rfl; (with_reducible repeat (first | refine blk_drewN ?_ _ | refine blk_drew ?_ | refine blk_alloc ?_ _)); refine blk_put (cs := #[.int .i64 16, .int .i64 0, .int .i64 0, .int .i64 0, .int .i64 0, .int .i64 0, .int .i64 0, .int .i64 0, .int .i64 0, .int .i64 0, .int .i64 0, .int .i64 0, .slice none 0 0, .int .i64 0]) ?_ 4 _ rfl; (with_reducible repeat (first | refine blk_drewN ?_ _ | refine blk_drew ?_ | refine blk_alloc ?_ _)); refine blk_put (cs := #[.int .i64 16, .int .i64 0, .int .i64 0, .int .i64 0, .int .i64 0, .int .i64 0, .int .i64 0, .int .i64 0, .int .i64 0, .int .i64 0, .int .i64 0, .int .i64 0, .slice none 0 0, .int .i64 0]) ?_ 3 _ rfl; (with_reducible repeat (first | refine blk_drewN ?_ _ | refine blk_drew ?_ | refine blk_alloc ?_ _)); refine blk_put (cs := #[.int .i64 16, .int .i64 0, .int .i64 0, .int .i64 0, .int .i64 0, .int .i64 0, .int .i64 0, .int .i64 0, .int .i64 0, .int .i64 0, .int .i64 0, .int .i64 0, .slice none 0 0, .int .i64 0]) ?_ 2 _ rfl; (with_reducible repeat (first | refine blk_drewN ?_ _ | refine blk_drew ?_ | refine blk_alloc ?_ _)); refine blk_put (cs := #[.int .i64 16, .int .i64 0, .int .i64 0, .int .i64 0, .int .i64 0, .int .i64 0, .int .i64 0, .int .i64 0, .int .i64 0, .int .i64 0, .int .i64 0, .int .i64 0, .slice none 0 0, .int .i64 0]) ?_ 1 _ rfl; (with_reducible repeat (first | refine blk_drewN ?_ _ | refine blk_drew ?_ | refine blk_alloc ?_ _)); refine blk_put (cs := #[.int .i64 0, .int .i64 0, .int .i64 0, .int .i64 0, .int .i64 0, .int .i64 0, .int .i64 0, .int .i64 0, .int .i64 0, .int .i64 0, .int .i64 0, .int .i64 0, .slice none 0 0, .int .i64 0]) ?_ 0 _ rfl; (with_reducible repeat (first | refine blk_drewN ?_ _ | refine blk_drew ?_ | refine blk_alloc ?_ _)); exact BK339.out⟩
                    have n4_ : Aside0 (Below w.heap.size w (((((((((((((((w34.setCell ⟨gb339, 0, none⟩ (.int .i64 16)).setCell ⟨gb339, 1, none⟩ (.int .i64 0)).setCell ⟨gb339, 2, none⟩ (.int .i64 0)).setCell ⟨gb339, 3, none⟩ (.int .i64 0)).setCell ⟨gb339, 4, none⟩ (.int .i64 0)).setCell ⟨gb339, 5, none⟩ (.int .i64 65536)).setCell ⟨gb339, 6, none⟩ (.int .i64 0)).setCell ⟨gb339, 7, none⟩ (.int .i64 0)).setCell ⟨gb339, 8, none⟩ (.int .i64 65536)).setCell ⟨gb339, 9, none⟩ (.int .i64 0)).setCell ⟨gb339, 10, none⟩ (.int .i64 0)).setCell ⟨gb339, 11, none⟩ (.int .i64 (wrap64 (Int.tmod a4 3)))).setCell ⟨gb339, 12, none⟩ (.slice Ao33 x13_2.length co33)).setCell ⟨gb339, 13, none⟩ (.int .i64 0)).setCell ⟨gb339, 0, none⟩ (.int .i64 18))) := ⟨by repeat (first | (with_reducible first | exact HB.out | apply below_alloc | apply pw_below_drewN | apply below_drew1 | refine below_set ?_ GE331.out | refine below_set ?_ GE332.out | refine below_set ?_ GE339.out) | exact HB.out)⟩
                    (try clear HO_13)
                    (try clear BK331)
                    (try clear BK332)
                    (try clear BK339)
                    (try clear HB)
                    generalize (((((((((((((((w34.setCell ⟨gb339, 0, none⟩ (.int .i64 16)).setCell ⟨gb339, 1, none⟩ (.int .i64 0)).setCell ⟨gb339, 2, none⟩ (.int .i64 0)).setCell ⟨gb339, 3, none⟩ (.int .i64 0)).setCell ⟨gb339, 4, none⟩ (.int .i64 0)).setCell ⟨gb339, 5, none⟩ (.int .i64 65536)).setCell ⟨gb339, 6, none⟩ (.int .i64 0)).setCell ⟨gb339, 7, none⟩ (.int .i64 0)).setCell ⟨gb339, 8, none⟩ (.int .i64 65536)).setCell ⟨gb339, 9, none⟩ (.int .i64 0)).setCell ⟨gb339, 10, none⟩ (.int .i64 0)).setCell ⟨gb339, 11, none⟩ (.int .i64 (wrap64 (Int.tmod a4 3)))).setCell ⟨gb339, 12, none⟩ (.slice Ao33 x13_2.length co33)).setCell ⟨gb339, 13, none⟩ (.int .i64 0)).setCell ⟨gb339, 0, none⟩ (.int .i64 18)) = w38 at n0_ n1_ n2_ n3_ n4_ ⊢
                    have HO_13 := n0_
                    have BK331 := n1_
                    have BK332 := n2_
                    have BK339 := n3_
                    have HB := n4_
                    clear n0_ n1_ n2_ n3_ n4_
                    have n0_ := Aside0.mk (Kd.R_drew HO_13.out)
                    have n1_ := Aside0.mk (blk_drew BK331.out)
                    have n2_ := Aside0.mk (blk_drew BK332.out)
                    have n3_ := Aside0.mk (blk_drew BK339.out)
                    have n4_ := Aside0.mk (below_drew1 HB.out)
                    clear HO_13
                    clear BK331
                    clear BK332
                    clear BK339
                    clear HB
                    have HO_13 := n0_
                    have BK331 := n1_
                    have BK332 := n2_
                    have BK339 := n3_
                    have HB := n4_
                    clear n0_ n1_ n2_ n3_ n4_
                    refine start_ (n := 17) (S := fun w' => w'.cell? ⟨gb331, 0, none⟩ = some (.int .i64 a1_0) ∧ w'.cell? ⟨gb331, 1, none⟩ = some (.int .i64 a1_1) ∧ w'.cell? ⟨gb331, 2, none⟩ = some (.int .i64 a1_2) ∧ w'.cell? ⟨gb331, 3, none⟩ = some (.int .i64 a1_3) ∧ w'.cell? ⟨gb339, 0, none⟩ = some (.int .i64 18) ∧ w'.cell? ⟨gb339, 1, none⟩ = some (.int .i64 0) ∧ w'.cell? ⟨gb339, 2, none⟩ = some (.int .i64 0) ∧ w'.cell? ⟨gb339, 3, none⟩ = some (.int .i64 0) ∧ w'.cell? ⟨gb339, 4, none⟩ = some (.int .i64 0) ∧ w'.cell? ⟨gb339, 5, none⟩ = some (.int .i64 65536) ∧ w'.cell? ⟨gb339, 6, none⟩ = some (.int .i64 0) ∧ w'.cell? ⟨gb339, 7, none⟩ = some (.int .i64 0) ∧ w'.cell? ⟨gb339, 8, none⟩ = some (.int .i64 65536) ∧ w'.cell? ⟨gb339, 9, none⟩ = some (.int .i64 0) ∧ w'.cell? ⟨gb339, 10, none⟩ = some (.int .i64 0) ∧ w'.cell? ⟨gb339, 11, none⟩ = some (.int .i64 (wrap64 (Int.tmod a4 3))) ∧ w'.cell? ⟨gb339, 12, none⟩ = some (.slice Ao33 x13_2.length co33) ∧ w'.cell? ⟨gb339, 13, none⟩ = some (.int .i64 0) ∧ w'.cell? ⟨gb332, 0, none⟩ = some (.int .i64 a5_0) ∧ w'.cell? ⟨gb332, 1, none⟩ = some (.int .i64 a5_1)) (ds := []) #[false, false, false, false, false, false, false, false, false, false, false, false, false, false, false, false, false] (by kernel_rfl) rfl rfl ⟨(blk_cell BK331.out 0).trans rfl, (blk_cell BK331.out 1).trans rfl, (blk_cell BK331.out 2).trans rfl, (blk_cell BK331.out 3).trans rfl, (blk_cell BK339.out 0).trans rfl, (blk_cell BK339.out 1).trans rfl, (blk_cell BK339.out 2).trans rfl, (blk_cell BK339.out 3).trans rfl, (blk_cell BK339.out 4).trans rfl, (blk_cell BK339.out 5).trans rfl, (blk_cell BK339.out 6).trans rfl, (blk_cell BK339.out 7).trans rfl, (blk_cell BK339.out 8).trans rfl, (blk_cell BK339.out 9).trans rfl, (blk_cell BK339.out 10).trans rfl, (blk_cell BK339.out 11).trans rfl, (blk_cell BK339.out 12).trans rfl, (blk_cell BK339.out 13).trans rfl, (blk_cell BK332.out 0).trans rfl, (blk_cell BK332.out 1).trans rfl⟩ (fun hHeld => ?_); refine with_tabW celluloidlaw19_RampSame.tab14 celluloidlaw19_RampSame.bits14 (fun HT_ HW_ => ?_)
                    generalize w38.drew = w39 at HO_13 BK331 BK332 BK339 HB hHeld ⊢
                    refine pure_ (i := 0) (N := some 57) (v := ?_) (a' := ?_) #[true, false, false, false, false, false, false, false, false, false, false, false, false, false, false, false, false] rfl rfl (any_of HT_.out (by kernel_rfl)) (fun _ _ _ h => h) (Or.inl ⟨by rfl, ?_⟩) ?_ ?_
                    rotate_left
                    · intro w'
                      go_simp
                      with_reducible rfl
                    rotate_left
                    · simp only [Act.put, List.setIfInBounds_toArray, List.set_cons_zero, List.set_cons_succ, i64_w, i32_w]
                      rfl
                    refine pure_ (i := 1) (N := some 58) (v := ?_) (a' := ?_) #[true, true, false, false, false, false, false, false, false, false, false, false, false, false, false, false, false] rfl rfl (any_of HT_.out (by kernel_rfl)) (fun _ _ _ h => h) (Or.inl ⟨by rfl, ?_⟩) ?_ ?_
                    rotate_left
                    · intro w'
                      go_simp
                      with_reducible rfl
                    rotate_left
                    · simp only [Act.put, List.setIfInBounds_toArray, List.set_cons_zero, List.set_cons_succ, i64_w, i32_w]
                      rfl
                    refine pure_ (i := 2) (N := some 59) (v := ?_) (a' := ?_) #[true, true, true, false, false, false, false, false, false, false, false, false, false, false, false, false, false] rfl rfl (any_of HT_.out (by kernel_rfl)) (fun _ _ _ h => h) (Or.inl ⟨by rfl, ?_⟩) ?_ ?_
                    rotate_left
                    · intro w'
                      go_simp
                      with_reducible rfl
                    rotate_left
                    · simp only [Act.put, List.setIfInBounds_toArray, List.set_cons_zero, List.set_cons_succ, i64_w, i32_w]
                      rfl
                    refine take_ (i := 4) (N := some 61) (v := ?_) (a' := ?_) #[true, true, true, false, true, false, false, false, false, false, false, false, false, false, false, false, false] rfl rfl (take_ofW HT_.out HW_.out (by kernel_rfl)) (fun _ _ _ h => h) (Or.inl ⟨by rfl, ?_⟩) hHeld ?_ ?_
                    rotate_left
                    · rintro w' ⟨s0, s1, s2, s3, s4, s5, s6, s7, s8, s9, s10, s11, s12, s13, s14, s15, s16, s17, s18, s19⟩
                      go_simp
                      with_reducible rfl
                    rotate_left
                    · simp only [Act.put, List.setIfInBounds_toArray, List.set_cons_zero, List.set_cons_succ, i64_w, i32_w]
                      rfl
                    refine one_ (i := 3) (N := some 60) #[true, true, true, true, true, false, false, false, false, false, false, false, false, false, false, false, false] rfl rfl (one_of HT_.out (by kernel_rfl)) (by decide) (fun K hK => ?_)
                    refine goes_ Try.func13 (by kernel_rfl) rfl #[.slice Ao33 x13_2.length co33, .int .i64 (wrap64 (a2))] (by rfl) rfl rfl (by (try simp only [List.map_toArray, List.map_cons, List.map_nil]); first | done | rfl | (simp only [List.length_drop, List.length_take]; rfl)) ?_
                    with_reducible refine (ramp_Color.calls k2 _ _ x13_2 (wrap64 (a2)) t340 t341 t342 t343 _ ?side1 ?side2 A28.out).mono ?_
                    (case side1 => repeat (first | exact (Kd.R_reads' HO_13.out).2.2 | (with_reducible refine Kd.C_alloc ?_ _) | (with_reducible refine Kd.C_drewN ?_ _) | (with_reducible refine Kd.C_drew ?_)))
                    (case side2 => exact (Kd.R_reads' HO_13.out).2.1)
                    rintro e w40 ⟨rfl, hb⟩
                    refine ⟨_, rfl, ?_⟩
                    have n0_ := Aside0.mk (Kd.R_below (by (with_reducible repeat (first | apply Kd.R_alloc | apply Kd.R_drewN | apply Kd.R_drew)); exact HO_13.out) hb)
                    have n1_ := Aside0.mk (blk_below (g := gb331) (o := .cells #[.int .i64 a1_0, .int .i64 a1_1, .int .i64 a1_2, .int .i64 a1_3] 27 (0, 0)) (by (with_reducible repeat (first | refine blk_drewN ?_ _ | refine blk_drew ?_ | refine blk_alloc ?_ _)); exact BK331.out) hb)
                    have n2_ := Aside0.mk (blk_below (g := gb332) (o := .cells #[.int .i64 a5_0, .int .i64 a5_1] 36 (0, 0)) (by (with_reducible repeat (first | refine blk_drewN ?_ _ | refine blk_drew ?_ | refine blk_alloc ?_ _)); exact BK332.out) hb)
                    have n3_ := Aside0.mk (blk_below (g := gb339) (o := .cells #[.int .i64 18, .int .i64 0, .int .i64 0, .int .i64 0, .int .i64 0, .int .i64 65536, .int .i64 0, .int .i64 0, .int .i64 65536, .int .i64 0, .int .i64 0, .int .i64 (wrap64 (Int.tmod a4 3)), .slice Ao33 x13_2.length co33, .int .i64 0] 43 (0, 0)) (by (with_reducible repeat (first | refine blk_drewN ?_ _ | refine blk_drew ?_ | refine blk_alloc ?_ _)); exact BK339.out) hb)
                    have n4_ := Aside0.mk (below_step (by repeat (first | (with_reducible first | exact HB.out | apply below_alloc | apply pw_below_drewN | apply below_drew1 | refine below_set ?_ GE331.out | refine below_set ?_ GE332.out | refine below_set ?_ GE339.out) | exact HB.out)) hb)
                    clear HO_13
                    clear BK331
                    clear BK332
                    clear BK339
                    clear HB
                    have HO_13 := n0_
                    have BK331 := n1_
                    have BK332 := n2_
                    have BK339 := n3_
                    have HB := n4_
                    clear n0_ n1_ n2_ n3_ n4_
                    (try clear hb)
                    (try clear hb2)
                    (try clear hk)
                    (try clear hi)
                    refine hK.out _ _ ⟨(blk_cell BK331.out 0).trans rfl, (blk_cell BK331.out 1).trans rfl, (blk_cell BK331.out 2).trans rfl, (blk_cell BK331.out 3).trans rfl, (blk_cell BK339.out 0).trans rfl, (blk_cell BK339.out 1).trans rfl, (blk_cell BK339.out 2).trans rfl, (blk_cell BK339.out 3).trans rfl, (blk_cell BK339.out 4).trans rfl, (blk_cell BK339.out 5).trans rfl, (blk_cell BK339.out 6).trans rfl, (blk_cell BK339.out 7).trans rfl, (blk_cell BK339.out 8).trans rfl, (blk_cell BK339.out 9).trans rfl, (blk_cell BK339.out 10).trans rfl, (blk_cell BK339.out 11).trans rfl, (blk_cell BK339.out 12).trans rfl, (blk_cell BK339.out 13).trans rfl, (blk_cell BK332.out 0).trans rfl, (blk_cell BK332.out 1).trans rfl⟩ (fun hHeld => ?_)
                    clear hK K
                    refine norm_ (a' := ?_) ?_ ?_
                    rotate_left
                    · show Act.put _ (some 60) _ = _
                      simp only [Act.put, List.setIfInBounds_toArray, List.set_cons_zero, List.set_cons_succ, i64_w, i32_w]
                      rfl
                    refine pure_ (i := 5) (N := some 62) (v := ?_) (a' := ?_) #[true, true, true, true, true, true, false, false, false, false, false, false, false, false, false, false, false] rfl rfl (any_of HT_.out (by kernel_rfl)) (fun _ _ _ h => h) (Or.inl ⟨by rfl, ?_⟩) ?_ ?_
                    rotate_left
                    · intro w'
                      go_simp
                      with_reducible rfl
                    rotate_left
                    · simp only [Act.put, List.setIfInBounds_toArray, List.set_cons_zero, List.set_cons_succ, i64_w, i32_w]
                      rfl
                    refine pure_ (i := 6) (N := some 63) (v := ?_) (a' := ?_) #[true, true, true, true, true, true, true, false, false, false, false, false, false, false, false, false, false] rfl rfl (any_of HT_.out (by kernel_rfl)) (fun _ _ _ h => h) (Or.inl ⟨by rfl, ?_⟩) ?_ ?_
                    rotate_left
                    · intro w'
                      go_simp
                      with_reducible rfl
                    rotate_left
                    · simp only [Act.put, List.setIfInBounds_toArray, List.set_cons_zero, List.set_cons_succ, i64_w, i32_w]
                      rfl
                    refine take_ (i := 7) (N := some 64) (v := ?_) (a' := ?_) #[true, true, true, true, true, true, true, true, false, false, false, false, false, false, false, false, false] rfl rfl (take_ofW HT_.out HW_.out (by kernel_rfl)) (fun _ _ _ h => h) (Or.inl ⟨by rfl, ?_⟩) hHeld ?_ ?_
                    rotate_left
                    · rintro w' ⟨s0, s1, s2, s3, s4, s5, s6, s7, s8, s9, s10, s11, s12, s13, s14, s15, s16, s17, s18, s19⟩
                      go_simp
                      with_reducible rfl
                    rotate_left
                    · simp only [Act.put, List.setIfInBounds_toArray, List.set_cons_zero, List.set_cons_succ, i64_w, i32_w]
                      rfl
                    refine take_ (i := 8) (N := some 65) (v := ?_) (a' := ?_) #[true, true, true, true, true, true, true, true, true, false, false, false, false, false, false, false, false] rfl rfl (take_ofW HT_.out HW_.out (by kernel_rfl)) (fun _ _ _ h => h) (Or.inl ⟨by rfl, ?_⟩) hHeld ?_ ?_
                    rotate_left
                    · rintro w' ⟨s0, s1, s2, s3, s4, s5, s6, s7, s8, s9, s10, s11, s12, s13, s14, s15, s16, s17, s18, s19⟩
                      go_simp
                      with_reducible rfl
                    rotate_left
                    · simp only [Act.put, List.setIfInBounds_toArray, List.set_cons_zero, List.set_cons_succ, i64_w, i32_w]
                      rfl
                    refine take_ (i := 10) (N := some 67) (v := ?_) (a' := ?_) #[true, true, true, true, true, true, true, true, true, false, true, false, false, false, false, false, false] rfl rfl (take_ofW HT_.out HW_.out (by kernel_rfl)) (fun _ _ _ h => h) (Or.inl ⟨by rfl, ?_⟩) hHeld ?_ ?_
                    rotate_left
                    · rintro w' ⟨s0, s1, s2, s3, s4, s5, s6, s7, s8, s9, s10, s11, s12, s13, s14, s15, s16, s17, s18, s19⟩
                      go_simp
                      with_reducible rfl
                    rotate_left
                    · simp only [Act.put, List.setIfInBounds_toArray, List.set_cons_zero, List.set_cons_succ, i64_w, i32_w]
                      rfl
                    refine one_ (i := 9) (N := some 66) #[true, true, true, true, true, true, true, true, true, true, true, false, false, false, false, false, false] rfl rfl (one_of HT_.out (by kernel_rfl)) (by decide) (fun K hK => ?_)
                    refine goes_ Try.func19 (by kernel_rfl) rfl #[.agg #[.int .i64 18, .int .i64 0, .int .i64 0, .int .i64 0, .int .i64 0, .int .i64 65536, .int .i64 0, .int .i64 0, .int .i64 65536, .int .i64 0, .int .i64 0, .int .i64 (wrap64 (Int.tmod a4 3)), .slice Ao33 x13_2.length co33, .int .i64 0], .agg #[.int .i64 a5_0, .int .i64 a5_1]] (by rfl) rfl rfl (by (try simp only [List.map_toArray, List.map_cons, List.map_nil]); first | done | rfl | (simp only [List.length_drop, List.length_take]; rfl)) ?_
                    with_reducible refine (ramp_At.calls k2 18 0 0 0 0 65536 0 0 65536 0 0 (wrap64 (Int.tmod a4 3)) _ _ x13_2 0 a5_0 a5_1 t344 t345 t346 t347 _ ?side1 ?side2 A30.out).mono ?_
                    (case side1 => repeat (first | exact (Kd.R_reads' HO_13.out).2.2 | (with_reducible refine Kd.C_alloc ?_ _) | (with_reducible refine Kd.C_drewN ?_ _) | (with_reducible refine Kd.C_drew ?_)))
                    (case side2 => exact (Kd.R_reads' HO_13.out).2.1)
                    rintro e w41 ⟨rfl, hb⟩
                    refine ⟨_, rfl, ?_⟩
                    have n0_ := Aside0.mk (Kd.R_below (by (with_reducible repeat (first | apply Kd.R_alloc | apply Kd.R_drewN | apply Kd.R_drew)); exact HO_13.out) hb)
                    have n1_ := Aside0.mk (blk_below (g := gb331) (o := .cells #[.int .i64 a1_0, .int .i64 a1_1, .int .i64 a1_2, .int .i64 a1_3] 27 (0, 0)) (by (with_reducible repeat (first | refine blk_drewN ?_ _ | refine blk_drew ?_ | refine blk_alloc ?_ _)); exact BK331.out) hb)
                    have n2_ := Aside0.mk (blk_below (g := gb332) (o := .cells #[.int .i64 a5_0, .int .i64 a5_1] 36 (0, 0)) (by (with_reducible repeat (first | refine blk_drewN ?_ _ | refine blk_drew ?_ | refine blk_alloc ?_ _)); exact BK332.out) hb)
                    have n3_ := Aside0.mk (blk_below (g := gb339) (o := .cells #[.int .i64 18, .int .i64 0, .int .i64 0, .int .i64 0, .int .i64 0, .int .i64 65536, .int .i64 0, .int .i64 0, .int .i64 65536, .int .i64 0, .int .i64 0, .int .i64 (wrap64 (Int.tmod a4 3)), .slice Ao33 x13_2.length co33, .int .i64 0] 43 (0, 0)) (by (with_reducible repeat (first | refine blk_drewN ?_ _ | refine blk_drew ?_ | refine blk_alloc ?_ _)); exact BK339.out) hb)
                    have n4_ := Aside0.mk (below_step (by repeat (first | (with_reducible first | exact HB.out | apply below_alloc | apply pw_below_drewN | apply below_drew1 | refine below_set ?_ GE331.out | refine below_set ?_ GE332.out | refine below_set ?_ GE339.out) | exact HB.out)) hb)
                    clear HO_13
                    clear BK331
                    clear BK332
                    clear BK339
                    clear HB
                    have HO_13 := n0_
                    have BK331 := n1_
                    have BK332 := n2_
                    have BK339 := n3_
                    have HB := n4_
                    clear n0_ n1_ n2_ n3_ n4_
                    (try clear hb)
                    (try clear hb2)
                    (try clear hk)
                    (try clear hi)
                    refine hK.out _ _ ⟨(blk_cell BK331.out 0).trans rfl, (blk_cell BK331.out 1).trans rfl, (blk_cell BK331.out 2).trans rfl, (blk_cell BK331.out 3).trans rfl, (blk_cell BK339.out 0).trans rfl, (blk_cell BK339.out 1).trans rfl, (blk_cell BK339.out 2).trans rfl, (blk_cell BK339.out 3).trans rfl, (blk_cell BK339.out 4).trans rfl, (blk_cell BK339.out 5).trans rfl, (blk_cell BK339.out 6).trans rfl, (blk_cell BK339.out 7).trans rfl, (blk_cell BK339.out 8).trans rfl, (blk_cell BK339.out 9).trans rfl, (blk_cell BK339.out 10).trans rfl, (blk_cell BK339.out 11).trans rfl, (blk_cell BK339.out 12).trans rfl, (blk_cell BK339.out 13).trans rfl, (blk_cell BK332.out 0).trans rfl, (blk_cell BK332.out 1).trans rfl⟩ (fun hHeld => ?_)
                    clear hK K
                    refine norm_ (a' := ?_) ?_ ?_
                    rotate_left
                    · show Act.put _ (some 66) _ = _
                      simp only [Act.put, List.setIfInBounds_toArray, List.set_cons_zero, List.set_cons_succ, i64_w, i32_w]
                      rfl
                    refine pure_ (i := 11) (N := some 68) (v := ?_) (a' := ?_) #[true, true, true, true, true, true, true, true, true, true, true, true, false, false, false, false, false] rfl rfl (any_of HT_.out (by kernel_rfl)) (fun _ _ _ h => h) (Or.inl ⟨by rfl, ?_⟩) ?_ ?_
                    rotate_left
                    · intro w'
                      go_simp
                      with_reducible rfl
                    rotate_left
                    · simp only [Act.put, List.setIfInBounds_toArray, List.set_cons_zero, List.set_cons_succ, i64_w, i32_w]
                      rfl
                    refine pure_ (i := 12) (N := some 69) (v := ?_) (a' := ?_) #[true, true, true, true, true, true, true, true, true, true, true, true, true, false, false, false, false] rfl rfl (any_of HT_.out (by kernel_rfl)) (fun _ _ _ h => h) (Or.inl ⟨by rfl, ?_⟩) ?_ ?_
                    rotate_left
                    · intro w'
                      go_simp
                      with_reducible rfl
                    rotate_left
                    · simp only [Act.put, List.setIfInBounds_toArray, List.set_cons_zero, List.set_cons_succ, i64_w, i32_w]
                      rfl
                    refine pure_ (i := 13) (N := some 70) (v := ?_) (a' := ?_) #[true, true, true, true, true, true, true, true, true, true, true, true, true, true, false, false, false] rfl rfl (any_of HT_.out (by kernel_rfl)) (fun _ _ _ h => h) (Or.inl ⟨by rfl, ?_⟩) ?_ ?_
                    rotate_left
                    · intro w'
                      go_simp
                      with_reducible rfl
                    rotate_left
                    · simp only [Act.put, List.setIfInBounds_toArray, List.set_cons_zero, List.set_cons_succ, i64_w, i32_w]
                      rfl
                    refine one_ (i := 14) (N := some 71) #[true, true, true, true, true, true, true, true, true, true, true, true, true, true, true, false, false] rfl rfl (one_of HT_.out (by kernel_rfl)) (by decide) (fun K hK => ?_)
                    refine goes_ Try.func12 (by kernel_rfl) rfl #[] (by rfl) rfl rfl (by (try simp only [List.map_toArray, List.map_cons, List.map_nil]); first | done | rfl | (simp only [List.length_drop, List.length_take]; rfl)) ?_
                    with_reducible refine (celluloidlaw19_awake.calls k2  t348 _ A32.out).mono ?_
                    rintro e w42 ⟨rfl, hb⟩
                    refine ⟨_, rfl, ?_⟩
                    have n0_ := Aside0.mk (Kd.R_below (by (with_reducible repeat (first | apply Kd.R_alloc | apply Kd.R_drewN | apply Kd.R_drew)); exact HO_13.out) hb)
                    have n1_ := Aside0.mk (blk_below (g := gb331) (o := .cells #[.int .i64 a1_0, .int .i64 a1_1, .int .i64 a1_2, .int .i64 a1_3] 27 (0, 0)) (by (with_reducible repeat (first | refine blk_drewN ?_ _ | refine blk_drew ?_ | refine blk_alloc ?_ _)); exact BK331.out) hb)
                    have n2_ := Aside0.mk (blk_below (g := gb332) (o := .cells #[.int .i64 a5_0, .int .i64 a5_1] 36 (0, 0)) (by (with_reducible repeat (first | refine blk_drewN ?_ _ | refine blk_drew ?_ | refine blk_alloc ?_ _)); exact BK332.out) hb)
                    have n3_ := Aside0.mk (blk_below (g := gb339) (o := .cells #[.int .i64 18, .int .i64 0, .int .i64 0, .int .i64 0, .int .i64 0, .int .i64 65536, .int .i64 0, .int .i64 0, .int .i64 65536, .int .i64 0, .int .i64 0, .int .i64 (wrap64 (Int.tmod a4 3)), .slice Ao33 x13_2.length co33, .int .i64 0] 43 (0, 0)) (by (with_reducible repeat (first | refine blk_drewN ?_ _ | refine blk_drew ?_ | refine blk_alloc ?_ _)); exact BK339.out) hb)
                    have n4_ := Aside0.mk (below_step (by repeat (first | (with_reducible first | exact HB.out | apply below_alloc | apply pw_below_drewN | apply below_drew1 | refine below_set ?_ GE331.out | refine below_set ?_ GE332.out | refine below_set ?_ GE339.out) | exact HB.out)) hb)
                    clear HO_13
                    clear BK331
                    clear BK332
                    clear BK339
                    clear HB
                    have HO_13 := n0_
                    have BK331 := n1_
                    have BK332 := n2_
                    have BK339 := n3_
                    have HB := n4_
                    clear n0_ n1_ n2_ n3_ n4_
                    (try clear hb)
                    (try clear hb2)
                    (try clear hk)
                    (try clear hi)
                    refine hK.out _ _ ⟨(blk_cell BK331.out 0).trans rfl, (blk_cell BK331.out 1).trans rfl, (blk_cell BK331.out 2).trans rfl, (blk_cell BK331.out 3).trans rfl, (blk_cell BK339.out 0).trans rfl, (blk_cell BK339.out 1).trans rfl, (blk_cell BK339.out 2).trans rfl, (blk_cell BK339.out 3).trans rfl, (blk_cell BK339.out 4).trans rfl, (blk_cell BK339.out 5).trans rfl, (blk_cell BK339.out 6).trans rfl, (blk_cell BK339.out 7).trans rfl, (blk_cell BK339.out 8).trans rfl, (blk_cell BK339.out 9).trans rfl, (blk_cell BK339.out 10).trans rfl, (blk_cell BK339.out 11).trans rfl, (blk_cell BK339.out 12).trans rfl, (blk_cell BK339.out 13).trans rfl, (blk_cell BK332.out 0).trans rfl, (blk_cell BK332.out 1).trans rfl⟩ (fun hHeld => ?_)
                    clear hK K
                    refine norm_ (a' := ?_) ?_ ?_
                    rotate_left
                    · show Act.put _ (some 71) _ = _
                      simp only [Act.put, List.setIfInBounds_toArray, List.set_cons_zero, List.set_cons_succ, i64_w, i32_w]
                      rfl
                    refine pure_ (i := 15) (N := some 72) (v := ?_) (a' := ?_) #[true, true, true, true, true, true, true, true, true, true, true, true, true, true, true, true, false] rfl rfl (any_of HT_.out (by kernel_rfl)) (fun _ _ _ h => h) (Or.inl ⟨by rfl, ?_⟩) ?_ ?_
                    rotate_left
                    · intro w'
                      go_simp
                      with_reducible rfl
                    rotate_left
                    · simp only [Act.put, List.setIfInBounds_toArray, List.set_cons_zero, List.set_cons_succ, i64_w, i32_w]
                      rfl
                    refine pure_ (i := 16) (N := some 12) (v := ?_) (a' := ?_) #[true, true, true, true, true, true, true, true, true, true, true, true, true, true, true, true, true] rfl rfl (any_of HT_.out (by kernel_rfl)) (fun _ _ _ h => h) (Or.inl ⟨by rfl, ?_⟩) ?_ ?_
                    rotate_left
                    · intro w'
                      go_simp
                      with_reducible rfl
                    rotate_left
                    · simp only [Act.put, List.setIfInBounds_toArray, List.set_cons_zero, List.set_cons_succ, i64_w, i32_w]
                      rfl
                    refine done_ (done_of HT_.out (by kernel_rfl)) ?_
                    try go_wp2
                    go_ret
                    exact ⟨by first | rfl | (simp [errW_none, errW_some] <;> rfl) | (simp [*, errW_none, errW_some] <;> rfl), by repeat (first | (with_reducible first | exact HB.out | apply below_alloc | apply pw_below_drewN | apply below_drew1 | refine below_set ?_ GE331.out | refine below_set ?_ GE332.out | refine below_set ?_ GE339.out) | exact HB.out)⟩
                  · rw [if_neg c31] at H
                    have c31b0 : (t344 == a1_0 && (t345 == a1_1 && (t346 == a1_2 && (t347 == a1_3)))) = false := by simpa using c31
                    (try (have c31b1 : decide (t344 = a1_0 && (t345 == a1_1 && (t346 == a1_2 && (t347 == a1_3)))) = false := by simpa using c31))
                    (try (have c31b2 : (t344 == a1_0 && (t345 == a1_1 && (t346 == a1_2 && (t347 == a1_3)))) = false := by simpa using c31))
                    (try (have c31b3 : ¬ (t344 = a1_0 && (t345 == a1_1 && (t346 == a1_2 && (t347 == a1_3)))) := by simpa using c31))
                    clear c31
                    obtain rfl := Option.some.inj H
                    obtain ⟨Ao43, co43, eo43⟩ := Kd.R_slice HO_13.out
                    subst eo43
                    try go_wp2_with (first | ((with_reducible refine gate_dst (N := 17) rfl ?_); (try (refine gate_guard (by rfl) ?_; dsimp only)); refine box_event ?hg (N := 17) ?hd (cs := #[.int .i64 0, .int .i64 0, .int .i64 0, .int .i64 0, .int .i64 0, .int .i64 0, .int .i64 0, .int .i64 0, .int .i64 0, .int .i64 0, .int .i64 0, .int .i64 0, .slice none 0 0, .int .i64 0]) (t := 43) ?hr ?_; (case hd => rfl); (case hg => rfl); (case hr => first | (go_simp; done) | (go_simp; rfl)); intro gb339 hg w44 hbox hb; have n0_ := Aside0.mk (Kd.R_below (by (with_reducible repeat (first | apply Kd.R_alloc | apply Kd.R_drewN | apply Kd.R_drew)); exact HO_13.out) hb); have n1_ := Aside0.mk (blk_below (g := gb331) (o := .cells #[.int .i64 a1_0, .int .i64 a1_1, .int .i64 a1_2, .int .i64 a1_3] 27 (0, 0)) (by (with_reducible repeat (first | refine blk_drewN ?_ _ | refine blk_drew ?_ | refine blk_alloc ?_ _)); exact BK331.out) hb); have n2_ := Aside0.mk (blk_below (g := gb332) (o := .cells #[.int .i64 a5_0, .int .i64 a5_1] 36 (0, 0)) (by (with_reducible repeat (first | refine blk_drewN ?_ _ | refine blk_drew ?_ | refine blk_alloc ?_ _)); exact BK332.out) hb); have n3_ := Aside0.mk (below_step (by repeat (first | (with_reducible first | exact HB.out | apply below_alloc | apply pw_below_drewN | apply below_drew1 | refine below_set ?_ GE331.out | refine below_set ?_ GE332.out) | exact HB.out)) hb); have n4_ := Aside0.mk (hbox); have n5_ := Aside0.mk ((by rw [hg]; exact (below_size (by repeat (first | (with_reducible first | exact HB.out | apply below_alloc | apply pw_below_drewN | apply below_drew1 | refine below_set ?_ GE331.out | refine below_set ?_ GE332.out) | exact HB.out))) : w.heap.size ≤ gb339)); have n6_ := Aside0.mk ((by rw [hg]; exact (below_size (by repeat (first | (with_reducible first | exact HB.out | apply below_alloc | apply pw_below_drewN | apply below_drew1 | refine below_set ?_ GE331.out | refine below_set ?_ GE332.out) | exact HB.out))) : w.heap.size ≤ gb339)); have n7_ := Aside0.mk ((by rw [hg]; exact Nat.ne_of_lt (blk_lt (g := gb331) (o := .cells #[.int .i64 a1_0, .int .i64 a1_1, .int .i64 a1_2, .int .i64 a1_3] 27 (0, 0)) (by (with_reducible repeat (first | refine blk_drewN ?_ _ | refine blk_drew ?_ | refine blk_alloc ?_ _)); exact BK331.out)) : gb331 ≠ gb339)); have n8_ := Aside0.mk ((by rw [hg]; exact Nat.ne_of_gt (blk_lt (g := gb331) (o := .cells #[.int .i64 a1_0, .int .i64 a1_1, .int .i64 a1_2, .int .i64 a1_3] 27 (0, 0)) (by (with_reducible repeat (first | refine blk_drewN ?_ _ | refine blk_drew ?_ | refine blk_alloc ?_ _)); exact BK331.out)) : gb339 ≠ gb331)); have n9_ := Aside0.mk ((by rw [hg]; exact Nat.ne_of_lt (blk_lt (g := gb332) (o := .cells #[.int .i64 a5_0, .int .i64 a5_1] 36 (0, 0)) (by (with_reducible repeat (first | refine blk_drewN ?_ _ | refine blk_drew ?_ | refine blk_alloc ?_ _)); exact BK332.out)) : gb332 ≠ gb339)); have n10_ := Aside0.mk ((by rw [hg]; exact Nat.ne_of_gt (blk_lt (g := gb332) (o := .cells #[.int .i64 a5_0, .int .i64 a5_1] 36 (0, 0)) (by (with_reducible repeat (first | refine blk_drewN ?_ _ | refine blk_drew ?_ | refine blk_alloc ?_ _)); exact BK332.out)) : gb339 ≠ gb332)); clear HO_13; clear BK331; clear BK332; clear HB; have HO_13 := n0_; have BK331 := n1_; have BK332 := n2_; have HB := n3_; have BK339 := n4_; have GW339 := n5_; have GE339 := n6_; have NB331_339 := n7_; have NB339_331 := n8_; have NB332_339 := n9_; have NB339_332 := n10_; clear n0_ n1_ n2_ n3_ n4_ n5_ n6_ n7_ n8_ n9_ n10_; clear hb hbox hg; have hnb45 := NB339_331.out; have hnc45 := NB331_339.out; have hnb46 := NB339_332.out; have hnc46 := NB332_339.out; have hcz47_0 : w44.cell? ⟨gb339, 0, none⟩ = some (.int .i64 0) := (blk_cell BK339.out 0).trans rfl; have hcz47_1 : w44.cell? ⟨gb339, 1, none⟩ = some (.int .i64 0) := (blk_cell BK339.out 1).trans rfl; have hcz47_2 : w44.cell? ⟨gb339, 2, none⟩ = some (.int .i64 0) := (blk_cell BK339.out 2).trans rfl; have hcz47_3 : w44.cell? ⟨gb339, 3, none⟩ = some (.int .i64 0) := (blk_cell BK339.out 3).trans rfl; have hcz47_4 : w44.cell? ⟨gb339, 4, none⟩ = some (.int .i64 0) := (blk_cell BK339.out 4).trans rfl; have hcz47_5 : w44.cell? ⟨gb339, 5, none⟩ = some (.int .i64 0) := (blk_cell BK339.out 5).trans rfl; have hcz47_6 : w44.cell? ⟨gb339, 6, none⟩ = some (.int .i64 0) := (blk_cell BK339.out 6).trans rfl; have hcz47_7 : w44.cell? ⟨gb339, 7, none⟩ = some (.int .i64 0) := (blk_cell BK339.out 7).trans rfl; have hcz47_8 : w44.cell? ⟨gb339, 8, none⟩ = some (.int .i64 0) := (blk_cell BK339.out 8).trans rfl; have hcz47_9 : w44.cell? ⟨gb339, 9, none⟩ = some (.int .i64 0) := (blk_cell BK339.out 9).trans rfl; have hcz47_10 : w44.cell? ⟨gb339, 10, none⟩ = some (.int .i64 0) := (blk_cell BK339.out 10).trans rfl; have hcz47_11 : w44.cell? ⟨gb339, 11, none⟩ = some (.int .i64 0) := (blk_cell BK339.out 11).trans rfl; have hcz47_12 : w44.cell? ⟨gb339, 12, none⟩ = some (.slice none 0 0) := (blk_cell BK339.out 12).trans rfl; have hcz47_13 : w44.cell? ⟨gb339, 13, none⟩ = some (.int .i64 0) := (blk_cell BK339.out 13).trans rfl; have hfz47_0 := blk_frozen BK339.out 0; have hfz47_1 := blk_frozen BK339.out 1; have hfz47_2 := blk_frozen BK339.out 2; have hfz47_3 := blk_frozen BK339.out 3; have hfz47_4 := blk_frozen BK339.out 4; have hfz47_5 := blk_frozen BK339.out 5; have hfz47_6 := blk_frozen BK339.out 6; have hfz47_7 := blk_frozen BK339.out 7; have hfz47_8 := blk_frozen BK339.out 8; have hfz47_9 := blk_frozen BK339.out 9; have hfz47_10 := blk_frozen BK339.out 10; have hfz47_11 := blk_frozen BK339.out 11; have hfz47_12 := blk_frozen BK339.out 12; have hfz47_13 := blk_frozen BK339.out 13))
                    have n0_ : Aside0 (Kd.R k32 32 (((((((((((((((w44.setCell ⟨gb339, 0, none⟩ (.int .i64 16)).setCell ⟨gb339, 1, none⟩ (.int .i64 0)).setCell ⟨gb339, 2, none⟩ (.int .i64 0)).setCell ⟨gb339, 3, none⟩ (.int .i64 0)).setCell ⟨gb339, 4, none⟩ (.int .i64 0)).setCell ⟨gb339, 5, none⟩ (.int .i64 65536)).setCell ⟨gb339, 6, none⟩ (.int .i64 0)).setCell ⟨gb339, 7, none⟩ (.int .i64 0)).setCell ⟨gb339, 8, none⟩ (.int .i64 65536)).setCell ⟨gb339, 9, none⟩ (.int .i64 0)).setCell ⟨gb339, 10, none⟩ (.int .i64 0)).setCell ⟨gb339, 11, none⟩ (.int .i64 (wrap64 (Int.tmod a4 3)))).setCell ⟨gb339, 12, none⟩ (.slice Ao43 x13_2.length co43)).setCell ⟨gb339, 13, none⟩ (.int .i64 0)).setCell ⟨gb339, 0, none⟩ (.int .i64 18)) w.heap.size (fun _ => True) (.slice Ao43 x13_2.length co43) x13_2) := ⟨by (with_reducible repeat (first | apply Kd.R_alloc | apply Kd.R_drewN | apply Kd.R_drew)); exact Kd.R_mono (Kd.R_far (p := ⟨gb339, 0, none⟩) (Kd.R_far (p := ⟨gb339, 13, none⟩) (Kd.R_far (p := ⟨gb339, 12, none⟩) (Kd.R_far (p := ⟨gb339, 11, none⟩) (Kd.R_far (p := ⟨gb339, 10, none⟩) (Kd.R_far (p := ⟨gb339, 9, none⟩) (Kd.R_far (p := ⟨gb339, 8, none⟩) (Kd.R_far (p := ⟨gb339, 7, none⟩) (Kd.R_far (p := ⟨gb339, 6, none⟩) (Kd.R_far (p := ⟨gb339, 5, none⟩) (Kd.R_far (p := ⟨gb339, 4, none⟩) (Kd.R_far (p := ⟨gb339, 3, none⟩) (Kd.R_far (p := ⟨gb339, 2, none⟩) (Kd.R_far (p := ⟨gb339, 1, none⟩) (Kd.R_far (p := ⟨gb339, 0, none⟩) (Kd.R_types HO_13.out BK339.out (by decide)) (fun _ hk => hk.2) (.int .i64 16)) (fun _ hk => hk.2) (.int .i64 0)) (fun _ hk => hk.2) (.int .i64 0)) (fun _ hk => hk.2) (.int .i64 0)) (fun _ hk => hk.2) (.int .i64 0)) (fun _ hk => hk.2) (.int .i64 65536)) (fun _ hk => hk.2) (.int .i64 0)) (fun _ hk => hk.2) (.int .i64 0)) (fun _ hk => hk.2) (.int .i64 65536)) (fun _ hk => hk.2) (.int .i64 0)) (fun _ hk => hk.2) (.int .i64 0)) (fun _ hk => hk.2) (.int .i64 (wrap64 (Int.tmod a4 3)))) (fun _ hk => hk.2) (.slice Ao43 x13_2.length co43)) (fun _ hk => hk.2) (.int .i64 0)) (fun _ hk => hk.2) (.int .i64 18)) (fun _ hk => trivial)⟩
                    have n1_ : Aside0 ((((((((((((((((w44.setCell ⟨gb339, 0, none⟩ (.int .i64 16)).setCell ⟨gb339, 1, none⟩ (.int .i64 0)).setCell ⟨gb339, 2, none⟩ (.int .i64 0)).setCell ⟨gb339, 3, none⟩ (.int .i64 0)).setCell ⟨gb339, 4, none⟩ (.int .i64 0)).setCell ⟨gb339, 5, none⟩ (.int .i64 65536)).setCell ⟨gb339, 6, none⟩ (.int .i64 0)).setCell ⟨gb339, 7, none⟩ (.int .i64 0)).setCell ⟨gb339, 8, none⟩ (.int .i64 65536)).setCell ⟨gb339, 9, none⟩ (.int .i64 0)).setCell ⟨gb339, 10, none⟩ (.int .i64 0)).setCell ⟨gb339, 11, none⟩ (.int .i64 (wrap64 (Int.tmod a4 3)))).setCell ⟨gb339, 12, none⟩ (.slice Ao43 x13_2.length co43)).setCell ⟨gb339, 13, none⟩ (.int .i64 0)).setCell ⟨gb339, 0, none⟩ (.int .i64 18)).heap[gb331]? = some (.cells #[.int .i64 a1_0, .int .i64 a1_1, .int .i64 a1_2, .int .i64 a1_3] 27 (0, 0))) := ⟨by (with_reducible repeat (first | refine blk_drewN ?_ _ | refine blk_drew ?_ | refine blk_alloc ?_ _)); refine blk_far ?_ NB331_339.out _; (with_reducible repeat (first | refine blk_drewN ?_ _ | refine blk_drew ?_ | refine blk_alloc ?_ _)); refine blk_far ?_ NB331_339.out _; (with_reducible repeat (first | refine blk_drewN ?_ _ | refine blk_drew ?_ | refine blk_alloc ?_ _)); refine blk_far ?_ NB331_339.out _; (with_reducible repeat (first | refine blk_drewN ?_ _ | refine blk_drew ?_ | refine blk_alloc ?_ _)); refine blk_far ?_ NB331_339.out _; (with_reducible repeat (first | refine blk_drewN ?_ _ | refine blk_drew ?_ | refine blk_alloc ?_ _)); refine blk_far ?_ NB331_339.out _; (with_reducible repeat (first | refine blk_drewN ?_ _ | refine blk_drew ?_ | refine blk_alloc ?_ _)); refine blk_far ?_ NB331_339.out _; (with_reducible repeat (first | refine blk_drewN ?_ _ | refine blk_drew ?_ | refine blk_alloc ?_ _)); refine blk_far ?_ NB331_339.out _; (with_reducible repeat (first | refine blk_drewN ?_ _ | refine blk_drew ?_ | refine blk_alloc ?_ _)); refine blk_far ?_ NB331_339.out _; (with_reducible repeat (first | refine blk_drewN ?_ _ | refine blk_drew ?_ | refine blk_alloc ?_ _)); refine blk_far ?_ NB331_339.out _; (with_reducible repeat (first | refine blk_drewN ?_ _ | refine blk_drew ?_ | refine blk_alloc ?_ _)); refine blk_far ?_ NB331_339.out _; (with_reducible repeat (first | refine blk_drewN ?_ _ | refine blk_drew ?_ | refine blk_alloc ?_ _)); refine blk_far ?_ NB331_339.out _; (with_reducible repeat (first | refine blk_drewN ?_ _ | refine blk_drew ?_ | refine blk_alloc ?_ _)); refine blk_far ?_ NB331_339.out _; (with_reducible repeat (first | refine blk_drewN ?_ _ | refine blk_drew ?_ | refine blk_alloc ?_ _)); refine blk_far ?_ NB331_339.out _; (with_reducible repeat (first | refine blk_drewN ?_ _ | refine blk_drew ?_ | refine blk_alloc ?_ _)); refine blk_far ?_ NB331_339.out _; (with_reducible repeat (first | refine blk_drewN ?_ _ | refine blk_drew ?_ | refine blk_alloc ?_ _)); refine blk_far ?_ NB331_339.out _; (with_reducible repeat (first | refine blk_drewN ?_ _ | refine blk_drew ?_ | refine blk_alloc ?_ _)); exact BK331.out⟩
                    have n2_ : Aside0 ((((((((((((((((w44.setCell ⟨gb339, 0, none⟩ (.int .i64 16)).setCell ⟨gb339, 1, none⟩ (.int .i64 0)).setCell ⟨gb339, 2, none⟩ (.int .i64 0)).setCell ⟨gb339, 3, none⟩ (.int .i64 0)).setCell ⟨gb339, 4, none⟩ (.int .i64 0)).setCell ⟨gb339, 5, none⟩ (.int .i64 65536)).setCell ⟨gb339, 6, none⟩ (.int .i64 0)).setCell ⟨gb339, 7, none⟩ (.int .i64 0)).setCell ⟨gb339, 8, none⟩ (.int .i64 65536)).setCell ⟨gb339, 9, none⟩ (.int .i64 0)).setCell ⟨gb339, 10, none⟩ (.int .i64 0)).setCell ⟨gb339, 11, none⟩ (.int .i64 (wrap64 (Int.tmod a4 3)))).setCell ⟨gb339, 12, none⟩ (.slice Ao43 x13_2.length co43)).setCell ⟨gb339, 13, none⟩ (.int .i64 0)).setCell ⟨gb339, 0, none⟩ (.int .i64 18)).heap[gb332]? = some (.cells #[.int .i64 a5_0, .int .i64 a5_1] 36 (0, 0))) := ⟨by (with_reducible repeat (first | refine blk_drewN ?_ _ | refine blk_drew ?_ | refine blk_alloc ?_ _)); refine blk_far ?_ NB332_339.out _; (with_reducible repeat (first | refine blk_drewN ?_ _ | refine blk_drew ?_ | refine blk_alloc ?_ _)); refine blk_far ?_ NB332_339.out _; (with_reducible repeat (first | refine blk_drewN ?_ _ | refine blk_drew ?_ | refine blk_alloc ?_ _)); refine blk_far ?_ NB332_339.out _; (with_reducible repeat (first | refine blk_drewN ?_ _ | refine blk_drew ?_ | refine blk_alloc ?_ _)); refine blk_far ?_ NB332_339.out _; (with_reducible repeat (first | refine blk_drewN ?_ _ | refine blk_drew ?_ | refine blk_alloc ?_ _)); refine blk_far ?_ NB332_339.out _; (with_reducible repeat (first | refine blk_drewN ?_ _ | refine blk_drew ?_ | refine blk_alloc ?_ _)); refine blk_far ?_ NB332_339.out _; (with_reducible repeat (first | refine blk_drewN ?_ _ | refine blk_drew ?_ | refine blk_alloc ?_ _)); refine blk_far ?_ NB332_339.out _; (with_reducible repeat (first | refine blk_drewN ?_ _ | refine blk_drew ?_ | refine blk_alloc ?_ _)); refine blk_far ?_ NB332_339.out _; (with_reducible repeat (first | refine blk_drewN ?_ _ | refine blk_drew ?_ | refine blk_alloc ?_ _)); refine blk_far ?_ NB332_339.out _; (with_reducible repeat (first | refine blk_drewN ?_ _ | refine blk_drew ?_ | refine blk_alloc ?_ _)); refine blk_far ?_ NB332_339.out _; (with_reducible repeat (first | refine blk_drewN ?_ _ | refine blk_drew ?_ | refine blk_alloc ?_ _)); refine blk_far ?_ NB332_339.out _; (with_reducible repeat (first | refine blk_drewN ?_ _ | refine blk_drew ?_ | refine blk_alloc ?_ _)); refine blk_far ?_ NB332_339.out _; (with_reducible repeat (first | refine blk_drewN ?_ _ | refine blk_drew ?_ | refine blk_alloc ?_ _)); refine blk_far ?_ NB332_339.out _; (with_reducible repeat (first | refine blk_drewN ?_ _ | refine blk_drew ?_ | refine blk_alloc ?_ _)); refine blk_far ?_ NB332_339.out _; (with_reducible repeat (first | refine blk_drewN ?_ _ | refine blk_drew ?_ | refine blk_alloc ?_ _)); refine blk_far ?_ NB332_339.out _; (with_reducible repeat (first | refine blk_drewN ?_ _ | refine blk_drew ?_ | refine blk_alloc ?_ _)); exact BK332.out⟩
                    have n3_ : Aside0 ((((((((((((((((w44.setCell ⟨gb339, 0, none⟩ (.int .i64 16)).setCell ⟨gb339, 1, none⟩ (.int .i64 0)).setCell ⟨gb339, 2, none⟩ (.int .i64 0)).setCell ⟨gb339, 3, none⟩ (.int .i64 0)).setCell ⟨gb339, 4, none⟩ (.int .i64 0)).setCell ⟨gb339, 5, none⟩ (.int .i64 65536)).setCell ⟨gb339, 6, none⟩ (.int .i64 0)).setCell ⟨gb339, 7, none⟩ (.int .i64 0)).setCell ⟨gb339, 8, none⟩ (.int .i64 65536)).setCell ⟨gb339, 9, none⟩ (.int .i64 0)).setCell ⟨gb339, 10, none⟩ (.int .i64 0)).setCell ⟨gb339, 11, none⟩ (.int .i64 (wrap64 (Int.tmod a4 3)))).setCell ⟨gb339, 12, none⟩ (.slice Ao43 x13_2.length co43)).setCell ⟨gb339, 13, none⟩ (.int .i64 0)).setCell ⟨gb339, 0, none⟩ (.int .i64 18)).heap[gb339]? = some (.cells #[.int .i64 18, .int .i64 0, .int .i64 0, .int .i64 0, .int .i64 0, .int .i64 65536, .int .i64 0, .int .i64 0, .int .i64 65536, .int .i64 0, .int .i64 0, .int .i64 (wrap64 (Int.tmod a4 3)), .slice Ao43 x13_2.length co43, .int .i64 0] 43 (0, 0))) := ⟨by (with_reducible repeat (first | refine blk_drewN ?_ _ | refine blk_drew ?_ | refine blk_alloc ?_ _)); refine blk_put (cs := #[.int .i64 16, .int .i64 0, .int .i64 0, .int .i64 0, .int .i64 0, .int .i64 65536, .int .i64 0, .int .i64 0, .int .i64 65536, .int .i64 0, .int .i64 0, .int .i64 (wrap64 (Int.tmod a4 3)), .slice Ao43 x13_2.length co43, .int .i64 0]) ?_ 0 _ rfl; (with_reducible repeat (first | refine blk_drewN ?_ _ | refine blk_drew ?_ | refine blk_alloc ?_ _)); refine blk_put (cs := #[.int .i64 16, .int .i64 0, .int .i64 0, .int .i64 0, .int .i64 0, .int .i64 65536, .int .i64 0, .int .i64 0, .int .i64 65536, .int .i64 0, .int .i64 0, .int .i64 (wrap64 (Int.tmod a4 3)), .slice Ao43 x13_2.length co43, .int .i64 0]) ?_ 13 _ rfl; (with_reducible repeat (first | refine blk_drewN ?_ _ | refine blk_drew ?_ | refine blk_alloc ?_ _)); refine blk_put (cs := #[.int .i64 16, .int .i64 0, .int .i64 0, .int .i64 0, .int .i64 0, .int .i64 65536, .int .i64 0, .int .i64 0, .int .i64 65536, .int .i64 0, .int .i64 0, .int .i64 (wrap64 (Int.tmod a4 3)), .slice none 0 0, .int .i64 0]) ?_ 12 _ rfl; (with_reducible repeat (first | refine blk_drewN ?_ _ | refine blk_drew ?_ | refine blk_alloc ?_ _)); refine blk_put (cs := #[.int .i64 16, .int .i64 0, .int .i64 0, .int .i64 0, .int .i64 0, .int .i64 65536, .int .i64 0, .int .i64 0, .int .i64 65536, .int .i64 0, .int .i64 0, .int .i64 0, .slice none 0 0, .int .i64 0]) ?_ 11 _ rfl; (with_reducible repeat (first | refine blk_drewN ?_ _ | refine blk_drew ?_ | refine blk_alloc ?_ _)); refine blk_put (cs := #[.int .i64 16, .int .i64 0, .int .i64 0, .int .i64 0, .int .i64 0, .int .i64 65536, .int .i64 0, .int .i64 0, .int .i64 65536, .int .i64 0, .int .i64 0, .int .i64 0, .slice none 0 0, .int .i64 0]) ?_ 10 _ rfl; (with_reducible repeat (first | refine blk_drewN ?_ _ | refine blk_drew ?_ | refine blk_alloc ?_ _)); refine blk_put (cs := #[.int .i64 16, .int .i64 0, .int .i64 0, .int .i64 0, .int .i64 0, .int .i64 65536, .int .i64 0, .int .i64 0, .int .i64 65536, .int .i64 0, .int .i64 0, .int .i64 0, .slice none 0 0, .int .i64 0]) ?_ 9 _ rfl; (with_reducible repeat (first | refine blk_drewN ?_ _ | refine blk_drew ?_ | refine blk_alloc ?_ _)); refine blk_put (cs := #[.int .i64 16, .int .i64 0, .int .i64 0, .int .i64 0, .int .i64 0, .int .i64 65536, .int .i64 0, .int .i64 0, .int .i64 0, .int .i64 0, .int .i64 0, .int .i64 0, .slice none 0 0, .int .i64 0]) ?_ 8 _ rfl; (with_reducible repeat (first | refine blk_drewN ?_ _ | refine blk_drew ?_ | refine blk_alloc ?_ _)); refine blk_put (cs := #[.int .i64 16, .int .i64 0, .int .i64 0, .int .i64 0, .int .i64 0, .int .i64 65536, .int .i64 0, .int .i64 0, .int .i64 0, .int .i64 0, .int .i64 0, .int .i64 0, .slice none 0 0, .int .i64 0]) ?_ 7 _ rfl; (with_reducible repeat (first | refine blk_drewN ?_ _ | refine blk_drew ?_ | refine blk_alloc ?_ _)); refine blk_put (cs := #[.int .i64 16, .int .i64 0, .int .i64 0, .int .i64 0, .int .i64 0, .int .i64 65536, .int .i64 0, .int .i64 0, .int .i64 0, .int .i64 0, .int .i64 0, .int .i64 0, .slice none 0 0, .int .i64 0]) ?_ 6 _ rfl; (with_reducible repeat (first | refine blk_drewN ?_ _ | refine blk_drew ?_ | refine blk_alloc ?_ _)); refine blk_put (cs := #[.int .i64 16, .int .i64 0, .int .i64 0, .int .i64 0, .int .i64 0, .int .i64 0, .int .i64 0, .int .i64 0, .int .i64 0, .int .i64 0, .int .i64 0, .int .i64 0, .slice none 0 0, .int .i64 0]) ?_ 5 _ rfl; (with_reducible repeat (first | refine blk_drewN ?_ _ | refine blk_drew ?_ | refine blk_alloc ?_ _)); refine blk_put (cs := #[.int .i64 16, .int .i64 0, .int .i64 0, .int .i64 0, .int .i64 0, .int .i64 0, .int .i64 0, .int .i64 0, .int .i64 0, .int .i64 0, .int .i64 0, .int .i64 0, .slice none 0 0, .int .i64 0]) ?_ 4 _ rfl; (with_reducible repeat (first | refine blk_drewN ?_ _ | refine blk_drew ?_ | refine blk_alloc ?_ _)); refine blk_put (cs := #[.int .i64 16, .int .i64 0, .int .i64 0, .int .i64 0, .int .i64 0, .int .i64 0, .int .i64 0, .int .i64 0, .int .i64 0, .int .i64 0, .int .i64 0, .int .i64 0, .slice none 0 0, .int .i64 0]) ?_ 3 _ rfl; (with_reducible repeat (first | refine blk_drewN ?_ _ | refine blk_drew ?_ | refine blk_alloc ?_ _)); refine blk_put (cs := #[.int .i64 16, .int .i64 0, .int .i64 0, .int .i64 0, .int .i64 0, .int .i64 0, .int .i64 0, .int .i64 0, .int .i64 0, .int .i64 0, .int .i64 0, .int .i64 0, .slice none 0 0, .int .i64 0]) ?_ 2 _ rfl; (with_reducible repeat (first | refine blk_drewN ?_ _ | refine blk_drew ?_ | refine blk_alloc ?_ _)); refine blk_put (cs := #[.int .i64 16, .int .i64 0, .int .i64 0, .int .i64 0, .int .i64 0, .int .i64 0, .int .i64 0, .int .i64 0, .int .i64 0, .int .i64 0, .int .i64 0, .int .i64 0, .slice none 0 0, .int .i64 0]) ?_ 1 _ rfl; (with_reducible repeat (first | refine blk_drewN ?_ _ | refine blk_drew ?_ | refine blk_alloc ?_ _)); refine blk_put (cs := #[.int .i64 0, .int .i64 0, .int .i64 0, .int .i64 0, .int .i64 0, .int .i64 0, .int .i64 0, .int .i64 0, .int .i64 0, .int .i64 0, .int .i64 0, .int .i64 0, .slice none 0 0, .int .i64 0]) ?_ 0 _ rfl; (with_reducible repeat (first | refine blk_drewN ?_ _ | refine blk_drew ?_ | refine blk_alloc ?_ _)); exact BK339.out⟩
                    have n4_ : Aside0 (Below w.heap.size w (((((((((((((((w44.setCell ⟨gb339, 0, none⟩ (.int .i64 16)).setCell ⟨gb339, 1, none⟩ (.int .i64 0)).setCell ⟨gb339, 2, none⟩ (.int .i64 0)).setCell ⟨gb339, 3, none⟩ (.int .i64 0)).setCell ⟨gb339, 4, none⟩ (.int .i64 0)).setCell ⟨gb339, 5, none⟩ (.int .i64 65536)).setCell ⟨gb339, 6, none⟩ (.int .i64 0)).setCell ⟨gb339, 7, none⟩ (.int .i64 0)).setCell ⟨gb339, 8, none⟩ (.int .i64 65536)).setCell ⟨gb339, 9, none⟩ (.int .i64 0)).setCell ⟨gb339, 10, none⟩ (.int .i64 0)).setCell ⟨gb339, 11, none⟩ (.int .i64 (wrap64 (Int.tmod a4 3)))).setCell ⟨gb339, 12, none⟩ (.slice Ao43 x13_2.length co43)).setCell ⟨gb339, 13, none⟩ (.int .i64 0)).setCell ⟨gb339, 0, none⟩ (.int .i64 18))) := ⟨by repeat (first | (with_reducible first | exact HB.out | apply below_alloc | apply pw_below_drewN | apply below_drew1 | refine below_set ?_ GE331.out | refine below_set ?_ GE332.out | refine below_set ?_ GE339.out) | exact HB.out)⟩
                    (try clear HO_13)
                    (try clear BK331)
                    (try clear BK332)
                    (try clear BK339)
                    (try clear HB)
                    generalize (((((((((((((((w44.setCell ⟨gb339, 0, none⟩ (.int .i64 16)).setCell ⟨gb339, 1, none⟩ (.int .i64 0)).setCell ⟨gb339, 2, none⟩ (.int .i64 0)).setCell ⟨gb339, 3, none⟩ (.int .i64 0)).setCell ⟨gb339, 4, none⟩ (.int .i64 0)).setCell ⟨gb339, 5, none⟩ (.int .i64 65536)).setCell ⟨gb339, 6, none⟩ (.int .i64 0)).setCell ⟨gb339, 7, none⟩ (.int .i64 0)).setCell ⟨gb339, 8, none⟩ (.int .i64 65536)).setCell ⟨gb339, 9, none⟩ (.int .i64 0)).setCell ⟨gb339, 10, none⟩ (.int .i64 0)).setCell ⟨gb339, 11, none⟩ (.int .i64 (wrap64 (Int.tmod a4 3)))).setCell ⟨gb339, 12, none⟩ (.slice Ao43 x13_2.length co43)).setCell ⟨gb339, 13, none⟩ (.int .i64 0)).setCell ⟨gb339, 0, none⟩ (.int .i64 18)) = w48 at n0_ n1_ n2_ n3_ n4_ ⊢
                    have HO_13 := n0_
                    have BK331 := n1_
                    have BK332 := n2_
                    have BK339 := n3_
                    have HB := n4_
                    clear n0_ n1_ n2_ n3_ n4_
                    have n0_ := Aside0.mk (Kd.R_drew HO_13.out)
                    have n1_ := Aside0.mk (blk_drew BK331.out)
                    have n2_ := Aside0.mk (blk_drew BK332.out)
                    have n3_ := Aside0.mk (blk_drew BK339.out)
                    have n4_ := Aside0.mk (below_drew1 HB.out)
                    clear HO_13
                    clear BK331
                    clear BK332
                    clear BK339
                    clear HB
                    have HO_13 := n0_
                    have BK331 := n1_
                    have BK332 := n2_
                    have BK339 := n3_
                    have HB := n4_
                    clear n0_ n1_ n2_ n3_ n4_
                    refine start_ (n := 17) (S := fun w' => w'.cell? ⟨gb331, 0, none⟩ = some (.int .i64 a1_0) ∧ w'.cell? ⟨gb331, 1, none⟩ = some (.int .i64 a1_1) ∧ w'.cell? ⟨gb331, 2, none⟩ = some (.int .i64 a1_2) ∧ w'.cell? ⟨gb331, 3, none⟩ = some (.int .i64 a1_3) ∧ w'.cell? ⟨gb339, 0, none⟩ = some (.int .i64 18) ∧ w'.cell? ⟨gb339, 1, none⟩ = some (.int .i64 0) ∧ w'.cell? ⟨gb339, 2, none⟩ = some (.int .i64 0) ∧ w'.cell? ⟨gb339, 3, none⟩ = some (.int .i64 0) ∧ w'.cell? ⟨gb339, 4, none⟩ = some (.int .i64 0) ∧ w'.cell? ⟨gb339, 5, none⟩ = some (.int .i64 65536) ∧ w'.cell? ⟨gb339, 6, none⟩ = some (.int .i64 0) ∧ w'.cell? ⟨gb339, 7, none⟩ = some (.int .i64 0) ∧ w'.cell? ⟨gb339, 8, none⟩ = some (.int .i64 65536) ∧ w'.cell? ⟨gb339, 9, none⟩ = some (.int .i64 0) ∧ w'.cell? ⟨gb339, 10, none⟩ = some (.int .i64 0) ∧ w'.cell? ⟨gb339, 11, none⟩ = some (.int .i64 (wrap64 (Int.tmod a4 3))) ∧ w'.cell? ⟨gb339, 12, none⟩ = some (.slice Ao43 x13_2.length co43) ∧ w'.cell? ⟨gb339, 13, none⟩ = some (.int .i64 0) ∧ w'.cell? ⟨gb332, 0, none⟩ = some (.int .i64 a5_0) ∧ w'.cell? ⟨gb332, 1, none⟩ = some (.int .i64 a5_1)) (ds := []) #[false, false, false, false, false, false, false, false, false, false, false, false, false, false, false, false, false] (by kernel_rfl) rfl rfl ⟨(blk_cell BK331.out 0).trans rfl, (blk_cell BK331.out 1).trans rfl, (blk_cell BK331.out 2).trans rfl, (blk_cell BK331.out 3).trans rfl, (blk_cell BK339.out 0).trans rfl, (blk_cell BK339.out 1).trans rfl, (blk_cell BK339.out 2).trans rfl, (blk_cell BK339.out 3).trans rfl, (blk_cell BK339.out 4).trans rfl, (blk_cell BK339.out 5).trans rfl, (blk_cell BK339.out 6).trans rfl, (blk_cell BK339.out 7).trans rfl, (blk_cell BK339.out 8).trans rfl, (blk_cell BK339.out 9).trans rfl, (blk_cell BK339.out 10).trans rfl, (blk_cell BK339.out 11).trans rfl, (blk_cell BK339.out 12).trans rfl, (blk_cell BK339.out 13).trans rfl, (blk_cell BK332.out 0).trans rfl, (blk_cell BK332.out 1).trans rfl⟩ (fun hHeld => ?_); refine with_tabW celluloidlaw19_RampSame.tab14 celluloidlaw19_RampSame.bits14 (fun HT_ HW_ => ?_)
                    generalize w48.drew = w49 at HO_13 BK331 BK332 BK339 HB hHeld ⊢
                    refine pure_ (i := 0) (N := some 57) (v := ?_) (a' := ?_) #[true, false, false, false, false, false, false, false, false, false, false, false, false, false, false, false, false] rfl rfl (any_of HT_.out (by kernel_rfl)) (fun _ _ _ h => h) (Or.inl ⟨by rfl, ?_⟩) ?_ ?_
                    rotate_left
                    · intro w'
                      go_simp
                      with_reducible rfl
                    rotate_left
                    · simp only [Act.put, List.setIfInBounds_toArray, List.set_cons_zero, List.set_cons_succ, i64_w, i32_w]
                      rfl
                    refine pure_ (i := 1) (N := some 58) (v := ?_) (a' := ?_) #[true, true, false, false, false, false, false, false, false, false, false, false, false, false, false, false, false] rfl rfl (any_of HT_.out (by kernel_rfl)) (fun _ _ _ h => h) (Or.inl ⟨by rfl, ?_⟩) ?_ ?_
                    rotate_left
                    · intro w'
                      go_simp
                      with_reducible rfl
                    rotate_left
                    · simp only [Act.put, List.setIfInBounds_toArray, List.set_cons_zero, List.set_cons_succ, i64_w, i32_w]
                      rfl
                    refine pure_ (i := 2) (N := some 59) (v := ?_) (a' := ?_) #[true, true, true, false, false, false, false, false, false, false, false, false, false, false, false, false, false] rfl rfl (any_of HT_.out (by kernel_rfl)) (fun _ _ _ h => h) (Or.inl ⟨by rfl, ?_⟩) ?_ ?_
                    rotate_left
                    · intro w'
                      go_simp
                      with_reducible rfl
                    rotate_left
                    · simp only [Act.put, List.setIfInBounds_toArray, List.set_cons_zero, List.set_cons_succ, i64_w, i32_w]
                      rfl
                    refine take_ (i := 4) (N := some 61) (v := ?_) (a' := ?_) #[true, true, true, false, true, false, false, false, false, false, false, false, false, false, false, false, false] rfl rfl (take_ofW HT_.out HW_.out (by kernel_rfl)) (fun _ _ _ h => h) (Or.inl ⟨by rfl, ?_⟩) hHeld ?_ ?_
                    rotate_left
                    · rintro w' ⟨s0, s1, s2, s3, s4, s5, s6, s7, s8, s9, s10, s11, s12, s13, s14, s15, s16, s17, s18, s19⟩
                      go_simp
                      with_reducible rfl
                    rotate_left
                    · simp only [Act.put, List.setIfInBounds_toArray, List.set_cons_zero, List.set_cons_succ, i64_w, i32_w]
                      rfl
                    refine one_ (i := 3) (N := some 60) #[true, true, true, true, true, false, false, false, false, false, false, false, false, false, false, false, false] rfl rfl (one_of HT_.out (by kernel_rfl)) (by decide) (fun K hK => ?_)
                    refine goes_ Try.func13 (by kernel_rfl) rfl #[.slice Ao43 x13_2.length co43, .int .i64 (wrap64 (a2))] (by rfl) rfl rfl (by (try simp only [List.map_toArray, List.map_cons, List.map_nil]); first | done | rfl | (simp only [List.length_drop, List.length_take]; rfl)) ?_
                    with_reducible refine (ramp_Color.calls k2 _ _ x13_2 (wrap64 (a2)) t340 t341 t342 t343 _ ?side1 ?side2 A28.out).mono ?_
                    (case side1 => repeat (first | exact (Kd.R_reads' HO_13.out).2.2 | (with_reducible refine Kd.C_alloc ?_ _) | (with_reducible refine Kd.C_drewN ?_ _) | (with_reducible refine Kd.C_drew ?_)))
                    (case side2 => exact (Kd.R_reads' HO_13.out).2.1)
                    rintro e w50 ⟨rfl, hb⟩
                    refine ⟨_, rfl, ?_⟩
                    have n0_ := Aside0.mk (Kd.R_below (by (with_reducible repeat (first | apply Kd.R_alloc | apply Kd.R_drewN | apply Kd.R_drew)); exact HO_13.out) hb)
                    have n1_ := Aside0.mk (blk_below (g := gb331) (o := .cells #[.int .i64 a1_0, .int .i64 a1_1, .int .i64 a1_2, .int .i64 a1_3] 27 (0, 0)) (by (with_reducible repeat (first | refine blk_drewN ?_ _ | refine blk_drew ?_ | refine blk_alloc ?_ _)); exact BK331.out) hb)
                    have n2_ := Aside0.mk (blk_below (g := gb332) (o := .cells #[.int .i64 a5_0, .int .i64 a5_1] 36 (0, 0)) (by (with_reducible repeat (first | refine blk_drewN ?_ _ | refine blk_drew ?_ | refine blk_alloc ?_ _)); exact BK332.out) hb)
                    have n3_ := Aside0.mk (blk_below (g := gb339) (o := .cells #[.int .i64 18, .int .i64 0, .int .i64 0, .int .i64 0, .int .i64 0, .int .i64 65536, .int .i64 0, .int .i64 0, .int .i64 65536, .int .i64 0, .int .i64 0, .int .i64 (wrap64 (Int.tmod a4 3)), .slice Ao43 x13_2.length co43, .int .i64 0] 43 (0, 0)) (by (with_reducible repeat (first | refine blk_drewN ?_ _ | refine blk_drew ?_ | refine blk_alloc ?_ _)); exact BK339.out) hb)
                    have n4_ := Aside0.mk (below_step (by repeat (first | (with_reducible first | exact HB.out | apply below_alloc | apply pw_below_drewN | apply below_drew1 | refine below_set ?_ GE331.out | refine below_set ?_ GE332.out | refine below_set ?_ GE339.out) | exact HB.out)) hb)
                    clear HO_13
                    clear BK331
                    clear BK332
                    clear BK339
                    clear HB
                    have HO_13 := n0_
                    have BK331 := n1_
                    have BK332 := n2_
                    have BK339 := n3_
                    have HB := n4_
                    clear n0_ n1_ n2_ n3_ n4_
                    (try clear hb)
                    (try clear hb2)
                    (try clear hk)
                    (try clear hi)
                    refine hK.out _ _ ⟨(blk_cell BK331.out 0).trans rfl, (blk_cell BK331.out 1).trans rfl, (blk_cell BK331.out 2).trans rfl, (blk_cell BK331.out 3).trans rfl, (blk_cell BK339.out 0).trans rfl, (blk_cell BK339.out 1).trans rfl, (blk_cell BK339.out 2).trans rfl, (blk_cell BK339.out 3).trans rfl, (blk_cell BK339.out 4).trans rfl, (blk_cell BK339.out 5).trans rfl, (blk_cell BK339.out 6).trans rfl, (blk_cell BK339.out 7).trans rfl, (blk_cell BK339.out 8).trans rfl, (blk_cell BK339.out 9).trans rfl, (blk_cell BK339.out 10).trans rfl, (blk_cell BK339.out 11).trans rfl, (blk_cell BK339.out 12).trans rfl, (blk_cell BK339.out 13).trans rfl, (blk_cell BK332.out 0).trans rfl, (blk_cell BK332.out 1).trans rfl⟩ (fun hHeld => ?_)
                    clear hK K
                    refine norm_ (a' := ?_) ?_ ?_
                    rotate_left
                    · show Act.put _ (some 60) _ = _
                      simp only [Act.put, List.setIfInBounds_toArray, List.set_cons_zero, List.set_cons_succ, i64_w, i32_w]
                      rfl
                    refine pure_ (i := 5) (N := some 62) (v := ?_) (a' := ?_) #[true, true, true, true, true, true, false, false, false, false, false, false, false, false, false, false, false] rfl rfl (any_of HT_.out (by kernel_rfl)) (fun _ _ _ h => h) (Or.inl ⟨by rfl, ?_⟩) ?_ ?_
                    rotate_left
                    · intro w'
                      go_simp
                      with_reducible rfl
                    rotate_left
                    · simp only [Act.put, List.setIfInBounds_toArray, List.set_cons_zero, List.set_cons_succ, i64_w, i32_w]
                      rfl
                    refine pure_ (i := 6) (N := some 63) (v := ?_) (a' := ?_) #[true, true, true, true, true, true, true, false, false, false, false, false, false, false, false, false, false] rfl rfl (any_of HT_.out (by kernel_rfl)) (fun _ _ _ h => h) (Or.inl ⟨by rfl, ?_⟩) ?_ ?_
                    rotate_left
                    · intro w'
                      go_simp
                      with_reducible rfl
                    rotate_left
                    · simp only [Act.put, List.setIfInBounds_toArray, List.set_cons_zero, List.set_cons_succ, i64_w, i32_w]
                      rfl
                    refine take_ (i := 7) (N := some 64) (v := ?_) (a' := ?_) #[true, true, true, true, true, true, true, true, false, false, false, false, false, false, false, false, false] rfl rfl (take_ofW HT_.out HW_.out (by kernel_rfl)) (fun _ _ _ h => h) (Or.inl ⟨by rfl, ?_⟩) hHeld ?_ ?_
                    rotate_left
                    · rintro w' ⟨s0, s1, s2, s3, s4, s5, s6, s7, s8, s9, s10, s11, s12, s13, s14, s15, s16, s17, s18, s19⟩
                      go_simp
                      with_reducible rfl
                    rotate_left
                    · simp only [Act.put, List.setIfInBounds_toArray, List.set_cons_zero, List.set_cons_succ, i64_w, i32_w]
                      rfl
                    refine take_ (i := 8) (N := some 65) (v := ?_) (a' := ?_) #[true, true, true, true, true, true, true, true, true, false, false, false, false, false, false, false, false] rfl rfl (take_ofW HT_.out HW_.out (by kernel_rfl)) (fun _ _ _ h => h) (Or.inl ⟨by rfl, ?_⟩) hHeld ?_ ?_
                    rotate_left
                    · rintro w' ⟨s0, s1, s2, s3, s4, s5, s6, s7, s8, s9, s10, s11, s12, s13, s14, s15, s16, s17, s18, s19⟩
                      go_simp
                      with_reducible rfl
                    rotate_left
                    · simp only [Act.put, List.setIfInBounds_toArray, List.set_cons_zero, List.set_cons_succ, i64_w, i32_w]
                      rfl
                    refine take_ (i := 10) (N := some 67) (v := ?_) (a' := ?_) #[true, true, true, true, true, true, true, true, true, false, true, false, false, false, false, false, false] rfl rfl (take_ofW HT_.out HW_.out (by kernel_rfl)) (fun _ _ _ h => h) (Or.inl ⟨by rfl, ?_⟩) hHeld ?_ ?_
                    rotate_left
                    · rintro w' ⟨s0, s1, s2, s3, s4, s5, s6, s7, s8, s9, s10, s11, s12, s13, s14, s15, s16, s17, s18, s19⟩
                      go_simp
                      with_reducible rfl
                    rotate_left
                    · simp only [Act.put, List.setIfInBounds_toArray, List.set_cons_zero, List.set_cons_succ, i64_w, i32_w]
                      rfl
                    refine one_ (i := 9) (N := some 66) #[true, true, true, true, true, true, true, true, true, true, true, false, false, false, false, false, false] rfl rfl (one_of HT_.out (by kernel_rfl)) (by decide) (fun K hK => ?_)
                    refine goes_ Try.func19 (by kernel_rfl) rfl #[.agg #[.int .i64 18, .int .i64 0, .int .i64 0, .int .i64 0, .int .i64 0, .int .i64 65536, .int .i64 0, .int .i64 0, .int .i64 65536, .int .i64 0, .int .i64 0, .int .i64 (wrap64 (Int.tmod a4 3)), .slice Ao43 x13_2.length co43, .int .i64 0], .agg #[.int .i64 a5_0, .int .i64 a5_1]] (by rfl) rfl rfl (by (try simp only [List.map_toArray, List.map_cons, List.map_nil]); first | done | rfl | (simp only [List.length_drop, List.length_take]; rfl)) ?_
                    with_reducible refine (ramp_At.calls k2 18 0 0 0 0 65536 0 0 65536 0 0 (wrap64 (Int.tmod a4 3)) _ _ x13_2 0 a5_0 a5_1 t344 t345 t346 t347 _ ?side1 ?side2 A30.out).mono ?_
                    (case side1 => repeat (first | exact (Kd.R_reads' HO_13.out).2.2 | (with_reducible refine Kd.C_alloc ?_ _) | (with_reducible refine Kd.C_drewN ?_ _) | (with_reducible refine Kd.C_drew ?_)))
                    (case side2 => exact (Kd.R_reads' HO_13.out).2.1)
                    rintro e w51 ⟨rfl, hb⟩
                    refine ⟨_, rfl, ?_⟩
                    have n0_ := Aside0.mk (Kd.R_below (by (with_reducible repeat (first | apply Kd.R_alloc | apply Kd.R_drewN | apply Kd.R_drew)); exact HO_13.out) hb)
                    have n1_ := Aside0.mk (blk_below (g := gb331) (o := .cells #[.int .i64 a1_0, .int .i64 a1_1, .int .i64 a1_2, .int .i64 a1_3] 27 (0, 0)) (by (with_reducible repeat (first | refine blk_drewN ?_ _ | refine blk_drew ?_ | refine blk_alloc ?_ _)); exact BK331.out) hb)
                    have n2_ := Aside0.mk (blk_below (g := gb332) (o := .cells #[.int .i64 a5_0, .int .i64 a5_1] 36 (0, 0)) (by (with_reducible repeat (first | refine blk_drewN ?_ _ | refine blk_drew ?_ | refine blk_alloc ?_ _)); exact BK332.out) hb)
                    have n3_ := Aside0.mk (blk_below (g := gb339) (o := .cells #[.int .i64 18, .int .i64 0, .int .i64 0, .int .i64 0, .int .i64 0, .int .i64 65536, .int .i64 0, .int .i64 0, .int .i64 65536, .int .i64 0, .int .i64 0, .int .i64 (wrap64 (Int.tmod a4 3)), .slice Ao43 x13_2.length co43, .int .i64 0] 43 (0, 0)) (by (with_reducible repeat (first | refine blk_drewN ?_ _ | refine blk_drew ?_ | refine blk_alloc ?_ _)); exact BK339.out) hb)
                    have n4_ := Aside0.mk (below_step (by repeat (first | (with_reducible first | exact HB.out | apply below_alloc | apply pw_below_drewN | apply below_drew1 | refine below_set ?_ GE331.out | refine below_set ?_ GE332.out | refine below_set ?_ GE339.out) | exact HB.out)) hb)
                    clear HO_13
                    clear BK331
                    clear BK332
                    clear BK339
                    clear HB
                    have HO_13 := n0_
                    have BK331 := n1_
                    have BK332 := n2_
                    have BK339 := n3_
                    have HB := n4_
                    clear n0_ n1_ n2_ n3_ n4_
                    (try clear hb)
                    (try clear hb2)
                    (try clear hk)
                    (try clear hi)
                    refine hK.out _ _ ⟨(blk_cell BK331.out 0).trans rfl, (blk_cell BK331.out 1).trans rfl, (blk_cell BK331.out 2).trans rfl, (blk_cell BK331.out 3).trans rfl, (blk_cell BK339.out 0).trans rfl, (blk_cell BK339.out 1).trans rfl, (blk_cell BK339.out 2).trans rfl, (blk_cell BK339.out 3).trans rfl, (blk_cell BK339.out 4).trans rfl, (blk_cell BK339.out 5).trans rfl, (blk_cell BK339.out 6).trans rfl, (blk_cell BK339.out 7).trans rfl, (blk_cell BK339.out 8).trans rfl, (blk_cell BK339.out 9).trans rfl, (blk_cell BK339.out 10).trans rfl, (blk_cell BK339.out 11).trans rfl, (blk_cell BK339.out 12).trans rfl, (blk_cell BK339.out 13).trans rfl, (blk_cell BK332.out 0).trans rfl, (blk_cell BK332.out 1).trans rfl⟩ (fun hHeld => ?_)
                    clear hK K
                    refine norm_ (a' := ?_) ?_ ?_
                    rotate_left
                    · show Act.put _ (some 66) _ = _
                      simp only [Act.put, List.setIfInBounds_toArray, List.set_cons_zero, List.set_cons_succ, i64_w, i32_w]
                      rfl
                    refine pure_ (i := 11) (N := some 68) (v := ?_) (a' := ?_) #[true, true, true, true, true, true, true, true, true, true, true, true, false, false, false, false, false] rfl rfl (any_of HT_.out (by kernel_rfl)) (fun _ _ _ h => h) (Or.inl ⟨by rfl, ?_⟩) ?_ ?_
                    rotate_left
                    · intro w'
                      go_simp
                      with_reducible rfl
                    rotate_left
                    · simp only [Act.put, List.setIfInBounds_toArray, List.set_cons_zero, List.set_cons_succ, i64_w, i32_w]
                      rfl
                    refine pure_ (i := 12) (N := some 69) (v := ?_) (a' := ?_) #[true, true, true, true, true, true, true, true, true, true, true, true, true, false, false, false, false] rfl rfl (any_of HT_.out (by kernel_rfl)) (fun _ _ _ h => h) (Or.inl ⟨by rfl, ?_⟩) ?_ ?_
                    rotate_left
                    · intro w'
                      go_simp
                      with_reducible rfl
                    rotate_left
                    · simp only [Act.put, List.setIfInBounds_toArray, List.set_cons_zero, List.set_cons_succ, i64_w, i32_w]
                      rfl
                    refine pure_ (i := 13) (N := some 70) (v := ?_) (a' := ?_) #[true, true, true, true, true, true, true, true, true, true, true, true, true, true, false, false, false] rfl rfl (any_of HT_.out (by kernel_rfl)) (fun _ _ _ h => h) (Or.inl ⟨by rfl, ?_⟩) ?_ ?_
                    rotate_left
                    · intro w'
                      go_simp
                      with_reducible rfl
                    rotate_left
                    · simp only [Act.put, List.setIfInBounds_toArray, List.set_cons_zero, List.set_cons_succ, i64_w, i32_w]
                      rfl
                    refine pure_ (i := 14) (N := some 71) (v := undef) (a' := ?_) #[true, true, true, true, true, true, true, true, true, true, true, true, true, true, true, false, false] rfl rfl (any_of HT_.out (by kernel_rfl)) (fun _ _ _ h => h) (Or.inr ⟨by rfl, rfl⟩) ?_ ?_
                    rotate_left
                    · simp only [Act.put, List.setIfInBounds_toArray, List.set_cons_zero, List.set_cons_succ, i64_w, i32_w]
                      rfl
                    refine pure_ (i := 15) (N := some 72) (v := ?_) (a' := ?_) #[true, true, true, true, true, true, true, true, true, true, true, true, true, true, true, true, false] rfl rfl (any_of HT_.out (by kernel_rfl)) (fun _ _ _ h => h) (Or.inl ⟨by rfl, ?_⟩) ?_ ?_
                    rotate_left
                    · intro w'
                      go_simp
                      with_reducible rfl
                    rotate_left
                    · simp only [Act.put, List.setIfInBounds_toArray, List.set_cons_zero, List.set_cons_succ, i64_w, i32_w]
                      rfl
                    refine pure_ (i := 16) (N := some 12) (v := ?_) (a' := ?_) #[true, true, true, true, true, true, true, true, true, true, true, true, true, true, true, true, true] rfl rfl (any_of HT_.out (by kernel_rfl)) (fun _ _ _ h => h) (Or.inl ⟨by rfl, ?_⟩) ?_ ?_
                    rotate_left
                    · intro w'
                      go_simp
                      with_reducible rfl
                    rotate_left
                    · simp only [Act.put, List.setIfInBounds_toArray, List.set_cons_zero, List.set_cons_succ, i64_w, i32_w]
                      rfl
                    refine done_ (done_of HT_.out (by kernel_rfl)) ?_
                    try go_wp2
                    go_ret
                    exact ⟨by first | rfl | (simp [errW_none, errW_some] <;> rfl) | (simp [*, errW_none, errW_some] <;> rfl), by repeat (first | (with_reducible first | exact HB.out | apply below_alloc | apply pw_below_drewN | apply below_drew1 | refine below_set ?_ GE331.out | refine below_set ?_ GE332.out | refine below_set ?_ GE339.out) | exact HB.out)⟩
                · rw [if_neg c29] at H
                  have c29b0 : (t340 == a1_0 && (t341 == a1_1 && (t342 == a1_2 && (t343 == a1_3)))) = false := by simpa using c29
                  (try (have c29b1 : decide (t340 = a1_0 && (t341 == a1_1 && (t342 == a1_2 && (t343 == a1_3)))) = false := by simpa using c29))
                  (try (have c29b2 : (t340 == a1_0 && (t341 == a1_1 && (t342 == a1_2 && (t343 == a1_3)))) = false := by simpa using c29))
                  (try (have c29b3 : ¬ (t340 = a1_0 && (t341 == a1_1 && (t342 == a1_2 && (t343 == a1_3)))) := by simpa using c29))
                  clear c29
                  obtain rfl := Option.some.inj H
                  obtain ⟨Ao52, co52, eo52⟩ := Kd.R_slice HO_13.out
                  subst eo52
                  try go_wp2_with (first | ((with_reducible refine gate_dst (N := 17) rfl ?_); (try (refine gate_guard (by rfl) ?_; dsimp only)); refine box_event ?hg (N := 17) ?hd (cs := #[.int .i64 0, .int .i64 0, .int .i64 0, .int .i64 0, .int .i64 0, .int .i64 0, .int .i64 0, .int .i64 0, .int .i64 0, .int .i64 0, .int .i64 0, .int .i64 0, .slice none 0 0, .int .i64 0]) (t := 43) ?hr ?_; (case hd => rfl); (case hg => rfl); (case hr => first | (go_simp; done) | (go_simp; rfl)); intro gb339 hg w53 hbox hb; have n0_ := Aside0.mk (Kd.R_below (by (with_reducible repeat (first | apply Kd.R_alloc | apply Kd.R_drewN | apply Kd.R_drew)); exact HO_13.out) hb); have n1_ := Aside0.mk (blk_below (g := gb331) (o := .cells #[.int .i64 a1_0, .int .i64 a1_1, .int .i64 a1_2, .int .i64 a1_3] 27 (0, 0)) (by (with_reducible repeat (first | refine blk_drewN ?_ _ | refine blk_drew ?_ | refine blk_alloc ?_ _)); exact BK331.out) hb); have n2_ := Aside0.mk (blk_below (g := gb332) (o := .cells #[.int .i64 a5_0, .int .i64 a5_1] 36 (0, 0)) (by (with_reducible repeat (first | refine blk_drewN ?_ _ | refine blk_drew ?_ | refine blk_alloc ?_ _)); exact BK332.out) hb); have n3_ := Aside0.mk (below_step (by repeat (first | (with_reducible first | exact HB.out | apply below_alloc | apply pw_below_drewN | apply below_drew1 | refine below_set ?_ GE331.out | refine below_set ?_ GE332.out) | exact HB.out)) hb); have n4_ := Aside0.mk (hbox); have n5_ := Aside0.mk ((by rw [hg]; exact (below_size (by repeat (first | (with_reducible first | exact HB.out | apply below_alloc | apply pw_below_drewN | apply below_drew1 | refine below_set ?_ GE331.out | refine below_set ?_ GE332.out) | exact HB.out))) : w.heap.size ≤ gb339)); have n6_ := Aside0.mk ((by rw [hg]; exact (below_size (by repeat (first | (with_reducible first | exact HB.out | apply below_alloc | apply pw_below_drewN | apply below_drew1 | refine below_set ?_ GE331.out | refine below_set ?_ GE332.out) | exact HB.out))) : w.heap.size ≤ gb339)); have n7_ := Aside0.mk ((by rw [hg]; exact Nat.ne_of_lt (blk_lt (g := gb331) (o := .cells #[.int .i64 a1_0, .int .i64 a1_1, .int .i64 a1_2, .int .i64 a1_3] 27 (0, 0)) (by (with_reducible repeat (first | refine blk_drewN ?_ _ | refine blk_drew ?_ | refine blk_alloc ?_ _)); exact BK331.out)) : gb331 ≠ gb339)); have n8_ := Aside0.mk ((by rw [hg]; exact Nat.ne_of_gt (blk_lt (g := gb331) (o := .cells #[.int .i64 a1_0, .int .i64 a1_1, .int .i64 a1_2, .int .i64 a1_3] 27 (0, 0)) (by (with_reducible repeat (first | refine blk_drewN ?_ _ | refine blk_drew ?_ | refine blk_alloc ?_ _)); exact BK331.out)) : gb339 ≠ gb331)); have n9_ := Aside0.mk ((by rw [hg]; exact Nat.ne_of_lt (blk_lt (g := gb332) (o := .cells #[.int .i64 a5_0, .int .i64 a5_1] 36 (0, 0)) (by (with_reducible repeat (first | refine blk_drewN ?_ _ | refine blk_drew ?_ | refine blk_alloc ?_ _)); exact BK332.out)) : gb332 ≠ gb339)); have n10_ := Aside0.mk ((by rw [hg]; exact Nat.ne_of_gt (blk_lt (g := gb332) (o := .cells #[.int .i64 a5_0, .int .i64 a5_1] 36 (0, 0)) (by (with_reducible repeat (first | refine blk_drewN ?_ _ | refine blk_drew ?_ | refine blk_alloc ?_ _)); exact BK332.out)) : gb339 ≠ gb332)); clear HO_13; clear BK331; clear BK332; clear HB; have HO_13 := n0_; have BK331 := n1_; have BK332 := n2_; have HB := n3_; have BK339 := n4_; have GW339 := n5_; have GE339 := n6_; have NB331_339 := n7_; have NB339_331 := n8_; have NB332_339 := n9_; have NB339_332 := n10_; clear n0_ n1_ n2_ n3_ n4_ n5_ n6_ n7_ n8_ n9_ n10_; clear hb hbox hg; have hnb54 := NB339_331.out; have hnc54 := NB331_339.out; have hnb55 := NB339_332.out; have hnc55 := NB332_339.out; have hcz56_0 : w53.cell? ⟨gb339, 0, none⟩ = some (.int .i64 0) := (blk_cell BK339.out 0).trans rfl; have hcz56_1 : w53.cell? ⟨gb339, 1, none⟩ = some (.int .i64 0) := (blk_cell BK339.out 1).trans rfl; have hcz56_2 : w53.cell? ⟨gb339, 2, none⟩ = some (.int .i64 0) := (blk_cell BK339.out 2).trans rfl; have hcz56_3 : w53.cell? ⟨gb339, 3, none⟩ = some (.int .i64 0) := (blk_cell BK339.out 3).trans rfl; have hcz56_4 : w53.cell? ⟨gb339, 4, none⟩ = some (.int .i64 0) := (blk_cell BK339.out 4).trans rfl; have hcz56_5 : w53.cell? ⟨gb339, 5, none⟩ = some (.int .i64 0) := (blk_cell BK339.out 5).trans rfl; have hcz56_6 : w53.cell? ⟨gb339, 6, none⟩ = some (.int .i64 0) := (blk_cell BK339.out 6).trans rfl; have hcz56_7 : w53.cell? ⟨gb339, 7, none⟩ = some (.int .i64 0) := (blk_cell BK339.out 7).trans rfl; have hcz56_8 : w53.cell? ⟨gb339, 8, none⟩ = some (.int .i64 0) := (blk_cell BK339.out 8).trans rfl; have hcz56_9 : w53.cell? ⟨gb339, 9, none⟩ = some (.int .i64 0) := (blk_cell BK339.out 9).trans rfl; have hcz56_10 : w53.cell? ⟨gb339, 10, none⟩ = some (.int .i64 0) := (blk_cell BK339.out 10).trans rfl; have hcz56_11 : w53.cell? ⟨gb339, 11, none⟩ = some (.int .i64 0) := (blk_cell BK339.out 11).trans rfl; have hcz56_12 : w53.cell? ⟨gb339, 12, none⟩ = some (.slice none 0 0) := (blk_cell BK339.out 12).trans rfl; have hcz56_13 : w53.cell? ⟨gb339, 13, none⟩ = some (.int .i64 0) := (blk_cell BK339.out 13).trans rfl; have hfz56_0 := blk_frozen BK339.out 0; have hfz56_1 := blk_frozen BK339.out 1; have hfz56_2 := blk_frozen BK339.out 2; have hfz56_3 := blk_frozen BK339.out 3; have hfz56_4 := blk_frozen BK339.out 4; have hfz56_5 := blk_frozen BK339.out 5; have hfz56_6 := blk_frozen BK339.out 6; have hfz56_7 := blk_frozen BK339.out 7; have hfz56_8 := blk_frozen BK339.out 8; have hfz56_9 := blk_frozen BK339.out 9; have hfz56_10 := blk_frozen BK339.out 10; have hfz56_11 := blk_frozen BK339.out 11; have hfz56_12 := blk_frozen BK339.out 12; have hfz56_13 := blk_frozen BK339.out 13))
                  have n0_ : Aside0 (Kd.R k32 32 (((((((((((((((w53.setCell ⟨gb339, 0, none⟩ (.int .i64 16)).setCell ⟨gb339, 1, none⟩ (.int .i64 0)).setCell ⟨gb339, 2, none⟩ (.int .i64 0)).setCell ⟨gb339, 3, none⟩ (.int .i64 0)).setCell ⟨gb339, 4, none⟩ (.int .i64 0)).setCell ⟨gb339, 5, none⟩ (.int .i64 65536)).setCell ⟨gb339, 6, none⟩ (.int .i64 0)).setCell ⟨gb339, 7, none⟩ (.int .i64 0)).setCell ⟨gb339, 8, none⟩ (.int .i64 65536)).setCell ⟨gb339, 9, none⟩ (.int .i64 0)).setCell ⟨gb339, 10, none⟩ (.int .i64 0)).setCell ⟨gb339, 11, none⟩ (.int .i64 (wrap64 (Int.tmod a4 3)))).setCell ⟨gb339, 12, none⟩ (.slice Ao52 x13_2.length co52)).setCell ⟨gb339, 13, none⟩ (.int .i64 0)).setCell ⟨gb339, 0, none⟩ (.int .i64 18)) w.heap.size (fun _ => True) (.slice Ao52 x13_2.length co52) x13_2) := ⟨by (with_reducible repeat (first | apply Kd.R_alloc | apply Kd.R_drewN | apply Kd.R_drew)); exact Kd.R_mono (Kd.R_far (p := ⟨gb339, 0, none⟩) (Kd.R_far (p := ⟨gb339, 13, none⟩) (Kd.R_far (p := ⟨gb339, 12, none⟩) (Kd.R_far (p := ⟨gb339, 11, none⟩) (Kd.R_far (p := ⟨gb339, 10, none⟩) (Kd.R_far (p := ⟨gb339, 9, none⟩) (Kd.R_far (p := ⟨gb339, 8, none⟩) (Kd.R_far (p := ⟨gb339, 7, none⟩) (Kd.R_far (p := ⟨gb339, 6, none⟩) (Kd.R_far (p := ⟨gb339, 5, none⟩) (Kd.R_far (p := ⟨gb339, 4, none⟩) (Kd.R_far (p := ⟨gb339, 3, none⟩) (Kd.R_far (p := ⟨gb339, 2, none⟩) (Kd.R_far (p := ⟨gb339, 1, none⟩) (Kd.R_far (p := ⟨gb339, 0, none⟩) (Kd.R_types HO_13.out BK339.out (by decide)) (fun _ hk => hk.2) (.int .i64 16)) (fun _ hk => hk.2) (.int .i64 0)) (fun _ hk => hk.2) (.int .i64 0)) (fun _ hk => hk.2) (.int .i64 0)) (fun _ hk => hk.2) (.int .i64 0)) (fun _ hk => hk.2) (.int .i64 65536)) (fun _ hk => hk.2) (.int .i64 0)) (fun _ hk => hk.2) (.int .i64 0)) (fun _ hk => hk.2) (.int .i64 65536)) (fun _ hk => hk.2) (.int .i64 0)) (fun _ hk => hk.2) (.int .i64 0)) (fun _ hk => hk.2) (.int .i64 (wrap64 (Int.tmod a4 3)))) (fun _ hk => hk.2) (.slice Ao52 x13_2.length co52)) (fun _ hk => hk.2) (.int .i64 0)) (fun _ hk => hk.2) (.int .i64 18)) (fun _ hk => trivial)⟩
                  have n1_ : Aside0 ((((((((((((((((w53.setCell ⟨gb339, 0, none⟩ (.int .i64 16)).setCell ⟨gb339, 1, none⟩ (.int .i64 0)).setCell ⟨gb339, 2, none⟩ (.int .i64 0)).setCell ⟨gb339, 3, none⟩ (.int .i64 0)).setCell ⟨gb339, 4, none⟩ (.int .i64 0)).setCell ⟨gb339, 5, none⟩ (.int .i64 65536)).setCell ⟨gb339, 6, none⟩ (.int .i64 0)).setCell ⟨gb339, 7, none⟩ (.int .i64 0)).setCell ⟨gb339, 8, none⟩ (.int .i64 65536)).setCell ⟨gb339, 9, none⟩ (.int .i64 0)).setCell ⟨gb339, 10, none⟩ (.int .i64 0)).setCell ⟨gb339, 11, none⟩ (.int .i64 (wrap64 (Int.tmod a4 3)))).setCell ⟨gb339, 12, none⟩ (.slice Ao52 x13_2.length co52)).setCell ⟨gb339, 13, none⟩ (.int .i64 0)).setCell ⟨gb339, 0, none⟩ (.int .i64 18)).heap[gb331]? = some (.cells #[.int .i64 a1_0, .int .i64 a1_1, .int .i64 a1_2, .int .i64 a1_3] 27 (0, 0))) := ⟨by (with_reducible repeat (first | refine blk_drewN ?_ _ | refine blk_drew ?_ | refine blk_alloc ?_ _)); refine blk_far ?_ NB331_339.out _; (with_reducible repeat (first | refine blk_drewN ?_ _ | refine blk_drew ?_ | refine blk_alloc ?_ _)); refine blk_far ?_ NB331_339.out _; (with_reducible repeat (first | refine blk_drewN ?_ _ | refine blk_drew ?_ | refine blk_alloc ?_ _)); refine blk_far ?_ NB331_339.out _; (with_reducible repeat (first | refine blk_drewN ?_ _ | refine blk_drew ?_ | refine blk_alloc ?_ _)); refine blk_far ?_ NB331_339.out _; (with_reducible repeat (first | refine blk_drewN ?_ _ | refine blk_drew ?_ | refine blk_alloc ?_ _)); refine blk_far ?_ NB331_339.out _; (with_reducible repeat (first | refine blk_drewN ?_ _ | refine blk_drew ?_ | refine blk_alloc ?_ _)); refine blk_far ?_ NB331_339.out _; (with_reducible repeat (first | refine blk_drewN ?_ _ | refine blk_drew ?_ | refine blk_alloc ?_ _)); refine blk_far ?_ NB331_339.out _; (with_reducible repeat (first | refine blk_drewN ?_ _ | refine blk_drew ?_ | refine blk_alloc ?_ _)); refine blk_far ?_ NB331_339.out _; (with_reducible repeat (first | refine blk_drewN ?_ _ | refine blk_drew ?_ | refine blk_alloc ?_ _)); refine blk_far ?_ NB331_339.out _; (with_reducible repeat (first | refine blk_drewN ?_ _ | refine blk_drew ?_ | refine blk_alloc ?_ _)); refine blk_far ?_ NB331_339.out _; (with_reducible repeat (first | refine blk_drewN ?_ _ | refine blk_drew ?_ | refine blk_alloc ?_ _)); refine blk_far ?_ NB331_339.out _; (with_reducible repeat (first | refine blk_drewN ?_ _ | refine blk_drew ?_ | refine blk_alloc ?_ _)); refine blk_far ?_ NB331_339.out _; (with_reducible repeat (first | refine blk_drewN ?_ _ | refine blk_drew ?_ | refine blk_alloc ?_ _)); refine blk_far ?_ NB331_339.out _; (with_reducible repeat (first | refine blk_drewN ?_ _ | refine blk_drew ?_ | refine blk_alloc ?_ _)); refine blk_far ?_ NB331_339.out _; (with_reducible repeat (first | refine blk_drewN ?_ _ | refine blk_drew ?_ | refine blk_alloc ?_ _)); refine blk_far ?_ NB331_339.out _; (with_reducible repeat (first | refine blk_drewN ?_ _ | refine blk_drew ?_ | refine blk_alloc ?_ _)); exact BK331.out⟩
                  have n2_ : Aside0 ((((((((((((((((w53.setCell ⟨gb339, 0, none⟩ (.int .i64 16)).setCell ⟨gb339, 1, none⟩ (.int .i64 0)).setCell ⟨gb339, 2, none⟩ (.int .i64 0)).setCell ⟨gb339, 3, none⟩ (.int .i64 0)).setCell ⟨gb339, 4, none⟩ (.int .i64 0)).setCell ⟨gb339, 5, none⟩ (.int .i64 65536)).setCell ⟨gb339, 6, none⟩ (.int .i64 0)).setCell ⟨gb339, 7, none⟩ (.int .i64 0)).setCell ⟨gb339, 8, none⟩ (.int .i64 65536)).setCell ⟨gb339, 9, none⟩ (.int .i64 0)).setCell ⟨gb339, 10, none⟩ (.int .i64 0)).setCell ⟨gb339, 11, none⟩ (.int .i64 (wrap64 (Int.tmod a4 3)))).setCell ⟨gb339, 12, none⟩ (.slice Ao52 x13_2.length co52)).setCell ⟨gb339, 13, none⟩ (.int .i64 0)).setCell ⟨gb339, 0, none⟩ (.int .i64 18)).heap[gb332]? = some (.cells #[.int .i64 a5_0, .int .i64 a5_1] 36 (0, 0))) := ⟨by (with_reducible repeat (first | refine blk_drewN ?_ _ | refine blk_drew ?_ | refine blk_alloc ?_ _)); refine blk_far ?_ NB332_339.out _; (with_reducible repeat (first | refine blk_drewN ?_ _ | refine blk_drew ?_ | refine blk_alloc ?_ _)); refine blk_far ?_ NB332_339.out _; (with_reducible repeat (first | refine blk_drewN ?_ _ | refine blk_drew ?_ | refine blk_alloc ?_ _)); refine blk_far ?_ NB332_339.out _; (with_reducible repeat (first | refine blk_drewN ?_ _ | refine blk_drew ?_ | refine blk_alloc ?_ _)); refine blk_far ?_ NB332_339.out _; (with_reducible repeat (first | refine blk_drewN ?_ _ | refine blk_drew ?_ | refine blk_alloc ?_ _)); refine blk_far ?_ NB332_339.out _; (with_reducible repeat (first | refine blk_drewN ?_ _ | refine blk_drew ?_ | refine blk_alloc ?_ _)); refine blk_far ?_ NB332_339.out _; (with_reducible repeat (first | refine blk_drewN ?_ _ | refine blk_drew ?_ | refine blk_alloc ?_ _)); refine blk_far ?_ NB332_339.out _; (with_reducible repeat (first | refine blk_drewN ?_ _ | refine blk_drew ?_ | refine blk_alloc ?_ _)); refine blk_far ?_ NB332_339.out _; (with_reducible repeat (first | refine blk_drewN ?_ _ | refine blk_drew ?_ | refine blk_alloc ?_ _)); refine blk_far ?_ NB332_339.out _; (with_reducible repeat (first | refine blk_drewN ?_ _ | refine blk_drew ?_ | refine blk_alloc ?_ _)); refine blk_far ?_ NB332_339.out _; (with_reducible repeat (first | refine blk_drewN ?_ _ | refine blk_drew ?_ | refine blk_alloc ?_ _)); refine blk_far ?_ NB332_339.out _; (with_reducible repeat (first | refine blk_drewN ?_ _ | refine blk_drew ?_ | refine blk_alloc ?_ _)); refine blk_far ?_ NB332_339.out _; (with_reducible repeat (first | refine blk_drewN ?_ _ | refine blk_drew ?_ | refine blk_alloc ?_ _)); refine blk_far ?_ NB332_339.out _; (with_reducible repeat (first | refine blk_drewN ?_ _ | refine blk_drew ?_ | refine blk_alloc ?_ _)); refine blk_far ?_ NB332_339.out _; (with_reducible repeat (first | refine blk_drewN ?_ _ | refine blk_drew ?_ | refine blk_alloc ?_ _)); refine blk_far ?_ NB332_339.out _; (with_reducible repeat (first | refine blk_drewN ?_ _ | refine blk_drew ?_ | refine blk_alloc ?_ _)); exact BK332.out⟩
                  have n3_ : Aside0 ((((((((((((((((w53.setCell ⟨gb339, 0, none⟩ (.int .i64 16)).setCell ⟨gb339, 1, none⟩ (.int .i64 0)).setCell ⟨gb339, 2, none⟩ (.int .i64 0)).setCell ⟨gb339, 3, none⟩ (.int .i64 0)).setCell ⟨gb339, 4, none⟩ (.int .i64 0)).setCell ⟨gb339, 5, none⟩ (.int .i64 65536)).setCell ⟨gb339, 6, none⟩ (.int .i64 0)).setCell ⟨gb339, 7, none⟩ (.int .i64 0)).setCell ⟨gb339, 8, none⟩ (.int .i64 65536)).setCell ⟨gb339, 9, none⟩ (.int .i64 0)).setCell ⟨gb339, 10, none⟩ (.int .i64 0)).setCell ⟨gb339, 11, none⟩ (.int .i64 (wrap64 (Int.tmod a4 3)))).setCell ⟨gb339, 12, none⟩ (.slice Ao52 x13_2.length co52)).setCell ⟨gb339, 13, none⟩ (.int .i64 0)).setCell ⟨gb339, 0, none⟩ (.int .i64 18)).heap[gb339]? = some (.cells #[.int .i64 18, .int .i64 0, .int .i64 0, .int .i64 0, .int .i64 0, .int .i64 65536, .int .i64 0, .int .i64 0, .int .i64 65536, .int .i64 0, .int .i64 0, .int .i64 (wrap64 (Int.tmod a4 3)), .slice Ao52 x13_2.length co52, .int .i64 0] 43 (0, 0))) := ⟨by (with_reducible repeat (first | refine blk_drewN ?_ _ | refine blk_drew ?_ | refine blk_alloc ?_ _)); refine blk_put (cs := #[.int .i64 16, .int .i64 0, .int .i64 0, .int .i64 0, .int .i64 0, .int .i64 65536, .int .i64 0, .int .i64 0, .int .i64 65536, .int .i64 0, .int .i64 0, .int .i64 (wrap64 (Int.tmod a4 3)), .slice Ao52 x13_2.length co52, .int .i64 0]) ?_ 0 _ rfl; (with_reducible repeat (first | refine blk_drewN ?_ _ | refine blk_drew ?_ | refine blk_alloc ?_ _)); refine blk_put (cs := #[.int .i64 16, .int .i64 0, .int .i64 0, .int .i64 0, .int .i64 0, .int .i64 65536, .int .i64 0, .int .i64 0, .int .i64 65536, .int .i64 0, .int .i64 0, .int .i64 (wrap64 (Int.tmod a4 3)), .slice Ao52 x13_2.length co52, .int .i64 0]) ?_ 13 _ rfl; (with_reducible repeat (first | refine blk_drewN ?_ _ | refine blk_drew ?_ | refine blk_alloc ?_ _)); refine blk_put (cs := #[.int .i64 16, .int .i64 0, .int .i64 0, .int .i64 0, .int .i64 0, .int .i64 65536, .int .i64 0, .int .i64 0, .int .i64 65536, .int .i64 0, .int .i64 0, .int .i64 (wrap64 (Int.tmod a4 3)), .slice none 0 0, .int .i64 0]) ?_ 12 _ rfl; (with_reducible repeat (first | refine blk_drewN ?_ _ | refine blk_drew ?_ | refine blk_alloc ?_ _)); refine blk_put (cs := #[.int .i64 16, .int .i64 0, .int .i64 0, .int .i64 0, .int .i64 0, .int .i64 65536, .int .i64 0, .int .i64 0, .int .i64 65536, .int .i64 0, .int .i64 0, .int .i64 0, .slice none 0 0, .int .i64 0]) ?_ 11 _ rfl; (with_reducible repeat (first | refine blk_drewN ?_ _ | refine blk_drew ?_ | refine blk_alloc ?_ _)); refine blk_put (cs := #[.int .i64 16, .int .i64 0, .int .i64 0, .int .i64 0, .int .i64 0, .int .i64 65536, .int .i64 0, .int .i64 0, .int .i64 65536, .int .i64 0, .int .i64 0, .int .i64 0, .slice none 0 0, .int .i64 0]) ?_ 10 _ rfl; (with_reducible repeat (first | refine blk_drewN ?_ _ | refine blk_drew ?_ | refine blk_alloc ?_ _)); refine blk_put (cs := #[.int .i64 16, .int .i64 0, .int .i64 0, .int .i64 0, .int .i64 0, .int .i64 65536, .int .i64 0, .int .i64 0, .int .i64 65536, .int .i64 0, .int .i64 0, .int .i64 0, .slice none 0 0, .int .i64 0]) ?_ 9 _ rfl; (with_reducible repeat (first | refine blk_drewN ?_ _ | refine blk_drew ?_ | refine blk_alloc ?_ _)); refine blk_put (cs := #[.int .i64 16, .int .i64 0, .int .i64 0, .int .i64 0, .int .i64 0, .int .i64 65536, .int .i64 0, .int .i64 0, .int .i64 0, .int .i64 0, .int .i64 0, .int .i64 0, .slice none 0 0, .int .i64 0]) ?_ 8 _ rfl; (with_reducible repeat (first | refine blk_drewN ?_ _ | refine blk_drew ?_ | refine blk_alloc ?_ _)); refine blk_put (cs := #[.int .i64 16, .int .i64 0, .int .i64 0, .int .i64 0, .int .i64 0, .int .i64 65536, .int .i64 0, .int .i64 0, .int .i64 0, .int .i64 0, .int .i64 0, .int .i64 0, .slice none 0 0, .int .i64 0]) ?_ 7 _ rfl; (with_reducible repeat (first | refine blk_drewN ?_ _ | refine blk_drew ?_ | refine blk_alloc ?_ _)); refine blk_put (cs := #[.int .i64 16, .int .i64 0, .int .i64 0, .int .i64 0, .int .i64 0, .int .i64 65536, .int .i64 0, .int .i64 0, .int .i64 0, .int .i64 0, .int .i64 0, .int .i64 0, .slice none 0 0, .int .i64 0]) ?_ 6 _ rfl; (with_reducible repeat (first | refine blk_drewN ?_ _ | refine blk_drew ?_ | refine blk_alloc ?_ _)); refine blk_put (cs := #[.int .i64 16, .int .i64 0, .int .i64 0, .int .i64 0, .int .i64 0, .int .i64 0, .int .i64 0, .int .i64 0, .int .i64 0, .int .i64 0, .int .i64 0, .int .i64 0, .slice none 0 0, .int .i64 0]) ?_ 5 _ rfl; (with_reducible repeat (first | refine blk_drewN ?_ _ | refine blk_drew ?_ | refine blk_alloc ?_ _)); refine blk_put (cs := #[.int .i64 16, .int .i64 0, .int .i64 0, .int .i64 0, .int .i64 0, .int .i64 0, .int .i64 0, .int .i64 0, .int .i64 0, .int .i64 0, .int .i64 0, .int .i64 0, .slice none 0 0, .int .i64 0]) ?_ 4 _ rfl; (with_reducible repeat (first | refine blk_drewN ?_ _ | refine blk_drew ?_ | refine blk_alloc ?_ _)); refine blk_put (cs := #[.int .i64 16, .int .i64 0, .int .i64 0, .int .i64 0, .int .i64 0, .int .i64 0, .int .i64 0, .int .i64 0, .int .i64 0, .int .i64 0, .int .i64 0, .int .i64 0, .slice none 0 0, .int .i64 0]) ?_ 3 _ rfl; (with_reducible repeat (first | refine blk_drewN ?_ _ | refine blk_drew ?_ | refine blk_alloc ?_ _)); refine blk_put (cs := #[.int .i64 16, .int .i64 0, .int .i64 0, .int .i64 0, .int .i64 0, .int .i64 0, .int .i64 0, .int .i64 0, .int .i64 0, .int .i64 0, .int .i64 0, .int .i64 0, .slice none 0 0, .int .i64 0]) ?_ 2 _ rfl; (with_reducible repeat (first | refine blk_drewN ?_ _ | refine blk_drew ?_ | refine blk_alloc ?_ _)); refine blk_put (cs := #[.int .i64 16, .int .i64 0, .int .i64 0, .int .i64 0, .int .i64 0, .int .i64 0, .int .i64 0, .int .i64 0, .int .i64 0, .int .i64 0, .int .i64 0, .int .i64 0, .slice none 0 0, .int .i64 0]) ?_ 1 _ rfl; (with_reducible repeat (first | refine blk_drewN ?_ _ | refine blk_drew ?_ | refine blk_alloc ?_ _)); refine blk_put (cs := #[.int .i64 0, .int .i64 0, .int .i64 0, .int .i64 0, .int .i64 0, .int .i64 0, .int .i64 0, .int .i64 0, .int .i64 0, .int .i64 0, .int .i64 0, .int .i64 0, .slice none 0 0, .int .i64 0]) ?_ 0 _ rfl; (with_reducible repeat (first | refine blk_drewN ?_ _ | refine blk_drew ?_ | refine blk_alloc ?_ _)); exact BK339.out⟩
                  have n4_ : Aside0 (Below w.heap.size w (((((((((((((((w53.setCell ⟨gb339, 0, none⟩ (.int .i64 16)).setCell ⟨gb339, 1, none⟩ (.int .i64 0)).setCell ⟨gb339, 2, none⟩ (.int .i64 0)).setCell ⟨gb339, 3, none⟩ (.int .i64 0)).setCell ⟨gb339, 4, none⟩ (.int .i64 0)).setCell ⟨gb339, 5, none⟩ (.int .i64 65536)).setCell ⟨gb339, 6, none⟩ (.int .i64 0)).setCell ⟨gb339, 7, none⟩ (.int .i64 0)).setCell ⟨gb339, 8, none⟩ (.int .i64 65536)).setCell ⟨gb339, 9, none⟩ (.int .i64 0)).setCell ⟨gb339, 10, none⟩ (.int .i64 0)).setCell ⟨gb339, 11, none⟩ (.int .i64 (wrap64 (Int.tmod a4 3)))).setCell ⟨gb339, 12, none⟩ (.slice Ao52 x13_2.length co52)).setCell ⟨gb339, 13, none⟩ (.int .i64 0)).setCell ⟨gb339, 0, none⟩ (.int .i64 18))) := ⟨by repeat (first | (with_reducible first | exact HB.out | apply below_alloc | apply pw_below_drewN | apply below_drew1 | refine below_set ?_ GE331.out | refine below_set ?_ GE332.out | refine below_set ?_ GE339.out) | exact HB.out)⟩
                  (try clear HO_13)
                  (try clear BK331)
                  (try clear BK332)
                  (try clear BK339)
                  (try clear HB)
                  generalize (((((((((((((((w53.setCell ⟨gb339, 0, none⟩ (.int .i64 16)).setCell ⟨gb339, 1, none⟩ (.int .i64 0)).setCell ⟨gb339, 2, none⟩ (.int .i64 0)).setCell ⟨gb339, 3, none⟩ (.int .i64 0)).setCell ⟨gb339, 4, none⟩ (.int .i64 0)).setCell ⟨gb339, 5, none⟩ (.int .i64 65536)).setCell ⟨gb339, 6, none⟩ (.int .i64 0)).setCell ⟨gb339, 7, none⟩ (.int .i64 0)).setCell ⟨gb339, 8, none⟩ (.int .i64 65536)).setCell ⟨gb339, 9, none⟩ (.int .i64 0)).setCell ⟨gb339, 10, none⟩ (.int .i64 0)).setCell ⟨gb339, 11, none⟩ (.int .i64 (wrap64 (Int.tmod a4 3)))).setCell ⟨gb339, 12, none⟩ (.slice Ao52 x13_2.length co52)).setCell ⟨gb339, 13, none⟩ (.int .i64 0)).setCell ⟨gb339, 0, none⟩ (.int .i64 18)) = w57 at n0_ n1_ n2_ n3_ n4_ ⊢
                  have HO_13 := n0_
                  have BK331 := n1_
                  have BK332 := n2_
                  have BK339 := n3_
                  have HB := n4_
                  clear n0_ n1_ n2_ n3_ n4_
                  have n0_ := Aside0.mk (Kd.R_drew HO_13.out)
                  have n1_ := Aside0.mk (blk_drew BK331.out)
                  have n2_ := Aside0.mk (blk_drew BK332.out)
                  have n3_ := Aside0.mk (blk_drew BK339.out)
                  have n4_ := Aside0.mk (below_drew1 HB.out)
                  clear HO_13
                  clear BK331
                  clear BK332
                  clear BK339
                  clear HB
                  have HO_13 := n0_
                  have BK331 := n1_
                  have BK332 := n2_
                  have BK339 := n3_
                  have HB := n4_
                  clear n0_ n1_ n2_ n3_ n4_
                  refine start_ (n := 17) (S := fun w' => w'.cell? ⟨gb331, 0, none⟩ = some (.int .i64 a1_0) ∧ w'.cell? ⟨gb331, 1, none⟩ = some (.int .i64 a1_1) ∧ w'.cell? ⟨gb331, 2, none⟩ = some (.int .i64 a1_2) ∧ w'.cell? ⟨gb331, 3, none⟩ = some (.int .i64 a1_3)) (ds := []) #[false, false, false, false, false, false, false, false, false, false, false, false, false, false, false, false, false] (by kernel_rfl) rfl rfl ⟨(blk_cell BK331.out 0).trans rfl, (blk_cell BK331.out 1).trans rfl, (blk_cell BK331.out 2).trans rfl, (blk_cell BK331.out 3).trans rfl⟩ (fun hHeld => ?_); refine with_tabW celluloidlaw19_RampSame.tab14 celluloidlaw19_RampSame.bits14 (fun HT_ HW_ => ?_)
                  generalize w57.drew = w58 at HO_13 BK331 BK332 BK339 HB hHeld ⊢
                  refine pure_ (i := 0) (N := some 57) (v := ?_) (a' := ?_) #[true, false, false, false, false, false, false, false, false, false, false, false, false, false, false, false, false] rfl rfl (any_of HT_.out (by kernel_rfl)) (fun _ _ _ h => h) (Or.inl ⟨by rfl, ?_⟩) ?_ ?_
                  rotate_left
                  · intro w'
                    go_simp
                    with_reducible rfl
                  rotate_left
                  · simp only [Act.put, List.setIfInBounds_toArray, List.set_cons_zero, List.set_cons_succ, i64_w, i32_w]
                    rfl
                  refine pure_ (i := 1) (N := some 58) (v := ?_) (a' := ?_) #[true, true, false, false, false, false, false, false, false, false, false, false, false, false, false, false, false] rfl rfl (any_of HT_.out (by kernel_rfl)) (fun _ _ _ h => h) (Or.inl ⟨by rfl, ?_⟩) ?_ ?_
                  rotate_left
                  · intro w'
                    go_simp
                    with_reducible rfl
                  rotate_left
                  · simp only [Act.put, List.setIfInBounds_toArray, List.set_cons_zero, List.set_cons_succ, i64_w, i32_w]
                    rfl
                  refine pure_ (i := 2) (N := some 59) (v := ?_) (a' := ?_) #[true, true, true, false, false, false, false, false, false, false, false, false, false, false, false, false, false] rfl rfl (any_of HT_.out (by kernel_rfl)) (fun _ _ _ h => h) (Or.inl ⟨by rfl, ?_⟩) ?_ ?_
                  rotate_left
                  · intro w'
                    go_simp
                    with_reducible rfl
                  rotate_left
                  · simp only [Act.put, List.setIfInBounds_toArray, List.set_cons_zero, List.set_cons_succ, i64_w, i32_w]
                    rfl
                  refine take_ (i := 4) (N := some 61) (v := ?_) (a' := ?_) #[true, true, true, false, true, false, false, false, false, false, false, false, false, false, false, false, false] rfl rfl (take_ofW HT_.out HW_.out (by kernel_rfl)) (fun _ _ _ h => h) (Or.inl ⟨by rfl, ?_⟩) hHeld ?_ ?_
                  rotate_left
                  · rintro w' ⟨s0, s1, s2, s3⟩
                    go_simp
                    with_reducible rfl
                  rotate_left
                  · simp only [Act.put, List.setIfInBounds_toArray, List.set_cons_zero, List.set_cons_succ, i64_w, i32_w]
                    rfl
                  refine one_ (i := 3) (N := some 60) #[true, true, true, true, true, false, false, false, false, false, false, false, false, false, false, false, false] rfl rfl (one_of HT_.out (by kernel_rfl)) (by decide) (fun K hK => ?_)
                  refine goes_ Try.func13 (by kernel_rfl) rfl #[.slice Ao52 x13_2.length co52, .int .i64 (wrap64 (a2))] (by rfl) rfl rfl (by (try simp only [List.map_toArray, List.map_cons, List.map_nil]); first | done | rfl | (simp only [List.length_drop, List.length_take]; rfl)) ?_
                  with_reducible refine (ramp_Color.calls k2 _ _ x13_2 (wrap64 (a2)) t340 t341 t342 t343 _ ?side1 ?side2 A28.out).mono ?_
                  (case side1 => repeat (first | exact (Kd.R_reads' HO_13.out).2.2 | (with_reducible refine Kd.C_alloc ?_ _) | (with_reducible refine Kd.C_drewN ?_ _) | (with_reducible refine Kd.C_drew ?_)))
                  (case side2 => exact (Kd.R_reads' HO_13.out).2.1)
                  rintro e w59 ⟨rfl, hb⟩
                  refine ⟨_, rfl, ?_⟩
                  have n0_ := Aside0.mk (Kd.R_below (by (with_reducible repeat (first | apply Kd.R_alloc | apply Kd.R_drewN | apply Kd.R_drew)); exact HO_13.out) hb)
                  have n1_ := Aside0.mk (blk_below (g := gb331) (o := .cells #[.int .i64 a1_0, .int .i64 a1_1, .int .i64 a1_2, .int .i64 a1_3] 27 (0, 0)) (by (with_reducible repeat (first | refine blk_drewN ?_ _ | refine blk_drew ?_ | refine blk_alloc ?_ _)); exact BK331.out) hb)
                  have n2_ := Aside0.mk (blk_below (g := gb332) (o := .cells #[.int .i64 a5_0, .int .i64 a5_1] 36 (0, 0)) (by (with_reducible repeat (first | refine blk_drewN ?_ _ | refine blk_drew ?_ | refine blk_alloc ?_ _)); exact BK332.out) hb)
                  have n3_ := Aside0.mk (blk_below (g := gb339) (o := .cells #[.int .i64 18, .int .i64 0, .int .i64 0, .int .i64 0, .int .i64 0, .int .i64 65536, .int .i64 0, .int .i64 0, .int .i64 65536, .int .i64 0, .int .i64 0, .int .i64 (wrap64 (Int.tmod a4 3)), .slice Ao52 x13_2.length co52, .int .i64 0] 43 (0, 0)) (by (with_reducible repeat (first | refine blk_drewN ?_ _ | refine blk_drew ?_ | refine blk_alloc ?_ _)); exact BK339.out) hb)
                  have n4_ := Aside0.mk (below_step (by repeat (first | (with_reducible first | exact HB.out | apply below_alloc | apply pw_below_drewN | apply below_drew1 | refine below_set ?_ GE331.out | refine below_set ?_ GE332.out | refine below_set ?_ GE339.out) | exact HB.out)) hb)
                  clear HO_13
                  clear BK331
                  clear BK332
                  clear BK339
                  clear HB
                  have HO_13 := n0_
                  have BK331 := n1_
                  have BK332 := n2_
                  have BK339 := n3_
                  have HB := n4_
                  clear n0_ n1_ n2_ n3_ n4_
                  (try clear hb)
                  (try clear hb2)
                  (try clear hk)
                  (try clear hi)
                  refine hK.out _ _ ⟨(blk_cell BK331.out 0).trans rfl, (blk_cell BK331.out 1).trans rfl, (blk_cell BK331.out 2).trans rfl, (blk_cell BK331.out 3).trans rfl⟩ (fun hHeld => ?_)
                  clear hK K
                  refine norm_ (a' := ?_) ?_ ?_
                  rotate_left
                  · show Act.put _ (some 60) _ = _
                    simp only [Act.put, List.setIfInBounds_toArray, List.set_cons_zero, List.set_cons_succ, i64_w, i32_w]
                    rfl
                  refine pure_ (i := 5) (N := some 62) (v := ?_) (a' := ?_) #[true, true, true, true, true, true, false, false, false, false, false, false, false, false, false, false, false] rfl rfl (any_of HT_.out (by kernel_rfl)) (fun _ _ _ h => h) (Or.inl ⟨by rfl, ?_⟩) ?_ ?_
                  rotate_left
                  · intro w'
                    go_simp
                    with_reducible rfl
                  rotate_left
                  · simp only [Act.put, List.setIfInBounds_toArray, List.set_cons_zero, List.set_cons_succ, i64_w, i32_w]
                    rfl
                  refine pure_ (i := 6) (N := some 63) (v := ?_) (a' := ?_) #[true, true, true, true, true, true, true, false, false, false, false, false, false, false, false, false, false] rfl rfl (any_of HT_.out (by kernel_rfl)) (fun _ _ _ h => h) (Or.inl ⟨by rfl, ?_⟩) ?_ ?_
                  rotate_left
                  · intro w'
                    go_simp
                    with_reducible rfl
                  rotate_left
                  · simp only [Act.put, List.setIfInBounds_toArray, List.set_cons_zero, List.set_cons_succ, i64_w, i32_w]
                    rfl
                  refine pure_ (i := 7) (N := some 64) (v := undef) (a' := ?_) #[true, true, true, true, true, true, true, true, false, false, false, false, false, false, false, false, false] rfl rfl (any_of HT_.out (by kernel_rfl)) (fun _ _ _ h => h) (Or.inr ⟨by rfl, rfl⟩) ?_ ?_
                  rotate_left
                  · simp only [Act.put, List.setIfInBounds_toArray, List.set_cons_zero, List.set_cons_succ, i64_w, i32_w]
                    rfl
                  refine pure_ (i := 8) (N := some 65) (v := undef) (a' := ?_) #[true, true, true, true, true, true, true, true, true, false, false, false, false, false, false, false, false] rfl rfl (any_of HT_.out (by kernel_rfl)) (fun _ _ _ h => h) (Or.inr ⟨by rfl, rfl⟩) ?_ ?_
                  rotate_left
                  · simp only [Act.put, List.setIfInBounds_toArray, List.set_cons_zero, List.set_cons_succ, i64_w, i32_w]
                    rfl
                  refine pure_ (i := 9) (N := some 66) (v := undef) (a' := ?_) #[true, true, true, true, true, true, true, true, true, true, false, false, false, false, false, false, false] rfl rfl (any_of HT_.out (by kernel_rfl)) (fun _ _ _ h => h) (Or.inr ⟨by rfl, rfl⟩) ?_ ?_
                  rotate_left
                  · simp only [Act.put, List.setIfInBounds_toArray, List.set_cons_zero, List.set_cons_succ, i64_w, i32_w]
                    rfl
                  refine pure_ (i := 10) (N := some 67) (v := undef) (a' := ?_) #[true, true, true, true, true, true, true, true, true, true, true, false, false, false, false, false, false] rfl rfl (any_of HT_.out (by kernel_rfl)) (fun _ _ _ h => h) (Or.inr ⟨by rfl, rfl⟩) ?_ ?_
                  rotate_left
                  · simp only [Act.put, List.setIfInBounds_toArray, List.set_cons_zero, List.set_cons_succ, i64_w, i32_w]
                    rfl
                  refine pure_ (i := 11) (N := some 68) (v := undef) (a' := ?_) #[true, true, true, true, true, true, true, true, true, true, true, true, false, false, false, false, false] rfl rfl (any_of HT_.out (by kernel_rfl)) (fun _ _ _ h => h) (Or.inr ⟨by rfl, rfl⟩) ?_ ?_
                  rotate_left
                  · simp only [Act.put, List.setIfInBounds_toArray, List.set_cons_zero, List.set_cons_succ, i64_w, i32_w]
                    rfl
                  refine pure_ (i := 12) (N := some 69) (v := ?_) (a' := ?_) #[true, true, true, true, true, true, true, true, true, true, true, true, true, false, false, false, false] rfl rfl (any_of HT_.out (by kernel_rfl)) (fun _ _ _ h => h) (Or.inl ⟨by rfl, ?_⟩) ?_ ?_
                  rotate_left
                  · intro w'
                    go_simp
                    with_reducible rfl
                  rotate_left
                  · simp only [Act.put, List.setIfInBounds_toArray, List.set_cons_zero, List.set_cons_succ, i64_w, i32_w]
                    rfl
                  refine pure_ (i := 13) (N := some 70) (v := ?_) (a' := ?_) #[true, true, true, true, true, true, true, true, true, true, true, true, true, true, false, false, false] rfl rfl (any_of HT_.out (by kernel_rfl)) (fun _ _ _ h => h) (Or.inl ⟨by rfl, ?_⟩) ?_ ?_
                  rotate_left
                  · intro w'
                    go_simp
                    with_reducible rfl
                  rotate_left
                  · simp only [Act.put, List.setIfInBounds_toArray, List.set_cons_zero, List.set_cons_succ, i64_w, i32_w]
                    rfl
                  refine pure_ (i := 14) (N := some 71) (v := undef) (a' := ?_) #[true, true, true, true, true, true, true, true, true, true, true, true, true, true, true, false, false] rfl rfl (any_of HT_.out (by kernel_rfl)) (fun _ _ _ h => h) (Or.inr ⟨by rfl, rfl⟩) ?_ ?_
                  rotate_left
                  · simp only [Act.put, List.setIfInBounds_toArray, List.set_cons_zero, List.set_cons_succ, i64_w, i32_w]
                    rfl
                  refine pure_ (i := 15) (N := some 72) (v := ?_) (a' := ?_) #[true, true, true, true, true, true, true, true, true, true, true, true, true, true, true, true, false] rfl rfl (any_of HT_.out (by kernel_rfl)) (fun _ _ _ h => h) (Or.inl ⟨by rfl, ?_⟩) ?_ ?_
                  rotate_left
                  · intro w'
                    go_simp
                    with_reducible rfl
                  rotate_left
                  · simp only [Act.put, List.setIfInBounds_toArray, List.set_cons_zero, List.set_cons_succ, i64_w, i32_w]
                    rfl
                  refine pure_ (i := 16) (N := some 12) (v := ?_) (a' := ?_) #[true, true, true, true, true, true, true, true, true, true, true, true, true, true, true, true, true] rfl rfl (any_of HT_.out (by kernel_rfl)) (fun _ _ _ h => h) (Or.inl ⟨by rfl, ?_⟩) ?_ ?_
                  rotate_left
                  · intro w'
                    go_simp
                    with_reducible rfl
                  rotate_left
                  · simp only [Act.put, List.setIfInBounds_toArray, List.set_cons_zero, List.set_cons_succ, i64_w, i32_w]
                    rfl
                  refine done_ (done_of HT_.out (by kernel_rfl)) ?_
                  try go_wp2
                  go_ret
                  exact ⟨by first | rfl | (simp [errW_none, errW_some] <;> rfl) | (simp [*, errW_none, errW_some] <;> rfl), by repeat (first | (with_reducible first | exact HB.out | apply below_alloc | apply pw_below_drewN | apply below_drew1 | refine below_set ?_ GE331.out | refine below_set ?_ GE332.out | refine below_set ?_ GE339.out) | exact HB.out)⟩
              · replace c27 := Bool.eq_false_iff.mpr c27
                subst c27
                have H1 : ((ramp_Color.f k2 x13_2 (wrap64 (a2))).bind fun bt349 => (if (bt349.1 == a1_0 && (bt349.2.1 == a1_1 && (bt349.2.2.1 == a1_2 && (bt349.2.2.2 == a1_3)))) = true then ((ramp_At.f k2 16 0 0 0 0 65536 0 0 65536 0 0 (wrap64 (Int.tmod a4 3)) x13_2 0 a5_0 a5_1).bind fun bt353 => (if (bt353.1 == a1_0 && (bt353.2.1 == a1_1 && (bt353.2.2.1 == a1_2 && (bt353.2.2.2 == a1_3)))) = true then ((celluloidlaw19_awake.f k2).bind fun t357 => (some t357)) else (some false))) else (some false))) = some r := by rw [if_neg (show ¬ (false = true) by decide)] at H; exact H
                clear H
                have H := H1
                clear H1
                replace H := Option.bind_eq_some_iff.mp H
                obtain ⟨⟨t349, t350, t351, t352⟩, A600, H⟩ := H
                replace H : (if (t349 == a1_0 && (t350 == a1_1 && (t351 == a1_2 && (t352 == a1_3)))) = true then ((ramp_At.f k2 16 0 0 0 0 65536 0 0 65536 0 0 (wrap64 (Int.tmod a4 3)) x13_2 0 a5_0 a5_1).bind fun bt353 => (if (bt353.1 == a1_0 && (bt353.2.1 == a1_1 && (bt353.2.2.1 == a1_2 && (bt353.2.2.2 == a1_3)))) = true then ((celluloidlaw19_awake.f k2).bind fun t357 => (some t357)) else (some false))) else (some false)) = some r := H
                have A60 := Aside0.mk A600
                clear A600
                by_cases c61 : (t349 == a1_0 && (t350 == a1_1 && (t351 == a1_2 && (t352 == a1_3)))) = true
                · rw [if_pos c61] at H
                  have c61b0 : (t349 == a1_0 && (t350 == a1_1 && (t351 == a1_2 && (t352 == a1_3)))) = true := c61
                  (try (have c61b1 : decide (t349 = a1_0 && (t350 == a1_1 && (t351 == a1_2 && (t352 == a1_3)))) = true := by simpa using c61))
                  (try (have c61b2 : (t349 == a1_0 && (t350 == a1_1 && (t351 == a1_2 && (t352 == a1_3)))) = true := by simpa using c61))
                  clear c61
                  replace H := Option.bind_eq_some_iff.mp H
                  obtain ⟨⟨t353, t354, t355, t356⟩, A620, H⟩ := H
                  replace H : (if (t353 == a1_0 && (t354 == a1_1 && (t355 == a1_2 && (t356 == a1_3)))) = true then ((celluloidlaw19_awake.f k2).bind fun t357 => (some t357)) else (some false)) = some r := H
                  have A62 := Aside0.mk A620
                  clear A620
                  by_cases c63 : (t353 == a1_0 && (t354 == a1_1 && (t355 == a1_2 && (t356 == a1_3)))) = true
                  · rw [if_pos c63] at H
                    have c63b0 : (t353 == a1_0 && (t354 == a1_1 && (t355 == a1_2 && (t356 == a1_3)))) = true := c63
                    (try (have c63b1 : decide (t353 = a1_0 && (t354 == a1_1 && (t355 == a1_2 && (t356 == a1_3)))) = true := by simpa using c63))
                    (try (have c63b2 : (t353 == a1_0 && (t354 == a1_1 && (t355 == a1_2 && (t356 == a1_3)))) = true := by simpa using c63))
                    clear c63
                    replace H := Option.bind_eq_some_iff.mp H
                    obtain ⟨t357, A640, H⟩ := H
                    replace H : (some t357) = some r := H
                    have A64 := Aside0.mk A640
                    clear A640
                    obtain rfl := Option.some.inj H
                    obtain ⟨Ao65, co65, eo65⟩ := Kd.R_slice HO_13.out
                    subst eo65
                    try go_wp2_with (first | ((with_reducible refine gate_dst (N := 17) rfl ?_); (try (refine gate_guard (by rfl) ?_; dsimp only)); refine box_event ?hg (N := 17) ?hd (cs := #[.int .i64 0, .int .i64 0, .int .i64 0, .int .i64 0, .int .i64 0, .int .i64 0, .int .i64 0, .int .i64 0, .int .i64 0, .int .i64 0, .int .i64 0, .int .i64 0, .slice none 0 0, .int .i64 0]) (t := 43) ?hr ?_; (case hd => rfl); (case hg => rfl); (case hr => first | (go_simp; done) | (go_simp; rfl)); intro gb339 hg w66 hbox hb; have n0_ := Aside0.mk (Kd.R_below (by (with_reducible repeat (first | apply Kd.R_alloc | apply Kd.R_drewN | apply Kd.R_drew)); exact HO_13.out) hb); have n1_ := Aside0.mk (blk_below (g := gb331) (o := .cells #[.int .i64 a1_0, .int .i64 a1_1, .int .i64 a1_2, .int .i64 a1_3] 27 (0, 0)) (by (with_reducible repeat (first | refine blk_drewN ?_ _ | refine blk_drew ?_ | refine blk_alloc ?_ _)); exact BK331.out) hb); have n2_ := Aside0.mk (blk_below (g := gb332) (o := .cells #[.int .i64 a5_0, .int .i64 a5_1] 36 (0, 0)) (by (with_reducible repeat (first | refine blk_drewN ?_ _ | refine blk_drew ?_ | refine blk_alloc ?_ _)); exact BK332.out) hb); have n3_ := Aside0.mk (below_step (by repeat (first | (with_reducible first | exact HB.out | apply below_alloc | apply pw_below_drewN | apply below_drew1 | refine below_set ?_ GE331.out | refine below_set ?_ GE332.out) | exact HB.out)) hb); have n4_ := Aside0.mk (hbox); have n5_ := Aside0.mk ((by rw [hg]; exact (below_size (by repeat (first | (with_reducible first | exact HB.out | apply below_alloc | apply pw_below_drewN | apply below_drew1 | refine below_set ?_ GE331.out | refine below_set ?_ GE332.out) | exact HB.out))) : w.heap.size ≤ gb339)); have n6_ := Aside0.mk ((by rw [hg]; exact (below_size (by repeat (first | (with_reducible first | exact HB.out | apply below_alloc | apply pw_below_drewN | apply below_drew1 | refine below_set ?_ GE331.out | refine below_set ?_ GE332.out) | exact HB.out))) : w.heap.size ≤ gb339)); have n7_ := Aside0.mk ((by rw [hg]; exact Nat.ne_of_lt (blk_lt (g := gb331) (o := .cells #[.int .i64 a1_0, .int .i64 a1_1, .int .i64 a1_2, .int .i64 a1_3] 27 (0, 0)) (by (with_reducible repeat (first | refine blk_drewN ?_ _ | refine blk_drew ?_ | refine blk_alloc ?_ _)); exact BK331.out)) : gb331 ≠ gb339)); have n8_ := Aside0.mk ((by rw [hg]; exact Nat.ne_of_gt (blk_lt (g := gb331) (o := .cells #[.int .i64 a1_0, .int .i64 a1_1, .int .i64 a1_2, .int .i64 a1_3] 27 (0, 0)) (by (with_reducible repeat (first | refine blk_drewN ?_ _ | refine blk_drew ?_ | refine blk_alloc ?_ _)); exact BK331.out)) : gb339 ≠ gb331)); have n9_ := Aside0.mk ((by rw [hg]; exact Nat.ne_of_lt (blk_lt (g := gb332) (o := .cells #[.int .i64 a5_0, .int .i64 a5_1] 36 (0, 0)) (by (with_reducible repeat (first | refine blk_drewN ?_ _ | refine blk_drew ?_ | refine blk_alloc ?_ _)); exact BK332.out)) : gb332 ≠ gb339)); have n10_ := Aside0.mk ((by rw [hg]; exact Nat.ne_of_gt (blk_lt (g := gb332) (o := .cells #[.int .i64 a5_0, .int .i64 a5_1] 36 (0, 0)) (by (with_reducible repeat (first | refine blk_drewN ?_ _ | refine blk_drew ?_ | refine blk_alloc ?_ _)); exact BK332.out)) : gb339 ≠ gb332)); clear HO_13; clear BK331; clear BK332; clear HB; have HO_13 := n0_; have BK331 := n1_; have BK332 := n2_; have HB := n3_; have BK339 := n4_; have GW339 := n5_; have GE339 := n6_; have NB331_339 := n7_; have NB339_331 := n8_; have NB332_339 := n9_; have NB339_332 := n10_; clear n0_ n1_ n2_ n3_ n4_ n5_ n6_ n7_ n8_ n9_ n10_; clear hb hbox hg; have hnb67 := NB339_331.out; have hnc67 := NB331_339.out; have hnb68 := NB339_332.out; have hnc68 := NB332_339.out; have hcz69_0 : w66.cell? ⟨gb339, 0, none⟩ = some (.int .i64 0) := (blk_cell BK339.out 0).trans rfl; have hcz69_1 : w66.cell? ⟨gb339, 1, none⟩ = some (.int .i64 0) := (blk_cell BK339.out 1).trans rfl; have hcz69_2 : w66.cell? ⟨gb339, 2, none⟩ = some (.int .i64 0) := (blk_cell BK339.out 2).trans rfl; have hcz69_3 : w66.cell? ⟨gb339, 3, none⟩ = some (.int .i64 0) := (blk_cell BK339.out 3).trans rfl; have hcz69_4 : w66.cell? ⟨gb339, 4, none⟩ = some (.int .i64 0) := (blk_cell BK339.out 4).trans rfl; have hcz69_5 : w66.cell? ⟨gb339, 5, none⟩ = some (.int .i64 0) := (blk_cell BK339.out 5).trans rfl; have hcz69_6 : w66.cell? ⟨gb339, 6, none⟩ = some (.int .i64 0) := (blk_cell BK339.out 6).trans rfl; have hcz69_7 : w66.cell? ⟨gb339, 7, none⟩ = some (.int .i64 0) := (blk_cell BK339.out 7).trans rfl; have hcz69_8 : w66.cell? ⟨gb339, 8, none⟩ = some (.int .i64 0) := (blk_cell BK339.out 8).trans rfl; have hcz69_9 : w66.cell? ⟨gb339, 9, none⟩ = some (.int .i64 0) := (blk_cell BK339.out 9).trans rfl; have hcz69_10 : w66.cell? ⟨gb339, 10, none⟩ = some (.int .i64 0) := (blk_cell BK339.out 10).trans rfl; have hcz69_11 : w66.cell? ⟨gb339, 11, none⟩ = some (.int .i64 0) := (blk_cell BK339.out 11).trans rfl; have hcz69_12 : w66.cell? ⟨gb339, 12, none⟩ = some (.slice none 0 0) := (blk_cell BK339.out 12).trans rfl; have hcz69_13 : w66.cell? ⟨gb339, 13, none⟩ = some (.int .i64 0) := (blk_cell BK339.out 13).trans rfl; have hfz69_0 := blk_frozen BK339.out 0; have hfz69_1 := blk_frozen BK339.out 1; have hfz69_2 := blk_frozen BK339.out 2; have hfz69_3 := blk_frozen BK339.out 3; have hfz69_4 := blk_frozen BK339.out 4; have hfz69_5 := blk_frozen BK339.out 5; have hfz69_6 := blk_frozen BK339.out 6; have hfz69_7 := blk_frozen BK339.out 7; have hfz69_8 := blk_frozen BK339.out 8; have hfz69_9 := blk_frozen BK339.out 9; have hfz69_10 := blk_frozen BK339.out 10; have hfz69_11 := blk_frozen BK339.out 11; have hfz69_12 := blk_frozen BK339.out 12; have hfz69_13 := blk_frozen BK339.out 13))
                    have n0_ : Aside0 (Kd.R k32 32 ((((((((((((((w66.setCell ⟨gb339, 0, none⟩ (.int .i64 16)).setCell ⟨gb339, 1, none⟩ (.int .i64 0)).setCell ⟨gb339, 2, none⟩ (.int .i64 0)).setCell ⟨gb339, 3, none⟩ (.int .i64 0)).setCell ⟨gb339, 4, none⟩ (.int .i64 0)).setCell ⟨gb339, 5, none⟩ (.int .i64 65536)).setCell ⟨gb339, 6, none⟩ (.int .i64 0)).setCell ⟨gb339, 7, none⟩ (.int .i64 0)).setCell ⟨gb339, 8, none⟩ (.int .i64 65536)).setCell ⟨gb339, 9, none⟩ (.int .i64 0)).setCell ⟨gb339, 10, none⟩ (.int .i64 0)).setCell ⟨gb339, 11, none⟩ (.int .i64 (wrap64 (Int.tmod a4 3)))).setCell ⟨gb339, 12, none⟩ (.slice Ao65 x13_2.length co65)).setCell ⟨gb339, 13, none⟩ (.int .i64 0)) w.heap.size (fun _ => True) (.slice Ao65 x13_2.length co65) x13_2) := ⟨by (with_reducible repeat (first | apply Kd.R_alloc | apply Kd.R_drewN | apply Kd.R_drew)); exact Kd.R_mono (Kd.R_far (p := ⟨gb339, 13, none⟩) (Kd.R_far (p := ⟨gb339, 12, none⟩) (Kd.R_far (p := ⟨gb339, 11, none⟩) (Kd.R_far (p := ⟨gb339, 10, none⟩) (Kd.R_far (p := ⟨gb339, 9, none⟩) (Kd.R_far (p := ⟨gb339, 8, none⟩) (Kd.R_far (p := ⟨gb339, 7, none⟩) (Kd.R_far (p := ⟨gb339, 6, none⟩) (Kd.R_far (p := ⟨gb339, 5, none⟩) (Kd.R_far (p := ⟨gb339, 4, none⟩) (Kd.R_far (p := ⟨gb339, 3, none⟩) (Kd.R_far (p := ⟨gb339, 2, none⟩) (Kd.R_far (p := ⟨gb339, 1, none⟩) (Kd.R_far (p := ⟨gb339, 0, none⟩) (Kd.R_types HO_13.out BK339.out (by decide)) (fun _ hk => hk.2) (.int .i64 16)) (fun _ hk => hk.2) (.int .i64 0)) (fun _ hk => hk.2) (.int .i64 0)) (fun _ hk => hk.2) (.int .i64 0)) (fun _ hk => hk.2) (.int .i64 0)) (fun _ hk => hk.2) (.int .i64 65536)) (fun _ hk => hk.2) (.int .i64 0)) (fun _ hk => hk.2) (.int .i64 0)) (fun _ hk => hk.2) (.int .i64 65536)) (fun _ hk => hk.2) (.int .i64 0)) (fun _ hk => hk.2) (.int .i64 0)) (fun _ hk => hk.2) (.int .i64 (wrap64 (Int.tmod a4 3)))) (fun _ hk => hk.2) (.slice Ao65 x13_2.length co65)) (fun _ hk => hk.2) (.int .i64 0)) (fun _ hk => trivial)⟩
                    have n1_ : Aside0 (((((((((((((((w66.setCell ⟨gb339, 0, none⟩ (.int .i64 16)).setCell ⟨gb339, 1, none⟩ (.int .i64 0)).setCell ⟨gb339, 2, none⟩ (.int .i64 0)).setCell ⟨gb339, 3, none⟩ (.int .i64 0)).setCell ⟨gb339, 4, none⟩ (.int .i64 0)).setCell ⟨gb339, 5, none⟩ (.int .i64 65536)).setCell ⟨gb339, 6, none⟩ (.int .i64 0)).setCell ⟨gb339, 7, none⟩ (.int .i64 0)).setCell ⟨gb339, 8, none⟩ (.int .i64 65536)).setCell ⟨gb339, 9, none⟩ (.int .i64 0)).setCell ⟨gb339, 10, none⟩ (.int .i64 0)).setCell ⟨gb339, 11, none⟩ (.int .i64 (wrap64 (Int.tmod a4 3)))).setCell ⟨gb339, 12, none⟩ (.slice Ao65 x13_2.length co65)).setCell ⟨gb339, 13, none⟩ (.int .i64 0)).heap[gb331]? = some (.cells #[.int .i64 a1_0, .int .i64 a1_1, .int .i64 a1_2, .int .i64 a1_3] 27 (0, 0))) := ⟨by (with_reducible repeat (first | refine blk_drewN ?_ _ | refine blk_drew ?_ | refine blk_alloc ?_ _)); refine blk_far ?_ NB331_339.out _; (with_reducible repeat (first | refine blk_drewN ?_ _ | refine blk_drew ?_ | refine blk_alloc ?_ _)); refine blk_far ?_ NB331_339.out _; (with_reducible repeat (first | refine blk_drewN ?_ _ | refine blk_drew ?_ | refine blk_alloc ?_ _)); refine blk_far ?_ NB331_339.out _; (with_reducible repeat (first | refine blk_drewN ?_ _ | refine blk_drew ?_ | refine blk_alloc ?_ _)); refine blk_far ?_ NB331_339.out _; (with_reducible repeat (first | refine blk_drewN ?_ _ | refine blk_drew ?_ | refine blk_alloc ?_ _)); refine blk_far ?_ NB331_339.out _; (with_reducible repeat (first | refine blk_drewN ?_ _ | refine blk_drew ?_ | refine blk_alloc ?_ _)); refine blk_far ?_ NB331_339.out _; (with_reducible repeat (first | refine blk_drewN ?_ _ | refine blk_drew ?_ | refine blk_alloc ?_ _)); refine blk_far ?_ NB331_339.out _; (with_reducible repeat (first | refine blk_drewN ?_ _ | refine blk_drew ?_ | refine blk_alloc ?_ _)); refine blk_far ?_ NB331_339.out _; (with_reducible repeat (first | refine blk_drewN ?_ _ | refine blk_drew ?_ | refine blk_alloc ?_ _)); refine blk_far ?_ NB331_339.out _; (with_reducible repeat (first | refine blk_drewN ?_ _ | refine blk_drew ?_ | refine blk_alloc ?_ _)); refine blk_far ?_ NB331_339.out _; (with_reducible repeat (first | refine blk_drewN ?_ _ | refine blk_drew ?_ | refine blk_alloc ?_ _)); refine blk_far ?_ NB331_339.out _; (with_reducible repeat (first | refine blk_drewN ?_ _ | refine blk_drew ?_ | refine blk_alloc ?_ _)); refine blk_far ?_ NB331_339.out _; (with_reducible repeat (first | refine blk_drewN ?_ _ | refine blk_drew ?_ | refine blk_alloc ?_ _)); refine blk_far ?_ NB331_339.out _; (with_reducible repeat (first | refine blk_drewN ?_ _ | refine blk_drew ?_ | refine blk_alloc ?_ _)); refine blk_far ?_ NB331_339.out _; (with_reducible repeat (first | refine blk_drewN ?_ _ | refine blk_drew ?_ | refine blk_alloc ?_ _)); exact BK331.out⟩
                    have n2_ : Aside0 (((((((((((((((w66.setCell ⟨gb339, 0, none⟩ (.int .i64 16)).setCell ⟨gb339, 1, none⟩ (.int .i64 0)).setCell ⟨gb339, 2, none⟩ (.int .i64 0)).setCell ⟨gb339, 3, none⟩ (.int .i64 0)).setCell ⟨gb339, 4, none⟩ (.int .i64 0)).setCell ⟨gb339, 5, none⟩ (.int .i64 65536)).setCell ⟨gb339, 6, none⟩ (.int .i64 0)).setCell ⟨gb339, 7, none⟩ (.int .i64 0)).setCell ⟨gb339, 8, none⟩ (.int .i64 65536)).setCell ⟨gb339, 9, none⟩ (.int .i64 0)).setCell ⟨gb339, 10, none⟩ (.int .i64 0)).setCell ⟨gb339, 11, none⟩ (.int .i64 (wrap64 (Int.tmod a4 3)))).setCell ⟨gb339, 12, none⟩ (.slice Ao65 x13_2.length co65)).setCell ⟨gb339, 13, none⟩ (.int .i64 0)).heap[gb332]? = some (.cells #[.int .i64 a5_0, .int .i64 a5_1] 36 (0, 0))) := ⟨by (with_reducible repeat (first | refine blk_drewN ?_ _ | refine blk_drew ?_ | refine blk_alloc ?_ _)); refine blk_far ?_ NB332_339.out _; (with_reducible repeat (first | refine blk_drewN ?_ _ | refine blk_drew ?_ | refine blk_alloc ?_ _)); refine blk_far ?_ NB332_339.out _; (with_reducible repeat (first | refine blk_drewN ?_ _ | refine blk_drew ?_ | refine blk_alloc ?_ _)); refine blk_far ?_ NB332_339.out _; (with_reducible repeat (first | refine blk_drewN ?_ _ | refine blk_drew ?_ | refine blk_alloc ?_ _)); refine blk_far ?_ NB332_339.out _; (with_reducible repeat (first | refine blk_drewN ?_ _ | refine blk_drew ?_ | refine blk_alloc ?_ _)); refine blk_far ?_ NB332_339.out _; (with_reducible repeat (first | refine blk_drewN ?_ _ | refine blk_drew ?_ | refine blk_alloc ?_ _)); refine blk_far ?_ NB332_339.out _; (with_reducible repeat (first | refine blk_drewN ?_ _ | refine blk_drew ?_ | refine blk_alloc ?_ _)); refine blk_far ?_ NB332_339.out _; (with_reducible repeat (first | refine blk_drewN ?_ _ | refine blk_drew ?_ | refine blk_alloc ?_ _)); refine blk_far ?_ NB332_339.out _; (with_reducible repeat (first | refine blk_drewN ?_ _ | refine blk_drew ?_ | refine blk_alloc ?_ _)); refine blk_far ?_ NB332_339.out _; (with_reducible repeat (first | refine blk_drewN ?_ _ | refine blk_drew ?_ | refine blk_alloc ?_ _)); refine blk_far ?_ NB332_339.out _; (with_reducible repeat (first | refine blk_drewN ?_ _ | refine blk_drew ?_ | refine blk_alloc ?_ _)); refine blk_far ?_ NB332_339.out _; (with_reducible repeat (first | refine blk_drewN ?_ _ | refine blk_drew ?_ | refine blk_alloc ?_ _)); refine blk_far ?_ NB332_339.out _; (with_reducible repeat (first | refine blk_drewN ?_ _ | refine blk_drew ?_ | refine blk_alloc ?_ _)); refine blk_far ?_ NB332_339.out _; (with_reducible repeat (first | refine blk_drewN ?_ _ | refine blk_drew ?_ | refine blk_alloc ?_ _)); refine blk_far ?_ NB332_339.out _; (with_reducible repeat (first | refine blk_drewN ?_ _ | refine blk_drew ?_ | refine blk_alloc ?_ _)); exact BK332.out⟩
                    have n3_ : Aside0 (((((((((((((((w66.setCell ⟨gb339, 0, none⟩ (.int .i64 16)).setCell ⟨gb339, 1, none⟩ (.int .i64 0)).setCell ⟨gb339, 2, none⟩ (.int .i64 0)).setCell ⟨gb339, 3, none⟩ (.int .i64 0)).setCell ⟨gb339, 4, none⟩ (.int .i64 0)).setCell ⟨gb339, 5, none⟩ (.int .i64 65536)).setCell ⟨gb339, 6, none⟩ (.int .i64 0)).setCell ⟨gb339, 7, none⟩ (.int .i64 0)).setCell ⟨gb339, 8, none⟩ (.int .i64 65536)).setCell ⟨gb339, 9, none⟩ (.int .i64 0)).setCell ⟨gb339, 10, none⟩ (.int .i64 0)).setCell ⟨gb339, 11, none⟩ (.int .i64 (wrap64 (Int.tmod a4 3)))).setCell ⟨gb339, 12, none⟩ (.slice Ao65 x13_2.length co65)).setCell ⟨gb339, 13, none⟩ (.int .i64 0)).heap[gb339]? = some (.cells #[.int .i64 16, .int .i64 0, .int .i64 0, .int .i64 0, .int .i64 0, .int .i64 65536, .int .i64 0, .int .i64 0, .int .i64 65536, .int .i64 0, .int .i64 0, .int .i64 (wrap64 (Int.tmod a4 3)), .slice Ao65 x13_2.length co65, .int .i64 0] 43 (0, 0))) := ⟨by (with_reducible repeat (first | refine blk_drewN ?_ _ | refine blk_drew ?_ | refine blk_alloc ?_ _)); refine blk_put (cs := #[.int .i64 16, .int .i64 0, .int .i64 0, .int .i64 0, .int .i64 0, .int .i64 65536, .int .i64 0, .int .i64 0, .int .i64 65536, .int .i64 0, .int .i64 0, .int .i64 (wrap64 (Int.tmod a4 3)), .slice Ao65 x13_2.length co65, .int .i64 0]) ?_ 13 _ rfl; (with_reducible repeat (first | refine blk_drewN ?_ _ | refine blk_drew ?_ | refine blk_alloc ?_ _)); refine blk_put (cs := #[.int .i64 16, .int .i64 0, .int .i64 0, .int .i64 0, .int .i64 0, .int .i64 65536, .int .i64 0, .int .i64 0, .int .i64 65536, .int .i64 0, .int .i64 0, .int .i64 (wrap64 (Int.tmod a4 3)), .slice none 0 0, .int .i64 0]) ?_ 12 _ rfl; (with_reducible repeat (first | refine blk_drewN ?_ _ | refine blk_drew ?_ | refine blk_alloc ?_ _)); refine blk_put (cs := #[.int .i64 16, .int .i64 0, .int .i64 0, .int .i64 0, .int .i64 0, .int .i64 65536, .int .i64 0, .int .i64 0, .int .i64 65536, .int .i64 0, .int .i64 0, .int .i64 0, .slice none 0 0, .int .i64 0]) ?_ 11 _ rfl; (with_reducible repeat (first | refine blk_drewN ?_ _ | refine blk_drew ?_ | refine blk_alloc ?_ _)); refine blk_put (cs := #[.int .i64 16, .int .i64 0, .int .i64 0, .int .i64 0, .int .i64 0, .int .i64 65536, .int .i64 0, .int .i64 0, .int .i64 65536, .int .i64 0, .int .i64 0, .int .i64 0, .slice none 0 0, .int .i64 0]) ?_ 10 _ rfl; (with_reducible repeat (first | refine blk_drewN ?_ _ | refine blk_drew ?_ | refine blk_alloc ?_ _)); refine blk_put (cs := #[.int .i64 16, .int .i64 0, .int .i64 0, .int .i64 0, .int .i64 0, .int .i64 65536, .int .i64 0, .int .i64 0, .int .i64 65536, .int .i64 0, .int .i64 0, .int .i64 0, .slice none 0 0, .int .i64 0]) ?_ 9 _ rfl; (with_reducible repeat (first | refine blk_drewN ?_ _ | refine blk_drew ?_ | refine blk_alloc ?_ _)); refine blk_put (cs := #[.int .i64 16, .int .i64 0, .int .i64 0, .int .i64 0, .int .i64 0, .int .i64 65536, .int .i64 0, .int .i64 0, .int .i64 0, .int .i64 0, .int .i64 0, .int .i64 0, .slice none 0 0, .int .i64 0]) ?_ 8 _ rfl; (with_reducible repeat (first | refine blk_drewN ?_ _ | refine blk_drew ?_ | refine blk_alloc ?_ _)); refine blk_put (cs := #[.int .i64 16, .int .i64 0, .int .i64 0, .int .i64 0, .int .i64 0, .int .i64 65536, .int .i64 0, .int .i64 0, .int .i64 0, .int .i64 0, .int .i64 0, .int .i64 0, .slice none 0 0, .int .i64 0]) ?_ 7 _ rfl; (with_reducible repeat (first | refine blk_drewN ?_ _ | refine blk_drew ?_ | refine blk_alloc ?_ _)); refine blk_put (cs := #[.int .i64 16, .int .i64 0, .int .i64 0, .int .i64 0, .int .i64 0, .int .i64 65536, .int .i64 0, .int .i64 0, .int .i64 0, .int .i64 0, .int .i64 0, .int .i64 0, .slice none 0 0, .int .i64 0]) ?_ 6 _ rfl; (with_reducible repeat (first | refine blk_drewN ?_ _ | refine blk_drew ?_ | refine blk_alloc ?_ _)); refine blk_put (cs := #[.int .i64 16, .int .i64 0, .int .i64 0, .int .i64 0, .int .i64 0, .int .i64 0, .int .i64 0, .int .i64 0, .int .i64 0, .int .i64 0, .int .i64 0, .int .i64 0, .slice none 0 0, .int .i64 0]) ?_ 5 _ rfl; (with_reducible repeat (first | refine blk_drewN ?_ _ | refine blk_drew ?_ | refine blk_alloc ?_ _)); refine blk_put (cs := #[.int .i64 16, .int .i64 0, .int .i64 0, .int .i64 0, .int .i64 0, .int .i64 0, .int .i64 0, .int .i64 0, .int .i64 0, .int .i64 0, .int .i64 0, .int .i64 0, .slice none 0 0, .int .i64 0]) ?_ 4 _ rfl; (with_reducible repeat (first | refine blk_drewN ?_ _ | refine blk_drew ?_ | refine blk_alloc ?_ _)); refine blk_put (cs := #[.int .i64 16, .int .i64 0, .int .i64 0, .int .i64 0, .int .i64 0, .int .i64 0, .int .i64 0, .int .i64 0, .int .i64 0, .int .i64 0, .int .i64 0, .int .i64 0, .slice none 0 0, .int .i64 0]) ?_ 3 _ rfl; (with_reducible repeat (first | refine blk_drewN ?_ _ | refine blk_drew ?_ | refine blk_alloc ?_ _)); refine blk_put (cs := #[.int .i64 16, .int .i64 0, .int .i64 0, .int .i64 0, .int .i64 0, .int .i64 0, .int .i64 0, .int .i64 0, .int .i64 0, .int .i64 0, .int .i64 0, .int .i64 0, .slice none 0 0, .int .i64 0]) ?_ 2 _ rfl; (with_reducible repeat (first | refine blk_drewN ?_ _ | refine blk_drew ?_ | refine blk_alloc ?_ _)); refine blk_put (cs := #[.int .i64 16, .int .i64 0, .int .i64 0, .int .i64 0, .int .i64 0, .int .i64 0, .int .i64 0, .int .i64 0, .int .i64 0, .int .i64 0, .int .i64 0, .int .i64 0, .slice none 0 0, .int .i64 0]) ?_ 1 _ rfl; (with_reducible repeat (first | refine blk_drewN ?_ _ | refine blk_drew ?_ | refine blk_alloc ?_ _)); refine blk_put (cs := #[.int .i64 0, .int .i64 0, .int .i64 0, .int .i64 0, .int .i64 0, .int .i64 0, .int .i64 0, .int .i64 0, .int .i64 0, .int .i64 0, .int .i64 0, .int .i64 0, .slice none 0 0, .int .i64 0]) ?_ 0 _ rfl; (with_reducible repeat (first | refine blk_drewN ?_ _ | refine blk_drew ?_ | refine blk_alloc ?_ _)); exact BK339.out⟩
                    have n4_ : Aside0 (Below w.heap.size w ((((((((((((((w66.setCell ⟨gb339, 0, none⟩ (.int .i64 16)).setCell ⟨gb339, 1, none⟩ (.int .i64 0)).setCell ⟨gb339, 2, none⟩ (.int .i64 0)).setCell ⟨gb339, 3, none⟩ (.int .i64 0)).setCell ⟨gb339, 4, none⟩ (.int .i64 0)).setCell ⟨gb339, 5, none⟩ (.int .i64 65536)).setCell ⟨gb339, 6, none⟩ (.int .i64 0)).setCell ⟨gb339, 7, none⟩ (.int .i64 0)).setCell ⟨gb339, 8, none⟩ (.int .i64 65536)).setCell ⟨gb339, 9, none⟩ (.int .i64 0)).setCell ⟨gb339, 10, none⟩ (.int .i64 0)).setCell ⟨gb339, 11, none⟩ (.int .i64 (wrap64 (Int.tmod a4 3)))).setCell ⟨gb339, 12, none⟩ (.slice Ao65 x13_2.length co65)).setCell ⟨gb339, 13, none⟩ (.int .i64 0))) := ⟨by repeat (first | (with_reducible first | exact HB.out | apply below_alloc | apply pw_below_drewN | apply below_drew1 | refine below_set ?_ GE331.out | refine below_set ?_ GE332.out | refine below_set ?_ GE339.out) | exact HB.out)⟩
                    (try clear HO_13)
                    (try clear BK331)
                    (try clear BK332)
                    (try clear BK339)
                    (try clear HB)
                    generalize ((((((((((((((w66.setCell ⟨gb339, 0, none⟩ (.int .i64 16)).setCell ⟨gb339, 1, none⟩ (.int .i64 0)).setCell ⟨gb339, 2, none⟩ (.int .i64 0)).setCell ⟨gb339, 3, none⟩ (.int .i64 0)).setCell ⟨gb339, 4, none⟩ (.int .i64 0)).setCell ⟨gb339, 5, none⟩ (.int .i64 65536)).setCell ⟨gb339, 6, none⟩ (.int .i64 0)).setCell ⟨gb339, 7, none⟩ (.int .i64 0)).setCell ⟨gb339, 8, none⟩ (.int .i64 65536)).setCell ⟨gb339, 9, none⟩ (.int .i64 0)).setCell ⟨gb339, 10, none⟩ (.int .i64 0)).setCell ⟨gb339, 11, none⟩ (.int .i64 (wrap64 (Int.tmod a4 3)))).setCell ⟨gb339, 12, none⟩ (.slice Ao65 x13_2.length co65)).setCell ⟨gb339, 13, none⟩ (.int .i64 0)) = w70 at n0_ n1_ n2_ n3_ n4_ ⊢
                    have HO_13 := n0_
                    have BK331 := n1_
                    have BK332 := n2_
                    have BK339 := n3_
                    have HB := n4_
                    clear n0_ n1_ n2_ n3_ n4_
                    have n0_ := Aside0.mk (Kd.R_drew HO_13.out)
                    have n1_ := Aside0.mk (blk_drew BK331.out)
                    have n2_ := Aside0.mk (blk_drew BK332.out)
                    have n3_ := Aside0.mk (blk_drew BK339.out)
                    have n4_ := Aside0.mk (below_drew1 HB.out)
                    clear HO_13
                    clear BK331
                    clear BK332
                    clear BK339
                    clear HB
                    have HO_13 := n0_
                    have BK331 := n1_
                    have BK332 := n2_
                    have BK339 := n3_
                    have HB := n4_
                    clear n0_ n1_ n2_ n3_ n4_
                    refine start_ (n := 17) (S := fun w' => w'.cell? ⟨gb331, 0, none⟩ = some (.int .i64 a1_0) ∧ w'.cell? ⟨gb331, 1, none⟩ = some (.int .i64 a1_1) ∧ w'.cell? ⟨gb331, 2, none⟩ = some (.int .i64 a1_2) ∧ w'.cell? ⟨gb331, 3, none⟩ = some (.int .i64 a1_3) ∧ w'.cell? ⟨gb339, 0, none⟩ = some (.int .i64 16) ∧ w'.cell? ⟨gb339, 1, none⟩ = some (.int .i64 0) ∧ w'.cell? ⟨gb339, 2, none⟩ = some (.int .i64 0) ∧ w'.cell? ⟨gb339, 3, none⟩ = some (.int .i64 0) ∧ w'.cell? ⟨gb339, 4, none⟩ = some (.int .i64 0) ∧ w'.cell? ⟨gb339, 5, none⟩ = some (.int .i64 65536) ∧ w'.cell? ⟨gb339, 6, none⟩ = some (.int .i64 0) ∧ w'.cell? ⟨gb339, 7, none⟩ = some (.int .i64 0) ∧ w'.cell? ⟨gb339, 8, none⟩ = some (.int .i64 65536) ∧ w'.cell? ⟨gb339, 9, none⟩ = some (.int .i64 0) ∧ w'.cell? ⟨gb339, 10, none⟩ = some (.int .i64 0) ∧ w'.cell? ⟨gb339, 11, none⟩ = some (.int .i64 (wrap64 (Int.tmod a4 3))) ∧ w'.cell? ⟨gb339, 12, none⟩ = some (.slice Ao65 x13_2.length co65) ∧ w'.cell? ⟨gb339, 13, none⟩ = some (.int .i64 0) ∧ w'.cell? ⟨gb332, 0, none⟩ = some (.int .i64 a5_0) ∧ w'.cell? ⟨gb332, 1, none⟩ = some (.int .i64 a5_1)) (ds := []) #[false, false, false, false, false, false, false, false, false, false, false, false, false, false, false, false, false] (by kernel_rfl) rfl rfl ⟨(blk_cell BK331.out 0).trans rfl, (blk_cell BK331.out 1).trans rfl, (blk_cell BK331.out 2).trans rfl, (blk_cell BK331.out 3).trans rfl, (blk_cell BK339.out 0).trans rfl, (blk_cell BK339.out 1).trans rfl, (blk_cell BK339.out 2).trans rfl, (blk_cell BK339.out 3).trans rfl, (blk_cell BK339.out 4).trans rfl, (blk_cell BK339.out 5).trans rfl, (blk_cell BK339.out 6).trans rfl, (blk_cell BK339.out 7).trans rfl, (blk_cell BK339.out 8).trans rfl, (blk_cell BK339.out 9).trans rfl, (blk_cell BK339.out 10).trans rfl, (blk_cell BK339.out 11).trans rfl, (blk_cell BK339.out 12).trans rfl, (blk_cell BK339.out 13).trans rfl, (blk_cell BK332.out 0).trans rfl, (blk_cell BK332.out 1).trans rfl⟩ (fun hHeld => ?_); refine with_tabW celluloidlaw19_RampSame.tab14 celluloidlaw19_RampSame.bits14 (fun HT_ HW_ => ?_)
                    generalize w70.drew = w71 at HO_13 BK331 BK332 BK339 HB hHeld ⊢
                    refine pure_ (i := 0) (N := some 57) (v := ?_) (a' := ?_) #[true, false, false, false, false, false, false, false, false, false, false, false, false, false, false, false, false] rfl rfl (any_of HT_.out (by kernel_rfl)) (fun _ _ _ h => h) (Or.inl ⟨by rfl, ?_⟩) ?_ ?_
                    rotate_left
                    · intro w'
                      go_simp
                      with_reducible rfl
                    rotate_left
                    · simp only [Act.put, List.setIfInBounds_toArray, List.set_cons_zero, List.set_cons_succ, i64_w, i32_w]
                      rfl
                    refine pure_ (i := 1) (N := some 58) (v := ?_) (a' := ?_) #[true, true, false, false, false, false, false, false, false, false, false, false, false, false, false, false, false] rfl rfl (any_of HT_.out (by kernel_rfl)) (fun _ _ _ h => h) (Or.inl ⟨by rfl, ?_⟩) ?_ ?_
                    rotate_left
                    · intro w'
                      go_simp
                      with_reducible rfl
                    rotate_left
                    · simp only [Act.put, List.setIfInBounds_toArray, List.set_cons_zero, List.set_cons_succ, i64_w, i32_w]
                      rfl
                    refine pure_ (i := 2) (N := some 59) (v := ?_) (a' := ?_) #[true, true, true, false, false, false, false, false, false, false, false, false, false, false, false, false, false] rfl rfl (any_of HT_.out (by kernel_rfl)) (fun _ _ _ h => h) (Or.inl ⟨by rfl, ?_⟩) ?_ ?_
                    rotate_left
                    · intro w'
                      go_simp
                      with_reducible rfl
                    rotate_left
                    · simp only [Act.put, List.setIfInBounds_toArray, List.set_cons_zero, List.set_cons_succ, i64_w, i32_w]
                      rfl
                    refine take_ (i := 4) (N := some 61) (v := ?_) (a' := ?_) #[true, true, true, false, true, false, false, false, false, false, false, false, false, false, false, false, false] rfl rfl (take_ofW HT_.out HW_.out (by kernel_rfl)) (fun _ _ _ h => h) (Or.inl ⟨by rfl, ?_⟩) hHeld ?_ ?_
                    rotate_left
                    · rintro w' ⟨s0, s1, s2, s3, s4, s5, s6, s7, s8, s9, s10, s11, s12, s13, s14, s15, s16, s17, s18, s19⟩
                      go_simp
                      with_reducible rfl
                    rotate_left
                    · simp only [Act.put, List.setIfInBounds_toArray, List.set_cons_zero, List.set_cons_succ, i64_w, i32_w]
                      rfl
                    refine one_ (i := 3) (N := some 60) #[true, true, true, true, true, false, false, false, false, false, false, false, false, false, false, false, false] rfl rfl (one_of HT_.out (by kernel_rfl)) (by decide) (fun K hK => ?_)
                    refine goes_ Try.func13 (by kernel_rfl) rfl #[.slice Ao65 x13_2.length co65, .int .i64 (wrap64 (a2))] (by rfl) rfl rfl (by (try simp only [List.map_toArray, List.map_cons, List.map_nil]); first | done | rfl | (simp only [List.length_drop, List.length_take]; rfl)) ?_
                    with_reducible refine (ramp_Color.calls k2 _ _ x13_2 (wrap64 (a2)) t349 t350 t351 t352 _ ?side1 ?side2 A60.out).mono ?_
                    (case side1 => repeat (first | exact (Kd.R_reads' HO_13.out).2.2 | (with_reducible refine Kd.C_alloc ?_ _) | (with_reducible refine Kd.C_drewN ?_ _) | (with_reducible refine Kd.C_drew ?_)))
                    (case side2 => exact (Kd.R_reads' HO_13.out).2.1)
                    rintro e w72 ⟨rfl, hb⟩
                    refine ⟨_, rfl, ?_⟩
                    have n0_ := Aside0.mk (Kd.R_below (by (with_reducible repeat (first | apply Kd.R_alloc | apply Kd.R_drewN | apply Kd.R_drew)); exact HO_13.out) hb)
                    have n1_ := Aside0.mk (blk_below (g := gb331) (o := .cells #[.int .i64 a1_0, .int .i64 a1_1, .int .i64 a1_2, .int .i64 a1_3] 27 (0, 0)) (by (with_reducible repeat (first | refine blk_drewN ?_ _ | refine blk_drew ?_ | refine blk_alloc ?_ _)); exact BK331.out) hb)
                    have n2_ := Aside0.mk (blk_below (g := gb332) (o := .cells #[.int .i64 a5_0, .int .i64 a5_1] 36 (0, 0)) (by (with_reducible repeat (first | refine blk_drewN ?_ _ | refine blk_drew ?_ | refine blk_alloc ?_ _)); exact BK332.out) hb)
                    have n3_ := Aside0.mk (blk_below (g := gb339) (o := .cells #[.int .i64 16, .int .i64 0, .int .i64 0, .int .i64 0, .int .i64 0, .int .i64 65536, .int .i64 0, .int .i64 0, .int .i64 65536, .int .i64 0, .int .i64 0, .int .i64 (wrap64 (Int.tmod a4 3)), .slice Ao65 x13_2.length co65, .int .i64 0] 43 (0, 0)) (by (with_reducible repeat (first | refine blk_drewN ?_ _ | refine blk_drew ?_ | refine blk_alloc ?_ _)); exact BK339.out) hb)
                    have n4_ := Aside0.mk (below_step (by repeat (first | (with_reducible first | exact HB.out | apply below_alloc | apply pw_below_drewN | apply below_drew1 | refine below_set ?_ GE331.out | refine below_set ?_ GE332.out | refine below_set ?_ GE339.out) | exact HB.out)) hb)
                    clear HO_13
                    clear BK331
                    clear BK332
                    clear BK339
                    clear HB
                    have HO_13 := n0_
                    have BK331 := n1_
                    have BK332 := n2_
                    have BK339 := n3_
                    have HB := n4_
                    clear n0_ n1_ n2_ n3_ n4_
                    (try clear hb)
                    (try clear hb2)
                    (try clear hk)
                    (try clear hi)
                    refine hK.out _ _ ⟨(blk_cell BK331.out 0).trans rfl, (blk_cell BK331.out 1).trans rfl, (blk_cell BK331.out 2).trans rfl, (blk_cell BK331.out 3).trans rfl, (blk_cell BK339.out 0).trans rfl, (blk_cell BK339.out 1).trans rfl, (blk_cell BK339.out 2).trans rfl, (blk_cell BK339.out 3).trans rfl, (blk_cell BK339.out 4).trans rfl, (blk_cell BK339.out 5).trans rfl, (blk_cell BK339.out 6).trans rfl, (blk_cell BK339.out 7).trans rfl, (blk_cell BK339.out 8).trans rfl, (blk_cell BK339.out 9).trans rfl, (blk_cell BK339.out 10).trans rfl, (blk_cell BK339.out 11).trans rfl, (blk_cell BK339.out 12).trans rfl, (blk_cell BK339.out 13).trans rfl, (blk_cell BK332.out 0).trans rfl, (blk_cell BK332.out 1).trans rfl⟩ (fun hHeld => ?_)
                    clear hK K
                    refine norm_ (a' := ?_) ?_ ?_
                    rotate_left
                    · show Act.put _ (some 60) _ = _
                      simp only [Act.put, List.setIfInBounds_toArray, List.set_cons_zero, List.set_cons_succ, i64_w, i32_w]
                      rfl
                    refine pure_ (i := 5) (N := some 62) (v := ?_) (a' := ?_) #[true, true, true, true, true, true, false, false, false, false, false, false, false, false, false, false, false] rfl rfl (any_of HT_.out (by kernel_rfl)) (fun _ _ _ h => h) (Or.inl ⟨by rfl, ?_⟩) ?_ ?_
                    rotate_left
                    · intro w'
                      go_simp
                      with_reducible rfl
                    rotate_left
                    · simp only [Act.put, List.setIfInBounds_toArray, List.set_cons_zero, List.set_cons_succ, i64_w, i32_w]
                      rfl
                    refine pure_ (i := 6) (N := some 63) (v := ?_) (a' := ?_) #[true, true, true, true, true, true, true, false, false, false, false, false, false, false, false, false, false] rfl rfl (any_of HT_.out (by kernel_rfl)) (fun _ _ _ h => h) (Or.inl ⟨by rfl, ?_⟩) ?_ ?_
                    rotate_left
                    · intro w'
                      go_simp
                      with_reducible rfl
                    rotate_left
                    · simp only [Act.put, List.setIfInBounds_toArray, List.set_cons_zero, List.set_cons_succ, i64_w, i32_w]
                      rfl
                    refine take_ (i := 7) (N := some 64) (v := ?_) (a' := ?_) #[true, true, true, true, true, true, true, true, false, false, false, false, false, false, false, false, false] rfl rfl (take_ofW HT_.out HW_.out (by kernel_rfl)) (fun _ _ _ h => h) (Or.inl ⟨by rfl, ?_⟩) hHeld ?_ ?_
                    rotate_left
                    · rintro w' ⟨s0, s1, s2, s3, s4, s5, s6, s7, s8, s9, s10, s11, s12, s13, s14, s15, s16, s17, s18, s19⟩
                      go_simp
                      with_reducible rfl
                    rotate_left
                    · simp only [Act.put, List.setIfInBounds_toArray, List.set_cons_zero, List.set_cons_succ, i64_w, i32_w]
                      rfl
                    refine take_ (i := 8) (N := some 65) (v := ?_) (a' := ?_) #[true, true, true, true, true, true, true, true, true, false, false, false, false, false, false, false, false] rfl rfl (take_ofW HT_.out HW_.out (by kernel_rfl)) (fun _ _ _ h => h) (Or.inl ⟨by rfl, ?_⟩) hHeld ?_ ?_
                    rotate_left
                    · rintro w' ⟨s0, s1, s2, s3, s4, s5, s6, s7, s8, s9, s10, s11, s12, s13, s14, s15, s16, s17, s18, s19⟩
                      go_simp
                      with_reducible rfl
                    rotate_left
                    · simp only [Act.put, List.setIfInBounds_toArray, List.set_cons_zero, List.set_cons_succ, i64_w, i32_w]
                      rfl
                    refine take_ (i := 10) (N := some 67) (v := ?_) (a' := ?_) #[true, true, true, true, true, true, true, true, true, false, true, false, false, false, false, false, false] rfl rfl (take_ofW HT_.out HW_.out (by kernel_rfl)) (fun _ _ _ h => h) (Or.inl ⟨by rfl, ?_⟩) hHeld ?_ ?_
                    rotate_left
                    · rintro w' ⟨s0, s1, s2, s3, s4, s5, s6, s7, s8, s9, s10, s11, s12, s13, s14, s15, s16, s17, s18, s19⟩
                      go_simp
                      with_reducible rfl
                    rotate_left
                    · simp only [Act.put, List.setIfInBounds_toArray, List.set_cons_zero, List.set_cons_succ, i64_w, i32_w]
                      rfl
                    refine one_ (i := 9) (N := some 66) #[true, true, true, true, true, true, true, true, true, true, true, false, false, false, false, false, false] rfl rfl (one_of HT_.out (by kernel_rfl)) (by decide) (fun K hK => ?_)
                    refine goes_ Try.func19 (by kernel_rfl) rfl #[.agg #[.int .i64 16, .int .i64 0, .int .i64 0, .int .i64 0, .int .i64 0, .int .i64 65536, .int .i64 0, .int .i64 0, .int .i64 65536, .int .i64 0, .int .i64 0, .int .i64 (wrap64 (Int.tmod a4 3)), .slice Ao65 x13_2.length co65, .int .i64 0], .agg #[.int .i64 a5_0, .int .i64 a5_1]] (by rfl) rfl rfl (by (try simp only [List.map_toArray, List.map_cons, List.map_nil]); first | done | rfl | (simp only [List.length_drop, List.length_take]; rfl)) ?_
                    with_reducible refine (ramp_At.calls k2 16 0 0 0 0 65536 0 0 65536 0 0 (wrap64 (Int.tmod a4 3)) _ _ x13_2 0 a5_0 a5_1 t353 t354 t355 t356 _ ?side1 ?side2 A62.out).mono ?_
                    (case side1 => repeat (first | exact (Kd.R_reads' HO_13.out).2.2 | (with_reducible refine Kd.C_alloc ?_ _) | (with_reducible refine Kd.C_drewN ?_ _) | (with_reducible refine Kd.C_drew ?_)))
                    (case side2 => exact (Kd.R_reads' HO_13.out).2.1)
                    rintro e w73 ⟨rfl, hb⟩
                    refine ⟨_, rfl, ?_⟩
                    have n0_ := Aside0.mk (Kd.R_below (by (with_reducible repeat (first | apply Kd.R_alloc | apply Kd.R_drewN | apply Kd.R_drew)); exact HO_13.out) hb)
                    have n1_ := Aside0.mk (blk_below (g := gb331) (o := .cells #[.int .i64 a1_0, .int .i64 a1_1, .int .i64 a1_2, .int .i64 a1_3] 27 (0, 0)) (by (with_reducible repeat (first | refine blk_drewN ?_ _ | refine blk_drew ?_ | refine blk_alloc ?_ _)); exact BK331.out) hb)
                    have n2_ := Aside0.mk (blk_below (g := gb332) (o := .cells #[.int .i64 a5_0, .int .i64 a5_1] 36 (0, 0)) (by (with_reducible repeat (first | refine blk_drewN ?_ _ | refine blk_drew ?_ | refine blk_alloc ?_ _)); exact BK332.out) hb)
                    have n3_ := Aside0.mk (blk_below (g := gb339) (o := .cells #[.int .i64 16, .int .i64 0, .int .i64 0, .int .i64 0, .int .i64 0, .int .i64 65536, .int .i64 0, .int .i64 0, .int .i64 65536, .int .i64 0, .int .i64 0, .int .i64 (wrap64 (Int.tmod a4 3)), .slice Ao65 x13_2.length co65, .int .i64 0] 43 (0, 0)) (by (with_reducible repeat (first | refine blk_drewN ?_ _ | refine blk_drew ?_ | refine blk_alloc ?_ _)); exact BK339.out) hb)
                    have n4_ := Aside0.mk (below_step (by repeat (first | (with_reducible first | exact HB.out | apply below_alloc | apply pw_below_drewN | apply below_drew1 | refine below_set ?_ GE331.out | refine below_set ?_ GE332.out | refine below_set ?_ GE339.out) | exact HB.out)) hb)
                    clear HO_13
                    clear BK331
                    clear BK332
                    clear BK339
                    clear HB
                    have HO_13 := n0_
                    have BK331 := n1_
                    have BK332 := n2_
                    have BK339 := n3_
                    have HB := n4_
                    clear n0_ n1_ n2_ n3_ n4_
                    (try clear hb)
                    (try clear hb2)
                    (try clear hk)
                    (try clear hi)
                    refine hK.out _ _ ⟨(blk_cell BK331.out 0).trans rfl, (blk_cell BK331.out 1).trans rfl, (blk_cell BK331.out 2).trans rfl, (blk_cell BK331.out 3).trans rfl, (blk_cell BK339.out 0).trans rfl, (blk_cell BK339.out 1).trans rfl, (blk_cell BK339.out 2).trans rfl, (blk_cell BK339.out 3).trans rfl, (blk_cell BK339.out 4).trans rfl, (blk_cell BK339.out 5).trans rfl, (blk_cell BK339.out 6).trans rfl, (blk_cell BK339.out 7).trans rfl, (blk_cell BK339.out 8).trans rfl, (blk_cell BK339.out 9).trans rfl, (blk_cell BK339.out 10).trans rfl, (blk_cell BK339.out 11).trans rfl, (blk_cell BK339.out 12).trans rfl, (blk_cell BK339.out 13).trans rfl, (blk_cell BK332.out 0).trans rfl, (blk_cell BK332.out 1).trans rfl⟩ (fun hHeld => ?_)
                    clear hK K
                    refine norm_ (a' := ?_) ?_ ?_
                    rotate_left
                    · show Act.put _ (some 66) _ = _
                      simp only [Act.put, List.setIfInBounds_toArray, List.set_cons_zero, List.set_cons_succ, i64_w, i32_w]
                      rfl
                    refine pure_ (i := 11) (N := some 68) (v := ?_) (a' := ?_) #[true, true, true, true, true, true, true, true, true, true, true, true, false, false, false, false, false] rfl rfl (any_of HT_.out (by kernel_rfl)) (fun _ _ _ h => h) (Or.inl ⟨by rfl, ?_⟩) ?_ ?_
                    rotate_left
                    · intro w'
                      go_simp
                      with_reducible rfl
                    rotate_left
                    · simp only [Act.put, List.setIfInBounds_toArray, List.set_cons_zero, List.set_cons_succ, i64_w, i32_w]
                      rfl
                    refine pure_ (i := 12) (N := some 69) (v := ?_) (a' := ?_) #[true, true, true, true, true, true, true, true, true, true, true, true, true, false, false, false, false] rfl rfl (any_of HT_.out (by kernel_rfl)) (fun _ _ _ h => h) (Or.inl ⟨by rfl, ?_⟩) ?_ ?_
                    rotate_left
                    · intro w'
                      go_simp
                      with_reducible rfl
                    rotate_left
                    · simp only [Act.put, List.setIfInBounds_toArray, List.set_cons_zero, List.set_cons_succ, i64_w, i32_w]
                      rfl
                    refine pure_ (i := 13) (N := some 70) (v := ?_) (a' := ?_) #[true, true, true, true, true, true, true, true, true, true, true, true, true, true, false, false, false] rfl rfl (any_of HT_.out (by kernel_rfl)) (fun _ _ _ h => h) (Or.inl ⟨by rfl, ?_⟩) ?_ ?_
                    rotate_left
                    · intro w'
                      go_simp
                      with_reducible rfl
                    rotate_left
                    · simp only [Act.put, List.setIfInBounds_toArray, List.set_cons_zero, List.set_cons_succ, i64_w, i32_w]
                      rfl
                    refine one_ (i := 14) (N := some 71) #[true, true, true, true, true, true, true, true, true, true, true, true, true, true, true, false, false] rfl rfl (one_of HT_.out (by kernel_rfl)) (by decide) (fun K hK => ?_)
                    refine goes_ Try.func12 (by kernel_rfl) rfl #[] (by rfl) rfl rfl (by (try simp only [List.map_toArray, List.map_cons, List.map_nil]); first | done | rfl | (simp only [List.length_drop, List.length_take]; rfl)) ?_
                    with_reducible refine (celluloidlaw19_awake.calls k2  t357 _ A64.out).mono ?_
                    rintro e w74 ⟨rfl, hb⟩
                    refine ⟨_, rfl, ?_⟩
                    have n0_ := Aside0.mk (Kd.R_below (by (with_reducible repeat (first | apply Kd.R_alloc | apply Kd.R_drewN | apply Kd.R_drew)); exact HO_13.out) hb)
                    have n1_ := Aside0.mk (blk_below (g := gb331) (o := .cells #[.int .i64 a1_0, .int .i64 a1_1, .int .i64 a1_2, .int .i64 a1_3] 27 (0, 0)) (by (with_reducible repeat (first | refine blk_drewN ?_ _ | refine blk_drew ?_ | refine blk_alloc ?_ _)); exact BK331.out) hb)
                    have n2_ := Aside0.mk (blk_below (g := gb332) (o := .cells #[.int .i64 a5_0, .int .i64 a5_1] 36 (0, 0)) (by (with_reducible repeat (first | refine blk_drewN ?_ _ | refine blk_drew ?_ | refine blk_alloc ?_ _)); exact BK332.out) hb)
                    have n3_ := Aside0.mk (blk_below (g := gb339) (o := .cells #[.int .i64 16, .int .i64 0, .int .i64 0, .int .i64 0, .int .i64 0, .int .i64 65536, .int .i64 0, .int .i64 0, .int .i64 65536, .int .i64 0, .int .i64 0, .int .i64 (wrap64 (Int.tmod a4 3)), .slice Ao65 x13_2.length co65, .int .i64 0] 43 (0, 0)) (by (with_reducible repeat (first | refine blk_drewN ?_ _ | refine blk_drew ?_ | refine blk_alloc ?_ _)); exact BK339.out) hb)
                    have n4_ := Aside0.mk (below_step (by repeat (first | (with_reducible first | exact HB.out | apply below_alloc | apply pw_below_drewN | apply below_drew1 | refine below_set ?_ GE331.out | refine below_set ?_ GE332.out | refine below_set ?_ GE339.out) | exact HB.out)) hb)
                    clear HO_13
                    clear BK331
                    clear BK332
                    clear BK339
                    clear HB
                    have HO_13 := n0_
                    have BK331 := n1_
                    have BK332 := n2_
                    have BK339 := n3_
                    have HB := n4_
                    clear n0_ n1_ n2_ n3_ n4_
                    (try clear hb)
                    (try clear hb2)
                    (try clear hk)
                    (try clear hi)
                    refine hK.out _ _ ⟨(blk_cell BK331.out 0).trans rfl, (blk_cell BK331.out 1).trans rfl, (blk_cell BK331.out 2).trans rfl, (blk_cell BK331.out 3).trans rfl, (blk_cell BK339.out 0).trans rfl, (blk_cell BK339.out 1).trans rfl, (blk_cell BK339.out 2).trans rfl, (blk_cell BK339.out 3).trans rfl, (blk_cell BK339.out 4).trans rfl, (blk_cell BK339.out 5).trans rfl, (blk_cell BK339.out 6).trans rfl, (blk_cell BK339.out 7).trans rfl, (blk_cell BK339.out 8).trans rfl, (blk_cell BK339.out 9).trans rfl, (blk_cell BK339.out 10).trans rfl, (blk_cell BK339.out 11).trans rfl, (blk_cell BK339.out 12).trans rfl, (blk_cell BK339.out 13).trans rfl, (blk_cell BK332.out 0).trans rfl, (blk_cell BK332.out 1).trans rfl⟩ (fun hHeld => ?_)
                    clear hK K
                    refine norm_ (a' := ?_) ?_ ?_
                    rotate_left
                    · show Act.put _ (some 71) _ = _
                      simp only [Act.put, List.setIfInBounds_toArray, List.set_cons_zero, List.set_cons_succ, i64_w, i32_w]
                      rfl
                    refine pure_ (i := 15) (N := some 72) (v := ?_) (a' := ?_) #[true, true, true, true, true, true, true, true, true, true, true, true, true, true, true, true, false] rfl rfl (any_of HT_.out (by kernel_rfl)) (fun _ _ _ h => h) (Or.inl ⟨by rfl, ?_⟩) ?_ ?_
                    rotate_left
                    · intro w'
                      go_simp
                      with_reducible rfl
                    rotate_left
                    · simp only [Act.put, List.setIfInBounds_toArray, List.set_cons_zero, List.set_cons_succ, i64_w, i32_w]
                      rfl
                    refine pure_ (i := 16) (N := some 12) (v := ?_) (a' := ?_) #[true, true, true, true, true, true, true, true, true, true, true, true, true, true, true, true, true] rfl rfl (any_of HT_.out (by kernel_rfl)) (fun _ _ _ h => h) (Or.inl ⟨by rfl, ?_⟩) ?_ ?_
                    rotate_left
                    · intro w'
                      go_simp
                      with_reducible rfl
                    rotate_left
                    · simp only [Act.put, List.setIfInBounds_toArray, List.set_cons_zero, List.set_cons_succ, i64_w, i32_w]
                      rfl
                    refine done_ (done_of HT_.out (by kernel_rfl)) ?_
                    try go_wp2
                    go_ret
                    exact ⟨by first | rfl | (simp [errW_none, errW_some] <;> rfl) | (simp [*, errW_none, errW_some] <;> rfl), by repeat (first | (with_reducible first | exact HB.out | apply below_alloc | apply pw_below_drewN | apply below_drew1 | refine below_set ?_ GE331.out | refine below_set ?_ GE332.out | refine below_set ?_ GE339.out) | exact HB.out)⟩
                  · rw [if_neg c63] at H
                    have c63b0 : (t353 == a1_0 && (t354 == a1_1 && (t355 == a1_2 && (t356 == a1_3)))) = false := by simpa using c63
                    (try (have c63b1 : decide (t353 = a1_0 && (t354 == a1_1 && (t355 == a1_2 && (t356 == a1_3)))) = false := by simpa using c63))
                    (try (have c63b2 : (t353 == a1_0 && (t354 == a1_1 && (t355 == a1_2 && (t356 == a1_3)))) = false := by simpa using c63))
                    (try (have c63b3 : ¬ (t353 = a1_0 && (t354 == a1_1 && (t355 == a1_2 && (t356 == a1_3)))) := by simpa using c63))
                    clear c63
                    obtain rfl := Option.some.inj H
                    obtain ⟨Ao75, co75, eo75⟩ := Kd.R_slice HO_13.out
                    subst eo75
                    try go_wp2_with (first | ((with_reducible refine gate_dst (N := 17) rfl ?_); (try (refine gate_guard (by rfl) ?_; dsimp only)); refine box_event ?hg (N := 17) ?hd (cs := #[.int .i64 0, .int .i64 0, .int .i64 0, .int .i64 0, .int .i64 0, .int .i64 0, .int .i64 0, .int .i64 0, .int .i64 0, .int .i64 0, .int .i64 0, .int .i64 0, .slice none 0 0, .int .i64 0]) (t := 43) ?hr ?_; (case hd => rfl); (case hg => rfl); (case hr => first | (go_simp; done) | (go_simp; rfl)); intro gb339 hg w76 hbox hb; have n0_ := Aside0.mk (Kd.R_below (by (with_reducible repeat (first | apply Kd.R_alloc | apply Kd.R_drewN | apply Kd.R_drew)); exact HO_13.out) hb); have n1_ := Aside0.mk (blk_below (g := gb331) (o := .cells #[.int .i64 a1_0, .int .i64 a1_1, .int .i64 a1_2, .int .i64 a1_3] 27 (0, 0)) (by (with_reducible repeat (first | refine blk_drewN ?_ _ | refine blk_drew ?_ | refine blk_alloc ?_ _)); exact BK331.out) hb); have n2_ := Aside0.mk (blk_below (g := gb332) (o := .cells #[.int .i64 a5_0, .int .i64 a5_1] 36 (0, 0)) (by (with_reducible repeat (first | refine blk_drewN ?_ _ | refine blk_drew ?_ | refine blk_alloc ?_ _)); exact BK332.out) hb); have n3_ := Aside0.mk (below_step (by repeat (first | (with_reducible first | exact HB.out | apply below_alloc | apply pw_below_drewN | apply below_drew1 | refine below_set ?_ GE331.out | refine below_set ?_ GE332.out) | exact HB.out)) hb); have n4_ := Aside0.mk (hbox); have n5_ := Aside0.mk ((by rw [hg]; exact (below_size (by repeat (first | (with_reducible first | exact HB.out | apply below_alloc | apply pw_below_drewN | apply below_drew1 | refine below_set ?_ GE331.out | refine below_set ?_ GE332.out) | exact HB.out))) : w.heap.size ≤ gb339)); have n6_ := Aside0.mk ((by rw [hg]; exact (below_size (by repeat (first | (with_reducible first | exact HB.out | apply below_alloc | apply pw_below_drewN | apply below_drew1 | refine below_set ?_ GE331.out | refine below_set ?_ GE332.out) | exact HB.out))) : w.heap.size ≤ gb339)); have n7_ := Aside0.mk ((by rw [hg]; exact Nat.ne_of_lt (blk_lt (g := gb331) (o := .cells #[.int .i64 a1_0, .int .i64 a1_1, .int .i64 a1_2, .int .i64 a1_3] 27 (0, 0)) (by (with_reducible repeat (first | refine blk_drewN ?_ _ | refine blk_drew ?_ | refine blk_alloc ?_ _)); exact BK331.out)) : gb331 ≠ gb339)); have n8_ := Aside0.mk ((by rw [hg]; exact Nat.ne_of_gt (blk_lt (g := gb331) (o := .cells #[.int .i64 a1_0, .int .i64 a1_1, .int .i64 a1_2, .int .i64 a1_3] 27 (0, 0)) (by (with_reducible repeat (first | refine blk_drewN ?_ _ | refine blk_drew ?_ | refine blk_alloc ?_ _)); exact BK331.out)) : gb339 ≠ gb331)); have n9_ := Aside0.mk ((by rw [hg]; exact Nat.ne_of_lt (blk_lt (g := gb332) (o := .cells #[.int .i64 a5_0, .int .i64 a5_1] 36 (0, 0)) (by (with_reducible repeat (first | refine blk_drewN ?_ _ | refine blk_drew ?_ | refine blk_alloc ?_ _)); exact BK332.out)) : gb332 ≠ gb339)); have n10_ := Aside0.mk ((by rw [hg]; exact Nat.ne_of_gt (blk_lt (g := gb332) (o := .cells #[.int .i64 a5_0, .int .i64 a5_1] 36 (0, 0)) (by (with_reducible repeat (first | refine blk_drewN ?_ _ | refine blk_drew ?_ | refine blk_alloc ?_ _)); exact BK332.out)) : gb339 ≠ gb332)); clear HO_13; clear BK331; clear BK332; clear HB; have HO_13 := n0_; have BK331 := n1_; have BK332 := n2_; have HB := n3_; have BK339 := n4_; have GW339 := n5_; have GE339 := n6_; have NB331_339 := n7_; have NB339_331 := n8_; have NB332_339 := n9_; have NB339_332 := n10_; clear n0_ n1_ n2_ n3_ n4_ n5_ n6_ n7_ n8_ n9_ n10_; clear hb hbox hg; have hnb77 := NB339_331.out; have hnc77 := NB331_339.out; have hnb78 := NB339_332.out; have hnc78 := NB332_339.out; have hcz79_0 : w76.cell? ⟨gb339, 0, none⟩ = some (.int .i64 0) := (blk_cell BK339.out 0).trans rfl; have hcz79_1 : w76.cell? ⟨gb339, 1, none⟩ = some (.int .i64 0) := (blk_cell BK339.out 1).trans rfl; have hcz79_2 : w76.cell? ⟨gb339, 2, none⟩ = some (.int .i64 0) := (blk_cell BK339.out 2).trans rfl; have hcz79_3 : w76.cell? ⟨gb339, 3, none⟩ = some (.int .i64 0) := (blk_cell BK339.out 3).trans rfl; have hcz79_4 : w76.cell? ⟨gb339, 4, none⟩ = some (.int .i64 0) := (blk_cell BK339.out 4).trans rfl; have hcz79_5 : w76.cell? ⟨gb339, 5, none⟩ = some (.int .i64 0) := (blk_cell BK339.out 5).trans rfl; have hcz79_6 : w76.cell? ⟨gb339, 6, none⟩ = some (.int .i64 0) := (blk_cell BK339.out 6).trans rfl; have hcz79_7 : w76.cell? ⟨gb339, 7, none⟩ = some (.int .i64 0) := (blk_cell BK339.out 7).trans rfl; have hcz79_8 : w76.cell? ⟨gb339, 8, none⟩ = some (.int .i64 0) := (blk_cell BK339.out 8).trans rfl; have hcz79_9 : w76.cell? ⟨gb339, 9, none⟩ = some (.int .i64 0) := (blk_cell BK339.out 9).trans rfl; have hcz79_10 : w76.cell? ⟨gb339, 10, none⟩ = some (.int .i64 0) := (blk_cell BK339.out 10).trans rfl; have hcz79_11 : w76.cell? ⟨gb339, 11, none⟩ = some (.int .i64 0) := (blk_cell BK339.out 11).trans rfl; have hcz79_12 : w76.cell? ⟨gb339, 12, none⟩ = some (.slice none 0 0) := (blk_cell BK339.out 12).trans rfl; have hcz79_13 : w76.cell? ⟨gb339, 13, none⟩ = some (.int .i64 0) := (blk_cell BK339.out 13).trans rfl; have hfz79_0 := blk_frozen BK339.out 0; have hfz79_1 := blk_frozen BK339.out 1; have hfz79_2 := blk_frozen BK339.out 2; have hfz79_3 := blk_frozen BK339.out 3; have hfz79_4 := blk_frozen BK339.out 4; have hfz79_5 := blk_frozen BK339.out 5; have hfz79_6 := blk_frozen BK339.out 6; have hfz79_7 := blk_frozen BK339.out 7; have hfz79_8 := blk_frozen BK339.out 8; have hfz79_9 := blk_frozen BK339.out 9; have hfz79_10 := blk_frozen BK339.out 10; have hfz79_11 := blk_frozen BK339.out 11; have hfz79_12 := blk_frozen BK339.out 12; have hfz79_13 := blk_frozen BK339.out 13))
                    have n0_ : Aside0 (Kd.R k32 32 ((((((((((((((w76.setCell ⟨gb339, 0, none⟩ (.int .i64 16)).setCell ⟨gb339, 1, none⟩ (.int .i64 0)).setCell ⟨gb339, 2, none⟩ (.int .i64 0)).setCell ⟨gb339, 3, none⟩ (.int .i64 0)).setCell ⟨gb339, 4, none⟩ (.int .i64 0)).setCell ⟨gb339, 5, none⟩ (.int .i64 65536)).setCell ⟨gb339, 6, none⟩ (.int .i64 0)).setCell ⟨gb339, 7, none⟩ (.int .i64 0)).setCell ⟨gb339, 8, none⟩ (.int .i64 65536)).setCell ⟨gb339, 9, none⟩ (.int .i64 0)).setCell ⟨gb339, 10, none⟩ (.int .i64 0)).setCell ⟨gb339, 11, none⟩ (.int .i64 (wrap64 (Int.tmod a4 3)))).setCell ⟨gb339, 12, none⟩ (.slice Ao75 x13_2.length co75)).setCell ⟨gb339, 13, none⟩ (.int .i64 0)) w.heap.size (fun _ => True) (.slice Ao75 x13_2.length co75) x13_2) := ⟨by (with_reducible repeat (first | apply Kd.R_alloc | apply Kd.R_drewN | apply Kd.R_drew)); exact Kd.R_mono (Kd.R_far (p := ⟨gb339, 13, none⟩) (Kd.R_far (p := ⟨gb339, 12, none⟩) (Kd.R_far (p := ⟨gb339, 11, none⟩) (Kd.R_far (p := ⟨gb339, 10, none⟩) (Kd.R_far (p := ⟨gb339, 9, none⟩) (Kd.R_far (p := ⟨gb339, 8, none⟩) (Kd.R_far (p := ⟨gb339, 7, none⟩) (Kd.R_far (p := ⟨gb339, 6, none⟩) (Kd.R_far (p := ⟨gb339, 5, none⟩) (Kd.R_far (p := ⟨gb339, 4, none⟩) (Kd.R_far (p := ⟨gb339, 3, none⟩) (Kd.R_far (p := ⟨gb339, 2, none⟩) (Kd.R_far (p := ⟨gb339, 1, none⟩) (Kd.R_far (p := ⟨gb339, 0, none⟩) (Kd.R_types HO_13.out BK339.out (by decide)) (fun _ hk => hk.2) (.int .i64 16)) (fun _ hk => hk.2) (.int .i64 0)) (fun _ hk => hk.2) (.int .i64 0)) (fun _ hk => hk.2) (.int .i64 0)) (fun _ hk => hk.2) (.int .i64 0)) (fun _ hk => hk.2) (.int .i64 65536)) (fun _ hk => hk.2) (.int .i64 0)) (fun _ hk => hk.2) (.int .i64 0)) (fun _ hk => hk.2) (.int .i64 65536)) (fun _ hk => hk.2) (.int .i64 0)) (fun _ hk => hk.2) (.int .i64 0)) (fun _ hk => hk.2) (.int .i64 (wrap64 (Int.tmod a4 3)))) (fun _ hk => hk.2) (.slice Ao75 x13_2.length co75)) (fun _ hk => hk.2) (.int .i64 0)) (fun _ hk => trivial)⟩
                    have n1_ : Aside0 (((((((((((((((w76.setCell ⟨gb339, 0, none⟩ (.int .i64 16)).setCell ⟨gb339, 1, none⟩ (.int .i64 0)).setCell ⟨gb339, 2, none⟩ (.int .i64 0)).setCell ⟨gb339, 3, none⟩ (.int .i64 0)).setCell ⟨gb339, 4, none⟩ (.int .i64 0)).setCell ⟨gb339, 5, none⟩ (.int .i64 65536)).setCell ⟨gb339, 6, none⟩ (.int .i64 0)).setCell ⟨gb339, 7, none⟩ (.int .i64 0)).setCell ⟨gb339, 8, none⟩ (.int .i64 65536)).setCell ⟨gb339, 9, none⟩ (.int .i64 0)).setCell ⟨gb339, 10, none⟩ (.int .i64 0)).setCell ⟨gb339, 11, none⟩ (.int .i64 (wrap64 (Int.tmod a4 3)))).setCell ⟨gb339, 12, none⟩ (.slice Ao75 x13_2.length co75)).setCell ⟨gb339, 13, none⟩ (.int .i64 0)).heap[gb331]? = some (.cells #[.int .i64 a1_0, .int .i64 a1_1, .int .i64 a1_2, .int .i64 a1_3] 27 (0, 0))) := ⟨by (with_reducible repeat (first | refine blk_drewN ?_ _ | refine blk_drew ?_ | refine blk_alloc ?_ _)); refine blk_far ?_ NB331_339.out _; (with_reducible repeat (first | refine blk_drewN ?_ _ | refine blk_drew ?_ | refine blk_alloc ?_ _)); refine blk_far ?_ NB331_339.out _; (with_reducible repeat (first | refine blk_drewN ?_ _ | refine blk_drew ?_ | refine blk_alloc ?_ _)); refine blk_far ?_ NB331_339.out _; (with_reducible repeat (first | refine blk_drewN ?_ _ | refine blk_drew ?_ | refine blk_alloc ?_ _)); refine blk_far ?_ NB331_339.out _; (with_reducible repeat (first | refine blk_drewN ?_ _ | refine blk_drew ?_ | refine blk_alloc ?_ _)); refine blk_far ?_ NB331_339.out _; (with_reducible repeat (first | refine blk_drewN ?_ _ | refine blk_drew ?_ | refine blk_alloc ?_ _)); refine blk_far ?_ NB331_339.out _; (with_reducible repeat (first | refine blk_drewN ?_ _ | refine blk_drew ?_ | refine blk_alloc ?_ _)); refine blk_far ?_ NB331_339.out _; (with_reducible repeat (first | refine blk_drewN ?_ _ | refine blk_drew ?_ | refine blk_alloc ?_ _)); refine blk_far ?_ NB331_339.out _; (with_reducible repeat (first | refine blk_drewN ?_ _ | refine blk_drew ?_ | refine blk_alloc ?_ _)); refine blk_far ?_ NB331_339.out _; (with_reducible repeat (first | refine blk_drewN ?_ _ | refine blk_drew ?_ | refine blk_alloc ?_ _)); refine blk_far ?_ NB331_339.out _; (with_reducible repeat (first | refine blk_drewN ?_ _ | refine blk_drew ?_ | refine blk_alloc ?_ _)); refine blk_far ?_ NB331_339.out _; (with_reducible repeat (first | refine blk_drewN ?_ _ | refine blk_drew ?_ | refine blk_alloc ?_ _)); refine blk_far ?_ NB331_339.out _; (with_reducible repeat (first | refine blk_drewN ?_ _ | refine blk_drew ?_ | refine blk_alloc ?_ _)); refine blk_far ?_ NB331_339.out _; (with_reducible repeat (first | refine blk_drewN ?_ _ | refine blk_drew ?_ | refine blk_alloc ?_ _)); refine blk_far ?_ NB331_339.out _; (with_reducible repeat (first | refine blk_drewN ?_ _ | refine blk_drew ?_ | refine blk_alloc ?_ _)); exact BK331.out⟩
                    have n2_ : Aside0 (((((((((((((((w76.setCell ⟨gb339, 0, none⟩ (.int .i64 16)).setCell ⟨gb339, 1, none⟩ (.int .i64 0)).setCell ⟨gb339, 2, none⟩ (.int .i64 0)).setCell ⟨gb339, 3, none⟩ (.int .i64 0)).setCell ⟨gb339, 4, none⟩ (.int .i64 0)).setCell ⟨gb339, 5, none⟩ (.int .i64 65536)).setCell ⟨gb339, 6, none⟩ (.int .i64 0)).setCell ⟨gb339, 7, none⟩ (.int .i64 0)).setCell ⟨gb339, 8, none⟩ (.int .i64 65536)).setCell ⟨gb339, 9, none⟩ (.int .i64 0)).setCell ⟨gb339, 10, none⟩ (.int .i64 0)).setCell ⟨gb339, 11, none⟩ (.int .i64 (wrap64 (Int.tmod a4 3)))).setCell ⟨gb339, 12, none⟩ (.slice Ao75 x13_2.length co75)).setCell ⟨gb339, 13, none⟩ (.int .i64 0)).heap[gb332]? = some (.cells #[.int .i64 a5_0, .int .i64 a5_1] 36 (0, 0))) := ⟨by (with_reducible repeat (first | refine blk_drewN ?_ _ | refine blk_drew ?_ | refine blk_alloc ?_ _)); refine blk_far ?_ NB332_339.out _; (with_reducible repeat (first | refine blk_drewN ?_ _ | refine blk_drew ?_ | refine blk_alloc ?_ _)); refine blk_far ?_ NB332_339.out _; (with_reducible repeat (first | refine blk_drewN ?_ _ | refine blk_drew ?_ | refine blk_alloc ?_ _)); refine blk_far ?_ NB332_339.out _; (with_reducible repeat (first | refine blk_drewN ?_ _ | refine blk_drew ?_ | refine blk_alloc ?_ _)); refine blk_far ?_ NB332_339.out _; (with_reducible repeat (first | refine blk_drewN ?_ _ | refine blk_drew ?_ | refine blk_alloc ?_ _)); refine blk_far ?_ NB332_339.out _; (with_reducible repeat (first | refine blk_drewN ?_ _ | refine blk_drew ?_ | refine blk_alloc ?_ _)); refine blk_far ?_ NB332_339.out _; (with_reducible repeat (first | refine blk_drewN ?_ _ | refine blk_drew ?_ | refine blk_alloc ?_ _)); refine blk_far ?_ NB332_339.out _; (with_reducible repeat (first | refine blk_drewN ?_ _ | refine blk_drew ?_ | refine blk_alloc ?_ _)); refine blk_far ?_ NB332_339.out _; (with_reducible repeat (first | refine blk_drewN ?_ _ | refine blk_drew ?_ | refine blk_alloc ?_ _)); refine blk_far ?_ NB332_339.out _; (with_reducible repeat (first | refine blk_drewN ?_ _ | refine blk_drew ?_ | refine blk_alloc ?_ _)); refine blk_far ?_ NB332_339.out _; (with_reducible repeat (first | refine blk_drewN ?_ _ | refine blk_drew ?_ | refine blk_alloc ?_ _)); refine blk_far ?_ NB332_339.out _; (with_reducible repeat (first | refine blk_drewN ?_ _ | refine blk_drew ?_ | refine blk_alloc ?_ _)); refine blk_far ?_ NB332_339.out _; (with_reducible repeat (first | refine blk_drewN ?_ _ | refine blk_drew ?_ | refine blk_alloc ?_ _)); refine blk_far ?_ NB332_339.out _; (with_reducible repeat (first | refine blk_drewN ?_ _ | refine blk_drew ?_ | refine blk_alloc ?_ _)); refine blk_far ?_ NB332_339.out _; (with_reducible repeat (first | refine blk_drewN ?_ _ | refine blk_drew ?_ | refine blk_alloc ?_ _)); exact BK332.out⟩
                    have n3_ : Aside0 (((((((((((((((w76.setCell ⟨gb339, 0, none⟩ (.int .i64 16)).setCell ⟨gb339, 1, none⟩ (.int .i64 0)).setCell ⟨gb339, 2, none⟩ (.int .i64 0)).setCell ⟨gb339, 3, none⟩ (.int .i64 0)).setCell ⟨gb339, 4, none⟩ (.int .i64 0)).setCell ⟨gb339, 5, none⟩ (.int .i64 65536)).setCell ⟨gb339, 6, none⟩ (.int .i64 0)).setCell ⟨gb339, 7, none⟩ (.int .i64 0)).setCell ⟨gb339, 8, none⟩ (.int .i64 65536)).setCell ⟨gb339, 9, none⟩ (.int .i64 0)).setCell ⟨gb339, 10, none⟩ (.int .i64 0)).setCell ⟨gb339, 11, none⟩ (.int .i64 (wrap64 (Int.tmod a4 3)))).setCell ⟨gb339, 12, none⟩ (.slice Ao75 x13_2.length co75)).setCell ⟨gb339, 13, none⟩ (.int .i64 0)).heap[gb339]? = some (.cells #[.int .i64 16, .int .i64 0, .int .i64 0, .int .i64 0, .int .i64 0, .int .i64 65536, .int .i64 0, .int .i64 0, .int .i64 65536, .int .i64 0, .int .i64 0, .int .i64 (wrap64 (Int.tmod a4 3)), .slice Ao75 x13_2.length co75, .int .i64 0] 43 (0, 0))) := ⟨by (with_reducible repeat (first | refine blk_drewN ?_ _ | refine blk_drew ?_ | refine blk_alloc ?_ _)); refine blk_put (cs := #[.int .i64 16, .int .i64 0, .int .i64 0, .int .i64 0, .int .i64 0, .int .i64 65536, .int .i64 0, .int .i64 0, .int .i64 65536, .int .i64 0, .int .i64 0, .int .i64 (wrap64 (Int.tmod a4 3)), .slice Ao75 x13_2.length co75, .int .i64 0]) ?_ 13 _ rfl; (with_reducible repeat (first | refine blk_drewN ?_ _ | refine blk_drew ?_ | refine blk_alloc ?_ _)); refine blk_put (cs := #[.int .i64 16, .int .i64 0, .int .i64 0, .int .i64 0, .int .i64 0, .int .i64 65536, .int .i64 0, .int .i64 0, .int .i64 65536, .int .i64 0, .int .i64 0, .int .i64 (wrap64 (Int.tmod a4 3)), .slice none 0 0, .int .i64 0]) ?_ 12 _ rfl; (with_reducible repeat (first | refine blk_drewN ?_ _ | refine blk_drew ?_ | refine blk_alloc ?_ _)); refine blk_put (cs := #[.int .i64 16, .int .i64 0, .int .i64 0, .int .i64 0, .int .i64 0, .int .i64 65536, .int .i64 0, .int .i64 0, .int .i64 65536, .int .i64 0, .int .i64 0, .int .i64 0, .slice none 0 0, .int .i64 0]) ?_ 11 _ rfl; (with_reducible repeat (first | refine blk_drewN ?_ _ | refine blk_drew ?_ | refine blk_alloc ?_ _)); refine blk_put (cs := #[.int .i64 16, .int .i64 0, .int .i64 0, .int .i64 0, .int .i64 0, .int .i64 65536, .int .i64 0, .int .i64 0, .int .i64 65536, .int .i64 0, .int .i64 0, .int .i64 0, .slice none 0 0, .int .i64 0]) ?_ 10 _ rfl; (with_reducible repeat (first | refine blk_drewN ?_ _ | refine blk_drew ?_ | refine blk_alloc ?_ _)); refine blk_put (cs := #[.int .i64 16, .int .i64 0, .int .i64 0, .int .i64 0, .int .i64 0, .int .i64 65536, .int .i64 0, .int .i64 0, .int .i64 65536, .int .i64 0, .int .i64 0, .int .i64 0, .slice none 0 0, .int .i64 0]) ?_ 9 _ rfl; (with_reducible repeat (first | refine blk_drewN ?_ _ | refine blk_drew ?_ | refine blk_alloc ?_ _)); refine blk_put (cs := #[.int .i64 16, .int .i64 0, .int .i64 0, .int .i64 0, .int .i64 0, .int .i64 65536, .int .i64 0, .int .i64 0, .int .i64 0, .int .i64 0, .int .i64 0, .int .i64 0, .slice none 0 0, .int .i64 0]) ?_ 8 _ rfl; (with_reducible repeat (first | refine blk_drewN ?_ _ | refine blk_drew ?_ | refine blk_alloc ?_ _)); refine blk_put (cs := #[.int .i64 16, .int .i64 0, .int .i64 0, .int .i64 0, .int .i64 0, .int .i64 65536, .int .i64 0, .int .i64 0, .int .i64 0, .int .i64 0, .int .i64 0, .int .i64 0, .slice none 0 0, .int .i64 0]) ?_ 7 _ rfl; (with_reducible repeat (first | refine blk_drewN ?_ _ | refine blk_drew ?_ | refine blk_alloc ?_ _)); refine blk_put (cs := #[.int .i64 16, .int .i64 0, .int .i64 0, .int .i64 0, .int .i64 0, .int .i64 65536, .int .i64 0, .int .i64 0, .int .i64 0, .int .i64 0, .int .i64 0, .int .i64 0, .slice none 0 0, .int .i64 0]) ?_ 6 _ rfl; (with_reducible repeat (first | refine blk_drewN ?_ _ | refine blk_drew ?_ | refine blk_alloc ?_ _)); refine blk_put (cs := #[.int .i64 16, .int .i64 0, .int .i64 0, .int .i64 0, .int .i64 0, .int .i64 0, .int .i64 0, .int .i64 0, .int .i64 0, .int .i64 0, .int .i64 0, .int .i64 0, .slice none 0 0, .int .i64 0]) ?_ 5 _ rfl; (with_reducible repeat (first | refine blk_drewN ?_ _ | refine blk_drew ?_ | refine blk_alloc ?_ _)); refine blk_put (cs := #[.int .i64 16, .int .i64 0, .int .i64 0, .int .i64 0, .int .i64 0, .int .i64 0, .int .i64 0, .int .i64 0, .int .i64 0, .int .i64 0, .int .i64 0, .int .i64 0, .slice none 0 0, .int .i64 0]) ?_ 4 _ rfl; (with_reducible repeat (first | refine blk_drewN ?_ _ | refine blk_drew ?_ | refine blk_alloc ?_ _)); refine blk_put (cs := #[.int .i64 16, .int .i64 0, .int .i64 0, .int .i64 0, .int .i64 0, .int .i64 0, .int .i64 0, .int .i64 0, .int .i64 0, .int .i64 0, .int .i64 0, .int .i64 0, .slice none 0 0, .int .i64 0]) ?_ 3 _ rfl; (with_reducible repeat (first | refine blk_drewN ?_ _ | refine blk_drew ?_ | refine blk_alloc ?_ _)); refine blk_put (cs := #[.int .i64 16, .int .i64 0, .int .i64 0, .int .i64 0, .int .i64 0, .int .i64 0, .int .i64 0, .int .i64 0, .int .i64 0, .int .i64 0, .int .i64 0, .int .i64 0, .slice none 0 0, .int .i64 0]) ?_ 2 _ rfl; (with_reducible repeat (first | refine blk_drewN ?_ _ | refine blk_drew ?_ | refine blk_alloc ?_ _)); refine blk_put (cs := #[.int .i64 16, .int .i64 0, .int .i64 0, .int .i64 0, .int .i64 0, .int .i64 0, .int .i64 0, .int .i64 0, .int .i64 0, .int .i64 0, .int .i64 0, .int .i64 0, .slice none 0 0, .int .i64 0]) ?_ 1 _ rfl; (with_reducible repeat (first | refine blk_drewN ?_ _ | refine blk_drew ?_ | refine blk_alloc ?_ _)); refine blk_put (cs := #[.int .i64 0, .int .i64 0, .int .i64 0, .int .i64 0, .int .i64 0, .int .i64 0, .int .i64 0, .int .i64 0, .int .i64 0, .int .i64 0, .int .i64 0, .int .i64 0, .slice none 0 0, .int .i64 0]) ?_ 0 _ rfl; (with_reducible repeat (first | refine blk_drewN ?_ _ | refine blk_drew ?_ | refine blk_alloc ?_ _)); exact BK339.out⟩
                    have n4_ : Aside0 (Below w.heap.size w ((((((((((((((w76.setCell ⟨gb339, 0, none⟩ (.int .i64 16)).setCell ⟨gb339, 1, none⟩ (.int .i64 0)).setCell ⟨gb339, 2, none⟩ (.int .i64 0)).setCell ⟨gb339, 3, none⟩ (.int .i64 0)).setCell ⟨gb339, 4, none⟩ (.int .i64 0)).setCell ⟨gb339, 5, none⟩ (.int .i64 65536)).setCell ⟨gb339, 6, none⟩ (.int .i64 0)).setCell ⟨gb339, 7, none⟩ (.int .i64 0)).setCell ⟨gb339, 8, none⟩ (.int .i64 65536)).setCell ⟨gb339, 9, none⟩ (.int .i64 0)).setCell ⟨gb339, 10, none⟩ (.int .i64 0)).setCell ⟨gb339, 11, none⟩ (.int .i64 (wrap64 (Int.tmod a4 3)))).setCell ⟨gb339, 12, none⟩ (.slice Ao75 x13_2.length co75)).setCell ⟨gb339, 13, none⟩ (.int .i64 0))) := ⟨by repeat (first | (with_reducible first | exact HB.out | apply below_alloc | apply pw_below_drewN | apply below_drew1 | refine below_set ?_ GE331.out | refine below_set ?_ GE332.out | refine below_set ?_ GE339.out) | exact HB.out)⟩
                    (try clear HO_13)
                    (try clear BK331)
                    (try clear BK332)
                    (try clear BK339)
                    (try clear HB)
                    generalize ((((((((((((((w76.setCell ⟨gb339, 0, none⟩ (.int .i64 16)).setCell ⟨gb339, 1, none⟩ (.int .i64 0)).setCell ⟨gb339, 2, none⟩ (.int .i64 0)).setCell ⟨gb339, 3, none⟩ (.int .i64 0)).setCell ⟨gb339, 4, none⟩ (.int .i64 0)).setCell ⟨gb339, 5, none⟩ (.int .i64 65536)).setCell ⟨gb339, 6, none⟩ (.int .i64 0)).setCell ⟨gb339, 7, none⟩ (.int .i64 0)).setCell ⟨gb339, 8, none⟩ (.int .i64 65536)).setCell ⟨gb339, 9, none⟩ (.int .i64 0)).setCell ⟨gb339, 10, none⟩ (.int .i64 0)).setCell ⟨gb339, 11, none⟩ (.int .i64 (wrap64 (Int.tmod a4 3)))).setCell ⟨gb339, 12, none⟩ (.slice Ao75 x13_2.length co75)).setCell ⟨gb339, 13, none⟩ (.int .i64 0)) = w80 at n0_ n1_ n2_ n3_ n4_ ⊢
                    have HO_13 := n0_
                    have BK331 := n1_
                    have BK332 := n2_
                    have BK339 := n3_
                    have HB := n4_
                    clear n0_ n1_ n2_ n3_ n4_
                    have n0_ := Aside0.mk (Kd.R_drew HO_13.out)
                    have n1_ := Aside0.mk (blk_drew BK331.out)
                    have n2_ := Aside0.mk (blk_drew BK332.out)
                    have n3_ := Aside0.mk (blk_drew BK339.out)
                    have n4_ := Aside0.mk (below_drew1 HB.out)
                    clear HO_13
                    clear BK331
                    clear BK332
                    clear BK339
                    clear HB
                    have HO_13 := n0_
                    have BK331 := n1_
                    have BK332 := n2_
                    have BK339 := n3_
                    have HB := n4_
                    clear n0_ n1_ n2_ n3_ n4_
                    refine start_ (n := 17) (S := fun w' => w'.cell? ⟨gb331, 0, none⟩ = some (.int .i64 a1_0) ∧ w'.cell? ⟨gb331, 1, none⟩ = some (.int .i64 a1_1) ∧ w'.cell? ⟨gb331, 2, none⟩ = some (.int .i64 a1_2) ∧ w'.cell? ⟨gb331, 3, none⟩ = some (.int .i64 a1_3) ∧ w'.cell? ⟨gb339, 0, none⟩ = some (.int .i64 16) ∧ w'.cell? ⟨gb339, 1, none⟩ = some (.int .i64 0) ∧ w'.cell? ⟨gb339, 2, none⟩ = some (.int .i64 0) ∧ w'.cell? ⟨gb339, 3, none⟩ = some (.int .i64 0) ∧ w'.cell? ⟨gb339, 4, none⟩ = some (.int .i64 0) ∧ w'.cell? ⟨gb339, 5, none⟩ = some (.int .i64 65536) ∧ w'.cell? ⟨gb339, 6, none⟩ = some (.int .i64 0) ∧ w'.cell? ⟨gb339, 7, none⟩ = some (.int .i64 0) ∧ w'.cell? ⟨gb339, 8, none⟩ = some (.int .i64 65536) ∧ w'.cell? ⟨gb339, 9, none⟩ = some (.int .i64 0) ∧ w'.cell? ⟨gb339, 10, none⟩ = some (.int .i64 0) ∧ w'.cell? ⟨gb339, 11, none⟩ = some (.int .i64 (wrap64 (Int.tmod a4 3))) ∧ w'.cell? ⟨gb339, 12, none⟩ = some (.slice Ao75 x13_2.length co75) ∧ w'.cell? ⟨gb339, 13, none⟩ = some (.int .i64 0) ∧ w'.cell? ⟨gb332, 0, none⟩ = some (.int .i64 a5_0) ∧ w'.cell? ⟨gb332, 1, none⟩ = some (.int .i64 a5_1)) (ds := []) #[false, false, false, false, false, false, false, false, false, false, false, false, false, false, false, false, false] (by kernel_rfl) rfl rfl ⟨(blk_cell BK331.out 0).trans rfl, (blk_cell BK331.out 1).trans rfl, (blk_cell BK331.out 2).trans rfl, (blk_cell BK331.out 3).trans rfl, (blk_cell BK339.out 0).trans rfl, (blk_cell BK339.out 1).trans rfl, (blk_cell BK339.out 2).trans rfl, (blk_cell BK339.out 3).trans rfl, (blk_cell BK339.out 4).trans rfl, (blk_cell BK339.out 5).trans rfl, (blk_cell BK339.out 6).trans rfl, (blk_cell BK339.out 7).trans rfl, (blk_cell BK339.out 8).trans rfl, (blk_cell BK339.out 9).trans rfl, (blk_cell BK339.out 10).trans rfl, (blk_cell BK339.out 11).trans rfl, (blk_cell BK339.out 12).trans rfl, (blk_cell BK339.out 13).trans rfl, (blk_cell BK332.out 0).trans rfl, (blk_cell BK332.out 1).trans rfl⟩ (fun hHeld => ?_); refine with_tabW celluloidlaw19_RampSame.tab14 celluloidlaw19_RampSame.bits14 (fun HT_ HW_ => ?_)
                    generalize w80.drew = w81 at HO_13 BK331 BK332 BK339 HB hHeld ⊢
                    refine pure_ (i := 0) (N := some 57) (v := ?_) (a' := ?_) #[true, false, false, false, false, false, false, false, false, false, false, false, false, false, false, false, false] rfl rfl (any_of HT_.out (by kernel_rfl)) (fun _ _ _ h => h) (Or.inl ⟨by rfl, ?_⟩) ?_ ?_
                    rotate_left
                    · intro w'
                      go_simp
                      with_reducible rfl
                    rotate_left
                    · simp only [Act.put, List.setIfInBounds_toArray, List.set_cons_zero, List.set_cons_succ, i64_w, i32_w]
                      rfl
                    refine pure_ (i := 1) (N := some 58) (v := ?_) (a' := ?_) #[true, true, false, false, false, false, false, false, false, false, false, false, false, false, false, false, false] rfl rfl (any_of HT_.out (by kernel_rfl)) (fun _ _ _ h => h) (Or.inl ⟨by rfl, ?_⟩) ?_ ?_
                    rotate_left
                    · intro w'
                      go_simp
                      with_reducible rfl
                    rotate_left
                    · simp only [Act.put, List.setIfInBounds_toArray, List.set_cons_zero, List.set_cons_succ, i64_w, i32_w]
                      rfl
                    refine pure_ (i := 2) (N := some 59) (v := ?_) (a' := ?_) #[true, true, true, false, false, false, false, false, false, false, false, false, false, false, false, false, false] rfl rfl (any_of HT_.out (by kernel_rfl)) (fun _ _ _ h => h) (Or.inl ⟨by rfl, ?_⟩) ?_ ?_
                    rotate_left
                    · intro w'
                      go_simp
                      with_reducible rfl
                    rotate_left
                    · simp only [Act.put, List.setIfInBounds_toArray, List.set_cons_zero, List.set_cons_succ, i64_w, i32_w]
                      rfl
                    refine take_ (i := 4) (N := some 61) (v := ?_) (a' := ?_) #[true, true, true, false, true, false, false, false, false, false, false, false, false, false, false, false, false] rfl rfl (take_ofW HT_.out HW_.out (by kernel_rfl)) (fun _ _ _ h => h) (Or.inl ⟨by rfl, ?_⟩) hHeld ?_ ?_
                    rotate_left
                    · rintro w' ⟨s0, s1, s2, s3, s4, s5, s6, s7, s8, s9, s10, s11, s12, s13, s14, s15, s16, s17, s18, s19⟩
                      go_simp
                      with_reducible rfl
                    rotate_left
                    · simp only [Act.put, List.setIfInBounds_toArray, List.set_cons_zero, List.set_cons_succ, i64_w, i32_w]
                      rfl
                    refine one_ (i := 3) (N := some 60) #[true, true, true, true, true, false, false, false, false, false, false, false, false, false, false, false, false] rfl rfl (one_of HT_.out (by kernel_rfl)) (by decide) (fun K hK => ?_)
                    refine goes_ Try.func13 (by kernel_rfl) rfl #[.slice Ao75 x13_2.length co75, .int .i64 (wrap64 (a2))] (by rfl) rfl rfl (by (try simp only [List.map_toArray, List.map_cons, List.map_nil]); first | done | rfl | (simp only [List.length_drop, List.length_take]; rfl)) ?_
                    with_reducible refine (ramp_Color.calls k2 _ _ x13_2 (wrap64 (a2)) t349 t350 t351 t352 _ ?side1 ?side2 A60.out).mono ?_
                    (case side1 => repeat (first | exact (Kd.R_reads' HO_13.out).2.2 | (with_reducible refine Kd.C_alloc ?_ _) | (with_reducible refine Kd.C_drewN ?_ _) | (with_reducible refine Kd.C_drew ?_)))
                    (case side2 => exact (Kd.R_reads' HO_13.out).2.1)
                    rintro e w82 ⟨rfl, hb⟩
                    refine ⟨_, rfl, ?_⟩
                    have n0_ := Aside0.mk (Kd.R_below (by (with_reducible repeat (first | apply Kd.R_alloc | apply Kd.R_drewN | apply Kd.R_drew)); exact HO_13.out) hb)
                    have n1_ := Aside0.mk (blk_below (g := gb331) (o := .cells #[.int .i64 a1_0, .int .i64 a1_1, .int .i64 a1_2, .int .i64 a1_3] 27 (0, 0)) (by (with_reducible repeat (first | refine blk_drewN ?_ _ | refine blk_drew ?_ | refine blk_alloc ?_ _)); exact BK331.out) hb)
                    have n2_ := Aside0.mk (blk_below (g := gb332) (o := .cells #[.int .i64 a5_0, .int .i64 a5_1] 36 (0, 0)) (by (with_reducible repeat (first | refine blk_drewN ?_ _ | refine blk_drew ?_ | refine blk_alloc ?_ _)); exact BK332.out) hb)
                    have n3_ := Aside0.mk (blk_below (g := gb339) (o := .cells #[.int .i64 16, .int .i64 0, .int .i64 0, .int .i64 0, .int .i64 0, .int .i64 65536, .int .i64 0, .int .i64 0, .int .i64 65536, .int .i64 0, .int .i64 0, .int .i64 (wrap64 (Int.tmod a4 3)), .slice Ao75 x13_2.length co75, .int .i64 0] 43 (0, 0)) (by (with_reducible repeat (first | refine blk_drewN ?_ _ | refine blk_drew ?_ | refine blk_alloc ?_ _)); exact BK339.out) hb)
                    have n4_ := Aside0.mk (below_step (by repeat (first | (with_reducible first | exact HB.out | apply below_alloc | apply pw_below_drewN | apply below_drew1 | refine below_set ?_ GE331.out | refine below_set ?_ GE332.out | refine below_set ?_ GE339.out) | exact HB.out)) hb)
                    clear HO_13
                    clear BK331
                    clear BK332
                    clear BK339
                    clear HB
                    have HO_13 := n0_
                    have BK331 := n1_
                    have BK332 := n2_
                    have BK339 := n3_
                    have HB := n4_
                    clear n0_ n1_ n2_ n3_ n4_
                    (try clear hb)
                    (try clear hb2)
                    (try clear hk)
                    (try clear hi)
                    refine hK.out _ _ ⟨(blk_cell BK331.out 0).trans rfl, (blk_cell BK331.out 1).trans rfl, (blk_cell BK331.out 2).trans rfl, (blk_cell BK331.out 3).trans rfl, (blk_cell BK339.out 0).trans rfl, (blk_cell BK339.out 1).trans rfl, (blk_cell BK339.out 2).trans rfl, (blk_cell BK339.out 3).trans rfl, (blk_cell BK339.out 4).trans rfl, (blk_cell BK339.out 5).trans rfl, (blk_cell BK339.out 6).trans rfl, (blk_cell BK339.out 7).trans rfl, (blk_cell BK339.out 8).trans rfl, (blk_cell BK339.out 9).trans rfl, (blk_cell BK339.out 10).trans rfl, (blk_cell BK339.out 11).trans rfl, (blk_cell BK339.out 12).trans rfl, (blk_cell BK339.out 13).trans rfl, (blk_cell BK332.out 0).trans rfl, (blk_cell BK332.out 1).trans rfl⟩ (fun hHeld => ?_)
                    clear hK K
                    refine norm_ (a' := ?_) ?_ ?_
                    rotate_left
                    · show Act.put _ (some 60) _ = _
                      simp only [Act.put, List.setIfInBounds_toArray, List.set_cons_zero, List.set_cons_succ, i64_w, i32_w]
                      rfl
                    refine pure_ (i := 5) (N := some 62) (v := ?_) (a' := ?_) #[true, true, true, true, true, true, false, false, false, false, false, false, false, false, false, false, false] rfl rfl (any_of HT_.out (by kernel_rfl)) (fun _ _ _ h => h) (Or.inl ⟨by rfl, ?_⟩) ?_ ?_
                    rotate_left
                    · intro w'
                      go_simp
                      with_reducible rfl
                    rotate_left
                    · simp only [Act.put, List.setIfInBounds_toArray, List.set_cons_zero, List.set_cons_succ, i64_w, i32_w]
                      rfl
                    refine pure_ (i := 6) (N := some 63) (v := ?_) (a' := ?_) #[true, true, true, true, true, true, true, false, false, false, false, false, false, false, false, false, false] rfl rfl (any_of HT_.out (by kernel_rfl)) (fun _ _ _ h => h) (Or.inl ⟨by rfl, ?_⟩) ?_ ?_
                    rotate_left
                    · intro w'
                      go_simp
                      with_reducible rfl
                    rotate_left
                    · simp only [Act.put, List.setIfInBounds_toArray, List.set_cons_zero, List.set_cons_succ, i64_w, i32_w]
                      rfl
                    refine take_ (i := 7) (N := some 64) (v := ?_) (a' := ?_) #[true, true, true, true, true, true, true, true, false, false, false, false, false, false, false, false, false] rfl rfl (take_ofW HT_.out HW_.out (by kernel_rfl)) (fun _ _ _ h => h) (Or.inl ⟨by rfl, ?_⟩) hHeld ?_ ?_
                    rotate_left
                    · rintro w' ⟨s0, s1, s2, s3, s4, s5, s6, s7, s8, s9, s10, s11, s12, s13, s14, s15, s16, s17, s18, s19⟩
                      go_simp
                      with_reducible rfl
                    rotate_left
                    · simp only [Act.put, List.setIfInBounds_toArray, List.set_cons_zero, List.set_cons_succ, i64_w, i32_w]
                      rfl
                    refine take_ (i := 8) (N := some 65) (v := ?_) (a' := ?_) #[true, true, true, true, true, true, true, true, true, false, false, false, false, false, false, false, false] rfl rfl (take_ofW HT_.out HW_.out (by kernel_rfl)) (fun _ _ _ h => h) (Or.inl ⟨by rfl, ?_⟩) hHeld ?_ ?_
                    rotate_left
                    · rintro w' ⟨s0, s1, s2, s3, s4, s5, s6, s7, s8, s9, s10, s11, s12, s13, s14, s15, s16, s17, s18, s19⟩
                      go_simp
                      with_reducible rfl
                    rotate_left
                    · simp only [Act.put, List.setIfInBounds_toArray, List.set_cons_zero, List.set_cons_succ, i64_w, i32_w]
                      rfl
                    refine take_ (i := 10) (N := some 67) (v := ?_) (a' := ?_) #[true, true, true, true, true, true, true, true, true, false, true, false, false, false, false, false, false] rfl rfl (take_ofW HT_.out HW_.out (by kernel_rfl)) (fun _ _ _ h => h) (Or.inl ⟨by rfl, ?_⟩) hHeld ?_ ?_
                    rotate_left
                    · rintro w' ⟨s0, s1, s2, s3, s4, s5, s6, s7, s8, s9, s10, s11, s12, s13, s14, s15, s16, s17, s18, s19⟩
                      go_simp
                      with_reducible rfl
                    rotate_left
                    · simp only [Act.put, List.setIfInBounds_toArray, List.set_cons_zero, List.set_cons_succ, i64_w, i32_w]
                      rfl
                    refine one_ (i := 9) (N := some 66) #[true, true, true, true, true, true, true, true, true, true, true, false, false, false, false, false, false] rfl rfl (one_of HT_.out (by kernel_rfl)) (by decide) (fun K hK => ?_)
                    refine goes_ Try.func19 (by kernel_rfl) rfl #[.agg #[.int .i64 16, .int .i64 0, .int .i64 0, .int .i64 0, .int .i64 0, .int .i64 65536, .int .i64 0, .int .i64 0, .int .i64 65536, .int .i64 0, .int .i64 0, .int .i64 (wrap64 (Int.tmod a4 3)), .slice Ao75 x13_2.length co75, .int .i64 0], .agg #[.int .i64 a5_0, .int .i64 a5_1]] (by rfl) rfl rfl (by (try simp only [List.map_toArray, List.map_cons, List.map_nil]); first | done | rfl | (simp only [List.length_drop, List.length_take]; rfl)) ?_
                    with_reducible refine (ramp_At.calls k2 16 0 0 0 0 65536 0 0 65536 0 0 (wrap64 (Int.tmod a4 3)) _ _ x13_2 0 a5_0 a5_1 t353 t354 t355 t356 _ ?side1 ?side2 A62.out).mono ?_
                    (case side1 => repeat (first | exact (Kd.R_reads' HO_13.out).2.2 | (with_reducible refine Kd.C_alloc ?_ _) | (with_reducible refine Kd.C_drewN ?_ _) | (with_reducible refine Kd.C_drew ?_)))
                    (case side2 => exact (Kd.R_reads' HO_13.out).2.1)
                    rintro e w83 ⟨rfl, hb⟩
                    refine ⟨_, rfl, ?_⟩
                    have n0_ := Aside0.mk (Kd.R_below (by (with_reducible repeat (first | apply Kd.R_alloc | apply Kd.R_drewN | apply Kd.R_drew)); exact HO_13.out) hb)
                    have n1_ := Aside0.mk (blk_below (g := gb331) (o := .cells #[.int .i64 a1_0, .int .i64 a1_1, .int .i64 a1_2, .int .i64 a1_3] 27 (0, 0)) (by (with_reducible repeat (first | refine blk_drewN ?_ _ | refine blk_drew ?_ | refine blk_alloc ?_ _)); exact BK331.out) hb)
                    have n2_ := Aside0.mk (blk_below (g := gb332) (o := .cells #[.int .i64 a5_0, .int .i64 a5_1] 36 (0, 0)) (by (with_reducible repeat (first | refine blk_drewN ?_ _ | refine blk_drew ?_ | refine blk_alloc ?_ _)); exact BK332.out) hb)
                    have n3_ := Aside0.mk (blk_below (g := gb339) (o := .cells #[.int .i64 16, .int .i64 0, .int .i64 0, .int .i64 0, .int .i64 0, .int .i64 65536, .int .i64 0, .int .i64 0, .int .i64 65536, .int .i64 0, .int .i64 0, .int .i64 (wrap64 (Int.tmod a4 3)), .slice Ao75 x13_2.length co75, .int .i64 0] 43 (0, 0)) (by (with_reducible repeat (first | refine blk_drewN ?_ _ | refine blk_drew ?_ | refine blk_alloc ?_ _)); exact BK339.out) hb)
                    have n4_ := Aside0.mk (below_step (by repeat (first | (with_reducible first | exact HB.out | apply below_alloc | apply pw_below_drewN | apply below_drew1 | refine below_set ?_ GE331.out | refine below_set ?_ GE332.out | refine below_set ?_ GE339.out) | exact HB.out)) hb)
                    clear HO_13
                    clear BK331
                    clear BK332
                    clear BK339
                    clear HB
                    have HO_13 := n0_
                    have BK331 := n1_
                    have BK332 := n2_
                    have BK339 := n3_
                    have HB := n4_
                    clear n0_ n1_ n2_ n3_ n4_
                    (try clear hb)
                    (try clear hb2)
                    (try clear hk)
                    (try clear hi)
                    refine hK.out _ _ ⟨(blk_cell BK331.out 0).trans rfl, (blk_cell BK331.out 1).trans rfl, (blk_cell BK331.out 2).trans rfl, (blk_cell BK331.out 3).trans rfl, (blk_cell BK339.out 0).trans rfl, (blk_cell BK339.out 1).trans rfl, (blk_cell BK339.out 2).trans rfl, (blk_cell BK339.out 3).trans rfl, (blk_cell BK339.out 4).trans rfl, (blk_cell BK339.out 5).trans rfl, (blk_cell BK339.out 6).trans rfl, (blk_cell BK339.out 7).trans rfl, (blk_cell BK339.out 8).trans rfl, (blk_cell BK339.out 9).trans rfl, (blk_cell BK339.out 10).trans rfl, (blk_cell BK339.out 11).trans rfl, (blk_cell BK339.out 12).trans rfl, (blk_cell BK339.out 13).trans rfl, (blk_cell BK332.out 0).trans rfl, (blk_cell BK332.out 1).trans rfl⟩ (fun hHeld => ?_)
                    clear hK K
                    refine norm_ (a' := ?_) ?_ ?_
                    rotate_left
                    · show Act.put _ (some 66) _ = _
                      simp only [Act.put, List.setIfInBounds_toArray, List.set_cons_zero, List.set_cons_succ, i64_w, i32_w]
                      rfl
                    refine pure_ (i := 11) (N := some 68) (v := ?_) (a' := ?_) #[true, true, true, true, true, true, true, true, true, true, true, true, false, false, false, false, false] rfl rfl (any_of HT_.out (by kernel_rfl)) (fun _ _ _ h => h) (Or.inl ⟨by rfl, ?_⟩) ?_ ?_
                    rotate_left
                    · intro w'
                      go_simp
                      with_reducible rfl
                    rotate_left
                    · simp only [Act.put, List.setIfInBounds_toArray, List.set_cons_zero, List.set_cons_succ, i64_w, i32_w]
                      rfl
                    refine pure_ (i := 12) (N := some 69) (v := ?_) (a' := ?_) #[true, true, true, true, true, true, true, true, true, true, true, true, true, false, false, false, false] rfl rfl (any_of HT_.out (by kernel_rfl)) (fun _ _ _ h => h) (Or.inl ⟨by rfl, ?_⟩) ?_ ?_
                    rotate_left
                    · intro w'
                      go_simp
                      with_reducible rfl
                    rotate_left
                    · simp only [Act.put, List.setIfInBounds_toArray, List.set_cons_zero, List.set_cons_succ, i64_w, i32_w]
                      rfl
                    refine pure_ (i := 13) (N := some 70) (v := ?_) (a' := ?_) #[true, true, true, true, true, true, true, true, true, true, true, true, true, true, false, false, false] rfl rfl (any_of HT_.out (by kernel_rfl)) (fun _ _ _ h => h) (Or.inl ⟨by rfl, ?_⟩) ?_ ?_
                    rotate_left
                    · intro w'
                      go_simp
                      with_reducible rfl
                    rotate_left
                    · simp only [Act.put, List.setIfInBounds_toArray, List.set_cons_zero, List.set_cons_succ, i64_w, i32_w]
                      rfl
                    refine pure_ (i := 14) (N := some 71) (v := undef) (a' := ?_) #[true, true, true, true, true, true, true, true, true, true, true, true, true, true, true, false, false] rfl rfl (any_of HT_.out (by kernel_rfl)) (fun _ _ _ h => h) (Or.inr ⟨by rfl, rfl⟩) ?_ ?_
                    rotate_left
                    · simp only [Act.put, List.setIfInBounds_toArray, List.set_cons_zero, List.set_cons_succ, i64_w, i32_w]
                      rfl
                    refine pure_ (i := 15) (N := some 72) (v := ?_) (a' := ?_) #[true, true, true, true, true, true, true, true, true, true, true, true, true, true, true, true, false] rfl rfl (any_of HT_.out (by kernel_rfl)) (fun _ _ _ h => h) (Or.inl ⟨by rfl, ?_⟩) ?_ ?_
                    rotate_left
                    · intro w'
                      go_simp
                      with_reducible rfl
                    rotate_left
                    · simp only [Act.put, List.setIfInBounds_toArray, List.set_cons_zero, List.set_cons_succ, i64_w, i32_w]
                      rfl
                    refine pure_ (i := 16) (N := some 12) (v := ?_) (a' := ?_) #[true, true, true, true, true, true, true, true, true, true, true, true, true, true, true, true, true] rfl rfl (any_of HT_.out (by kernel_rfl)) (fun _ _ _ h => h) (Or.inl ⟨by rfl, ?_⟩) ?_ ?_
                    rotate_left
                    · intro w'
                      go_simp
                      with_reducible rfl
                    rotate_left
                    · simp only [Act.put, List.setIfInBounds_toArray, List.set_cons_zero, List.set_cons_succ, i64_w, i32_w]
                      rfl
                    refine done_ (done_of HT_.out (by kernel_rfl)) ?_
                    try go_wp2
                    go_ret
                    exact ⟨by first | rfl | (simp [errW_none, errW_some] <;> rfl) | (simp [*, errW_none, errW_some] <;> rfl), by repeat (first | (with_reducible first | exact HB.out | apply below_alloc | apply pw_below_drewN | apply below_drew1 | refine below_set ?_ GE331.out | refine below_set ?_ GE332.out | refine below_set ?_ GE339.out) | exact HB.out)⟩
                · rw [if_neg c61] at H
                  have c61b0 : (t349 == a1_0 && (t350 == a1_1 && (t351 == a1_2 && (t352 == a1_3)))) = false := by simpa using c61
                  (try (have c61b1 : decide (t349 = a1_0 && (t350 == a1_1 && (t351 == a1_2 && (t352 == a1_3)))) = false := by simpa using c61))
                  (try (have c61b2 : (t349 == a1_0 && (t350 == a1_1 && (t351 == a1_2 && (t352 == a1_3)))) = false := by simpa using c61))
                  (try (have c61b3 : ¬ (t349 = a1_0 && (t350 == a1_1 && (t351 == a1_2 && (t352 == a1_3)))) := by simpa using c61))
                  clear c61
                  obtain rfl := Option.some.inj H
                  obtain ⟨Ao84, co84, eo84⟩ := Kd.R_slice HO_13.out
                  subst eo84
                  try go_wp2_with (first | ((with_reducible refine gate_dst (N := 17) rfl ?_); (try (refine gate_guard (by rfl) ?_; dsimp only)); refine box_event ?hg (N := 17) ?hd (cs := #[.int .i64 0, .int .i64 0, .int .i64 0, .int .i64 0, .int .i64 0, .int .i64 0, .int .i64 0, .int .i64 0, .int .i64 0, .int .i64 0, .int .i64 0, .int .i64 0, .slice none 0 0, .int .i64 0]) (t := 43) ?hr ?_; (case hd => rfl); (case hg => rfl); (case hr => first | (go_simp; done) | (go_simp; rfl)); intro gb339 hg w85 hbox hb; have n0_ := Aside0.mk (Kd.R_below (by (with_reducible repeat (first | apply Kd.R_alloc | apply Kd.R_drewN | apply Kd.R_drew)); exact HO_13.out) hb); have n1_ := Aside0.mk (blk_below (g := gb331) (o := .cells #[.int .i64 a1_0, .int .i64 a1_1, .int .i64 a1_2, .int .i64 a1_3] 27 (0, 0)) (by (with_reducible repeat (first | refine blk_drewN ?_ _ | refine blk_drew ?_ | refine blk_alloc ?_ _)); exact BK331.out) hb); have n2_ := Aside0.mk (blk_below (g := gb332) (o := .cells #[.int .i64 a5_0, .int .i64 a5_1] 36 (0, 0)) (by (with_reducible repeat (first | refine blk_drewN ?_ _ | refine blk_drew ?_ | refine blk_alloc ?_ _)); exact BK332.out) hb); have n3_ := Aside0.mk (below_step (by repeat (first | (with_reducible first | exact HB.out | apply below_alloc | apply pw_below_drewN | apply below_drew1 | refine below_set ?_ GE331.out | refine below_set ?_ GE332.out) | exact HB.out)) hb); have n4_ := Aside0.mk (hbox); have n5_ := Aside0.mk ((by rw [hg]; exact (below_size (by repeat (first | (with_reducible first | exact HB.out | apply below_alloc | apply pw_below_drewN | apply below_drew1 | refine below_set ?_ GE331.out | refine below_set ?_ GE332.out) | exact HB.out))) : w.heap.size ≤ gb339)); have n6_ := Aside0.mk ((by rw [hg]; exact (below_size (by repeat (first | (with_reducible first | exact HB.out | apply below_alloc | apply pw_below_drewN | apply below_drew1 | refine below_set ?_ GE331.out | refine below_set ?_ GE332.out) | exact HB.out))) : w.heap.size ≤ gb339)); have n7_ := Aside0.mk ((by rw [hg]; exact Nat.ne_of_lt (blk_lt (g := gb331) (o := .cells #[.int .i64 a1_0, .int .i64 a1_1, .int .i64 a1_2, .int .i64 a1_3] 27 (0, 0)) (by (with_reducible repeat (first | refine blk_drewN ?_ _ | refine blk_drew ?_ | refine blk_alloc ?_ _)); exact BK331.out)) : gb331 ≠ gb339)); have n8_ := Aside0.mk ((by rw [hg]; exact Nat.ne_of_gt (blk_lt (g := gb331) (o := .cells #[.int .i64 a1_0, .int .i64 a1_1, .int .i64 a1_2, .int .i64 a1_3] 27 (0, 0)) (by (with_reducible repeat (first | refine blk_drewN ?_ _ | refine blk_drew ?_ | refine blk_alloc ?_ _)); exact BK331.out)) : gb339 ≠ gb331)); have n9_ := Aside0.mk ((by rw [hg]; exact Nat.ne_of_lt (blk_lt (g := gb332) (o := .cells #[.int .i64 a5_0, .int .i64 a5_1] 36 (0, 0)) (by (with_reducible repeat (first | refine blk_drewN ?_ _ | refine blk_drew ?_ | refine blk_alloc ?_ _)); exact BK332.out)) : gb332 ≠ gb339)); have n10_ := Aside0.mk ((by rw [hg]; exact Nat.ne_of_gt (blk_lt (g := gb332) (o := .cells #[.int .i64 a5_0, .int .i64 a5_1] 36 (0, 0)) (by (with_reducible repeat (first | refine blk_drewN ?_ _ | refine blk_drew ?_ | refine blk_alloc ?_ _)); exact BK332.out)) : gb339 ≠ gb332)); clear HO_13; clear BK331; clear BK332; clear HB; have HO_13 := n0_; have BK331 := n1_; have BK332 := n2_; have HB := n3_; have BK339 := n4_; have GW339 := n5_; have GE339 := n6_; have NB331_339 := n7_; have NB339_331 := n8_; have NB332_339 := n9_; have NB339_332 := n10_; clear n0_ n1_ n2_ n3_ n4_ n5_ n6_ n7_ n8_ n9_ n10_; clear hb hbox hg; have hnb86 := NB339_331.out; have hnc86 := NB331_339.out; have hnb87 := NB339_332.out; have hnc87 := NB332_339.out; have hcz88_0 : w85.cell? ⟨gb339, 0, none⟩ = some (.int .i64 0) := (blk_cell BK339.out 0).trans rfl; have hcz88_1 : w85.cell? ⟨gb339, 1, none⟩ = some (.int .i64 0) := (blk_cell BK339.out 1).trans rfl; have hcz88_2 : w85.cell? ⟨gb339, 2, none⟩ = some (.int .i64 0) := (blk_cell BK339.out 2).trans rfl; have hcz88_3 : w85.cell? ⟨gb339, 3, none⟩ = some (.int .i64 0) := (blk_cell BK339.out 3).trans rfl; have hcz88_4 : w85.cell? ⟨gb339, 4, none⟩ = some (.int .i64 0) := (blk_cell BK339.out 4).trans rfl; have hcz88_5 : w85.cell? ⟨gb339, 5, none⟩ = some (.int .i64 0) := (blk_cell BK339.out 5).trans rfl; have hcz88_6 : w85.cell? ⟨gb339, 6, none⟩ = some (.int .i64 0) := (blk_cell BK339.out 6).trans rfl; have hcz88_7 : w85.cell? ⟨gb339, 7, none⟩ = some (.int .i64 0) := (blk_cell BK339.out 7).trans rfl; have hcz88_8 : w85.cell? ⟨gb339, 8, none⟩ = some (.int .i64 0) := (blk_cell BK339.out 8).trans rfl; have hcz88_9 : w85.cell? ⟨gb339, 9, none⟩ = some (.int .i64 0) := (blk_cell BK339.out 9).trans rfl; have hcz88_10 : w85.cell? ⟨gb339, 10, none⟩ = some (.int .i64 0) := (blk_cell BK339.out 10).trans rfl; have hcz88_11 : w85.cell? ⟨gb339, 11, none⟩ = some (.int .i64 0) := (blk_cell BK339.out 11).trans rfl; have hcz88_12 : w85.cell? ⟨gb339, 12, none⟩ = some (.slice none 0 0) := (blk_cell BK339.out 12).trans rfl; have hcz88_13 : w85.cell? ⟨gb339, 13, none⟩ = some (.int .i64 0) := (blk_cell BK339.out 13).trans rfl; have hfz88_0 := blk_frozen BK339.out 0; have hfz88_1 := blk_frozen BK339.out 1; have hfz88_2 := blk_frozen BK339.out 2; have hfz88_3 := blk_frozen BK339.out 3; have hfz88_4 := blk_frozen BK339.out 4; have hfz88_5 := blk_frozen BK339.out 5; have hfz88_6 := blk_frozen BK339.out 6; have hfz88_7 := blk_frozen BK339.out 7; have hfz88_8 := blk_frozen BK339.out 8; have hfz88_9 := blk_frozen BK339.out 9; have hfz88_10 := blk_frozen BK339.out 10; have hfz88_11 := blk_frozen BK339.out 11; have hfz88_12 := blk_frozen BK339.out 12; have hfz88_13 := blk_frozen BK339.out 13))
                  have n0_ : Aside0 (Kd.R k32 32 ((((((((((((((w85.setCell ⟨gb339, 0, none⟩ (.int .i64 16)).setCell ⟨gb339, 1, none⟩ (.int .i64 0)).setCell ⟨gb339, 2, none⟩ (.int .i64 0)).setCell ⟨gb339, 3, none⟩ (.int .i64 0)).setCell ⟨gb339, 4, none⟩ (.int .i64 0)).setCell ⟨gb339, 5, none⟩ (.int .i64 65536)).setCell ⟨gb339, 6, none⟩ (.int .i64 0)).setCell ⟨gb339, 7, none⟩ (.int .i64 0)).setCell ⟨gb339, 8, none⟩ (.int .i64 65536)).setCell ⟨gb339, 9, none⟩ (.int .i64 0)).setCell ⟨gb339, 10, none⟩ (.int .i64 0)).setCell ⟨gb339, 11, none⟩ (.int .i64 (wrap64 (Int.tmod a4 3)))).setCell ⟨gb339, 12, none⟩ (.slice Ao84 x13_2.length co84)).setCell ⟨gb339, 13, none⟩ (.int .i64 0)) w.heap.size (fun _ => True) (.slice Ao84 x13_2.length co84) x13_2) := ⟨by (with_reducible repeat (first | apply Kd.R_alloc | apply Kd.R_drewN | apply Kd.R_drew)); exact Kd.R_mono (Kd.R_far (p := ⟨gb339, 13, none⟩) (Kd.R_far (p := ⟨gb339, 12, none⟩) (Kd.R_far (p := ⟨gb339, 11, none⟩) (Kd.R_far (p := ⟨gb339, 10, none⟩) (Kd.R_far (p := ⟨gb339, 9, none⟩) (Kd.R_far (p := ⟨gb339, 8, none⟩) (Kd.R_far (p := ⟨gb339, 7, none⟩) (Kd.R_far (p := ⟨gb339, 6, none⟩) (Kd.R_far (p := ⟨gb339, 5, none⟩) (Kd.R_far (p := ⟨gb339, 4, none⟩) (Kd.R_far (p := ⟨gb339, 3, none⟩) (Kd.R_far (p := ⟨gb339, 2, none⟩) (Kd.R_far (p := ⟨gb339, 1, none⟩) (Kd.R_far (p := ⟨gb339, 0, none⟩) (Kd.R_types HO_13.out BK339.out (by decide)) (fun _ hk => hk.2) (.int .i64 16)) (fun _ hk => hk.2) (.int .i64 0)) (fun _ hk => hk.2) (.int .i64 0)) (fun _ hk => hk.2) (.int .i64 0)) (fun _ hk => hk.2) (.int .i64 0)) (fun _ hk => hk.2) (.int .i64 65536)) (fun _ hk => hk.2) (.int .i64 0)) (fun _ hk => hk.2) (.int .i64 0)) (fun _ hk => hk.2) (.int .i64 65536)) (fun _ hk => hk.2) (.int .i64 0)) (fun _ hk => hk.2) (.int .i64 0)) (fun _ hk => hk.2) (.int .i64 (wrap64 (Int.tmod a4 3)))) (fun _ hk => hk.2) (.slice Ao84 x13_2.length co84)) (fun _ hk => hk.2) (.int .i64 0)) (fun _ hk => trivial)⟩
                  have n1_ : Aside0 (((((((((((((((w85.setCell ⟨gb339, 0, none⟩ (.int .i64 16)).setCell ⟨gb339, 1, none⟩ (.int .i64 0)).setCell ⟨gb339, 2, none⟩ (.int .i64 0)).setCell ⟨gb339, 3, none⟩ (.int .i64 0)).setCell ⟨gb339, 4, none⟩ (.int .i64 0)).setCell ⟨gb339, 5, none⟩ (.int .i64 65536)).setCell ⟨gb339, 6, none⟩ (.int .i64 0)).setCell ⟨gb339, 7, none⟩ (.int .i64 0)).setCell ⟨gb339, 8, none⟩ (.int .i64 65536)).setCell ⟨gb339, 9, none⟩ (.int .i64 0)).setCell ⟨gb339, 10, none⟩ (.int .i64 0)).setCell ⟨gb339, 11, none⟩ (.int .i64 (wrap64 (Int.tmod a4 3)))).setCell ⟨gb339, 12, none⟩ (.slice Ao84 x13_2.length co84)).setCell ⟨gb339, 13, none⟩ (.int .i64 0)).heap[gb331]? = some (.cells #[.int .i64 a1_0, .int .i64 a1_1, .int .i64 a1_2, .int .i64 a1_3] 27 (0, 0))) := ⟨by (with_reducible repeat (first | refine blk_drewN ?_ _ | refine blk_drew ?_ | refine blk_alloc ?_ _)); refine blk_far ?_ NB331_339.out _; (with_reducible repeat (first | refine blk_drewN ?_ _ | refine blk_drew ?_ | refine blk_alloc ?_ _)); refine blk_far ?_ NB331_339.out _; (with_reducible repeat (first | refine blk_drewN ?_ _ | refine blk_drew ?_ | refine blk_alloc ?_ _)); refine blk_far ?_ NB331_339.out _; (with_reducible repeat (first | refine blk_drewN ?_ _ | refine blk_drew ?_ | refine blk_alloc ?_ _)); refine blk_far ?_ NB331_339.out _; (with_reducible repeat (first | refine blk_drewN ?_ _ | refine blk_drew ?_ | refine blk_alloc ?_ _)); refine blk_far ?_ NB331_339.out _; (with_reducible repeat (first | refine blk_drewN ?_ _ | refine blk_drew ?_ | refine blk_alloc ?_ _)); refine blk_far ?_ NB331_339.out _; (with_reducible repeat (first | refine blk_drewN ?_ _ | refine blk_drew ?_ | refine blk_alloc ?_ _)); refine blk_far ?_ NB331_339.out _; (with_reducible repeat (first | refine blk_drewN ?_ _ | refine blk_drew ?_ | refine blk_alloc ?_ _)); refine blk_far ?_ NB331_339.out _; (with_reducible repeat (first | refine blk_drewN ?_ _ | refine blk_drew ?_ | refine blk_alloc ?_ _)); refine blk_far ?_ NB331_339.out _; (with_reducible repeat (first | refine blk_drewN ?_ _ | refine blk_drew ?_ | refine blk_alloc ?_ _)); refine blk_far ?_ NB331_339.out _; (with_reducible repeat (first | refine blk_drewN ?_ _ | refine blk_drew ?_ | refine blk_alloc ?_ _)); refine blk_far ?_ NB331_339.out _; (with_reducible repeat (first | refine blk_drewN ?_ _ | refine blk_drew ?_ | refine blk_alloc ?_ _)); refine blk_far ?_ NB331_339.out _; (with_reducible repeat (first | refine blk_drewN ?_ _ | refine blk_drew ?_ | refine blk_alloc ?_ _)); refine blk_far ?_ NB331_339.out _; (with_reducible repeat (first | refine blk_drewN ?_ _ | refine blk_drew ?_ | refine blk_alloc ?_ _)); refine blk_far ?_ NB331_339.out _; (with_reducible repeat (first | refine blk_drewN ?_ _ | refine blk_drew ?_ | refine blk_alloc ?_ _)); exact BK331.out⟩
                  have n2_ : Aside0 (((((((((((((((w85.setCell ⟨gb339, 0, none⟩ (.int .i64 16)).setCell ⟨gb339, 1, none⟩ (.int .i64 0)).setCell ⟨gb339, 2, none⟩ (.int .i64 0)).setCell ⟨gb339, 3, none⟩ (.int .i64 0)).setCell ⟨gb339, 4, none⟩ (.int .i64 0)).setCell ⟨gb339, 5, none⟩ (.int .i64 65536)).setCell ⟨gb339, 6, none⟩ (.int .i64 0)).setCell ⟨gb339, 7, none⟩ (.int .i64 0)).setCell ⟨gb339, 8, none⟩ (.int .i64 65536)).setCell ⟨gb339, 9, none⟩ (.int .i64 0)).setCell ⟨gb339, 10, none⟩ (.int .i64 0)).setCell ⟨gb339, 11, none⟩ (.int .i64 (wrap64 (Int.tmod a4 3)))).setCell ⟨gb339, 12, none⟩ (.slice Ao84 x13_2.length co84)).setCell ⟨gb339, 13, none⟩ (.int .i64 0)).heap[gb332]? = some (.cells #[.int .i64 a5_0, .int .i64 a5_1] 36 (0, 0))) := ⟨by (with_reducible repeat (first | refine blk_drewN ?_ _ | refine blk_drew ?_ | refine blk_alloc ?_ _)); refine blk_far ?_ NB332_339.out _; (with_reducible repeat (first | refine blk_drewN ?_ _ | refine blk_drew ?_ | refine blk_alloc ?_ _)); refine blk_far ?_ NB332_339.out _; (with_reducible repeat (first | refine blk_drewN ?_ _ | refine blk_drew ?_ | refine blk_alloc ?_ _)); refine blk_far ?_ NB332_339.out _; (with_reducible repeat (first | refine blk_drewN ?_ _ | refine blk_drew ?_ | refine blk_alloc ?_ _)); refine blk_far ?_ NB332_339.out _; (with_reducible repeat (first | refine blk_drewN ?_ _ | refine blk_drew ?_ | refine blk_alloc ?_ _)); refine blk_far ?_ NB332_339.out _; (with_reducible repeat (first | refine blk_drewN ?_ _ | refine blk_drew ?_ | refine blk_alloc ?_ _)); refine blk_far ?_ NB332_339.out _; (with_reducible repeat (first | refine blk_drewN ?_ _ | refine blk_drew ?_ | refine blk_alloc ?_ _)); refine blk_far ?_ NB332_339.out _; (with_reducible repeat (first | refine blk_drewN ?_ _ | refine blk_drew ?_ | refine blk_alloc ?_ _)); refine blk_far ?_ NB332_339.out _; (with_reducible repeat (first | refine blk_drewN ?_ _ | refine blk_drew ?_ | refine blk_alloc ?_ _)); refine blk_far ?_ NB332_339.out _; (with_reducible repeat (first | refine blk_drewN ?_ _ | refine blk_drew ?_ | refine blk_alloc ?_ _)); refine blk_far ?_ NB332_339.out _; (with_reducible repeat (first | refine blk_drewN ?_ _ | refine blk_drew ?_ | refine blk_alloc ?_ _)); refine blk_far ?_ NB332_339.out _; (with_reducible repeat (first | refine blk_drewN ?_ _ | refine blk_drew ?_ | refine blk_alloc ?_ _)); refine blk_far ?_ NB332_339.out _; (with_reducible repeat (first | refine blk_drewN ?_ _ | refine blk_drew ?_ | refine blk_alloc ?_ _)); refine blk_far ?_ NB332_339.out _; (with_reducible repeat (first | refine blk_drewN ?_ _ | refine blk_drew ?_ | refine blk_alloc ?_ _)); refine blk_far ?_ NB332_339.out _; (with_reducible repeat (first | refine blk_drewN ?_ _ | refine blk_drew ?_ | refine blk_alloc ?_ _)); exact BK332.out⟩
                  have n3_ : Aside0 (((((((((((((((w85.setCell ⟨gb339, 0, none⟩ (.int .i64 16)).setCell ⟨gb339, 1, none⟩ (.int .i64 0)).setCell ⟨gb339, 2, none⟩ (.int .i64 0)).setCell ⟨gb339, 3, none⟩ (.int .i64 0)).setCell ⟨gb339, 4, none⟩ (.int .i64 0)).setCell ⟨gb339, 5, none⟩ (.int .i64 65536)).setCell ⟨gb339, 6, none⟩ (.int .i64 0)).setCell ⟨gb339, 7, none⟩ (.int .i64 0)).setCell ⟨gb339, 8, none⟩ (.int .i64 65536)).setCell ⟨gb339, 9, none⟩ (.int .i64 0)).setCell ⟨gb339, 10, none⟩ (.int .i64 0)).setCell ⟨gb339, 11, none⟩ (.int .i64 (wrap64 (Int.tmod a4 3)))).setCell ⟨gb339, 12, none⟩ (.slice Ao84 x13_2.length co84)).setCell ⟨gb339, 13, none⟩ (.int .i64 0)).heap[gb339]? = some (.cells #[.int .i64 16, .int .i64 0, .int .i64 0, .int .i64 0, .int .i64 0, .int .i64 65536, .int .i64 0, .int .i64 0, .int .i64 65536, .int .i64 0, .int .i64 0, .int .i64 (wrap64 (Int.tmod a4 3)), .slice Ao84 x13_2.length co84, .int .i64 0] 43 (0, 0))) := ⟨by (with_reducible repeat (first | refine blk_drewN ?_ _ | refine blk_drew ?_ | refine blk_alloc ?_ _)); refine blk_put (cs := #[.int .i64 16, .int .i64 0, .int .i64 0, .int .i64 0, .int .i64 0, .int .i64 65536, .int .i64 0, .int .i64 0, .int .i64 65536, .int .i64 0, .int .i64 0, .int .i64 (wrap64 (Int.tmod a4 3)), .slice Ao84 x13_2.length co84, .int .i64 0]) ?_ 13 _ rfl; (with_reducible repeat (first | refine blk_drewN ?_ _ | refine blk_drew ?_ | refine blk_alloc ?_ _)); refine blk_put (cs := #[.int .i64 16, .int .i64 0, .int .i64 0, .int .i64 0, .int .i64 0, .int .i64 65536, .int .i64 0, .int .i64 0, .int .i64 65536, .int .i64 0, .int .i64 0, .int .i64 (wrap64 (Int.tmod a4 3)), .slice none 0 0, .int .i64 0]) ?_ 12 _ rfl; (with_reducible repeat (first | refine blk_drewN ?_ _ | refine blk_drew ?_ | refine blk_alloc ?_ _)); refine blk_put (cs := #[.int .i64 16, .int .i64 0, .int .i64 0, .int .i64 0, .int .i64 0, .int .i64 65536, .int .i64 0, .int .i64 0, .int .i64 65536, .int .i64 0, .int .i64 0, .int .i64 0, .slice none 0 0, .int .i64 0]) ?_ 11 _ rfl; (with_reducible repeat (first | refine blk_drewN ?_ _ | refine blk_drew ?_ | refine blk_alloc ?_ _)); refine blk_put (cs := #[.int .i64 16, .int .i64 0, .int .i64 0, .int .i64 0, .int .i64 0, .int .i64 65536, .int .i64 0, .int .i64 0, .int .i64 65536, .int .i64 0, .int .i64 0, .int .i64 0, .slice none 0 0, .int .i64 0]) ?_ 10 _ rfl; (with_reducible repeat (first | refine blk_drewN ?_ _ | refine blk_drew ?_ | refine blk_alloc ?_ _)); refine blk_put (cs := #[.int .i64 16, .int .i64 0, .int .i64 0, .int .i64 0, .int .i64 0, .int .i64 65536, .int .i64 0, .int .i64 0, .int .i64 65536, .int .i64 0, .int .i64 0, .int .i64 0, .slice none 0 0, .int .i64 0]) ?_ 9 _ rfl; (with_reducible repeat (first | refine blk_drewN ?_ _ | refine blk_drew ?_ | refine blk_alloc ?_ _)); refine blk_put (cs := #[.int .i64 16, .int .i64 0, .int .i64 0, .int .i64 0, .int .i64 0, .int .i64 65536, .int .i64 0, .int .i64 0, .int .i64 0, .int .i64 0, .int .i64 0, .int .i64 0, .slice none 0 0, .int .i64 0]) ?_ 8 _ rfl; (with_reducible repeat (first | refine blk_drewN ?_ _ | refine blk_drew ?_ | refine blk_alloc ?_ _)); refine blk_put (cs := #[.int .i64 16, .int .i64 0, .int .i64 0, .int .i64 0, .int .i64 0, .int .i64 65536, .int .i64 0, .int .i64 0, .int .i64 0, .int .i64 0, .int .i64 0, .int .i64 0, .slice none 0 0, .int .i64 0]) ?_ 7 _ rfl; (with_reducible repeat (first | refine blk_drewN ?_ _ | refine blk_drew ?_ | refine blk_alloc ?_ _)); refine blk_put (cs := #[.int .i64 16, .int .i64 0, .int .i64 0, .int .i64 0, .int .i64 0, .int .i64 65536, .int .i64 0, .int .i64 0, .int .i64 0, .int .i64 0, .int .i64 0, .int .i64 0, .slice none 0 0, .int .i64 0]) ?_ 6 _ rfl; (with_reducible repeat (first | refine blk_drewN ?_ _ | refine blk_drew ?_ | refine blk_alloc ?_ _)); refine blk_put (cs := #[.int .i64 16, .int .i64 0, .int .i64 0, .int .i64 0, .int .i64 0, .int .i64 0, .int .i64 0, .int .i64 0, .int .i64 0, .int .i64 0, .int .i64 0, .int .i64 0, .slice none 0 0, .int .i64 0]) ?_ 5 _ rfl; (with_reducible repeat (first | refine blk_drewN ?_ _ | refine blk_drew ?_ | refine blk_alloc ?_ _)); refine blk_put (cs := #[.int .i64 16, .int .i64 0, .int .i64 0, .int .i64 0, .int .i64 0, .int .i64 0, .int .i64 0, .int .i64 0, .int .i64 0, .int .i64 0, .int .i64 0, .int .i64 0, .slice none 0 0, .int .i64 0]) ?_ 4 _ rfl; (with_reducible repeat (first | refine blk_drewN ?_ _ | refine blk_drew ?_ | refine blk_alloc ?_ _)); refine blk_put (cs := #[.int .i64 16, .int .i64 0, .int .i64 0, .int .i64 0, .int .i64 0, .int .i64 0, .int .i64 0, .int .i64 0, .int .i64 0, .int .i64 0, .int .i64 0, .int .i64 0, .slice none 0 0, .int .i64 0]) ?_ 3 _ rfl; (with_reducible repeat (first | refine blk_drewN ?_ _ | refine blk_drew ?_ | refine blk_alloc ?_ _)); refine blk_put (cs := #[.int .i64 16, .int .i64 0, .int .i64 0, .int .i64 0, .int .i64 0, .int .i64 0, .int .i64 0, .int .i64 0, .int .i64 0, .int .i64 0, .int .i64 0, .int .i64 0, .slice none 0 0, .int .i64 0]) ?_ 2 _ rfl; (with_reducible repeat (first | refine blk_drewN ?_ _ | refine blk_drew ?_ | refine blk_alloc ?_ _)); refine blk_put (cs := #[.int .i64 16, .int .i64 0, .int .i64 0, .int .i64 0, .int .i64 0, .int .i64 0, .int .i64 0, .int .i64 0, .int .i64 0, .int .i64 0, .int .i64 0, .int .i64 0, .slice none 0 0, .int .i64 0]) ?_ 1 _ rfl; (with_reducible repeat (first | refine blk_drewN ?_ _ | refine blk_drew ?_ | refine blk_alloc ?_ _)); refine blk_put (cs := #[.int .i64 0, .int .i64 0, .int .i64 0, .int .i64 0, .int .i64 0, .int .i64 0, .int .i64 0, .int .i64 0, .int .i64 0, .int .i64 0, .int .i64 0, .int .i64 0, .slice none 0 0, .int .i64 0]) ?_ 0 _ rfl; (with_reducible repeat (first | refine blk_drewN ?_ _ | refine blk_drew ?_ | refine blk_alloc ?_ _)); exact BK339.out⟩
                  have n4_ : Aside0 (Below w.heap.size w ((((((((((((((w85.setCell ⟨gb339, 0, none⟩ (.int .i64 16)).setCell ⟨gb339, 1, none⟩ (.int .i64 0)).setCell ⟨gb339, 2, none⟩ (.int .i64 0)).setCell ⟨gb339, 3, none⟩ (.int .i64 0)).setCell ⟨gb339, 4, none⟩ (.int .i64 0)).setCell ⟨gb339, 5, none⟩ (.int .i64 65536)).setCell ⟨gb339, 6, none⟩ (.int .i64 0)).setCell ⟨gb339, 7, none⟩ (.int .i64 0)).setCell ⟨gb339, 8, none⟩ (.int .i64 65536)).setCell ⟨gb339, 9, none⟩ (.int .i64 0)).setCell ⟨gb339, 10, none⟩ (.int .i64 0)).setCell ⟨gb339, 11, none⟩ (.int .i64 (wrap64 (Int.tmod a4 3)))).setCell ⟨gb339, 12, none⟩ (.slice Ao84 x13_2.length co84)).setCell ⟨gb339, 13, none⟩ (.int .i64 0))) := ⟨by repeat (first | (with_reducible first | exact HB.out | apply below_alloc | apply pw_below_drewN | apply below_drew1 | refine below_set ?_ GE331.out | refine below_set ?_ GE332.out | refine below_set ?_ GE339.out) | exact HB.out)⟩
                  (try clear HO_13)
                  (try clear BK331)
                  (try clear BK332)
                  (try clear BK339)
                  (try clear HB)
                  generalize ((((((((((((((w85.setCell ⟨gb339, 0, none⟩ (.int .i64 16)).setCell ⟨gb339, 1, none⟩ (.int .i64 0)).setCell ⟨gb339, 2, none⟩ (.int .i64 0)).setCell ⟨gb339, 3, none⟩ (.int .i64 0)).setCell ⟨gb339, 4, none⟩ (.int .i64 0)).setCell ⟨gb339, 5, none⟩ (.int .i64 65536)).setCell ⟨gb339, 6, none⟩ (.int .i64 0)).setCell ⟨gb339, 7, none⟩ (.int .i64 0)).setCell ⟨gb339, 8, none⟩ (.int .i64 65536)).setCell ⟨gb339, 9, none⟩ (.int .i64 0)).setCell ⟨gb339, 10, none⟩ (.int .i64 0)).setCell ⟨gb339, 11, none⟩ (.int .i64 (wrap64 (Int.tmod a4 3)))).setCell ⟨gb339, 12, none⟩ (.slice Ao84 x13_2.length co84)).setCell ⟨gb339, 13, none⟩ (.int .i64 0)) = w89 at n0_ n1_ n2_ n3_ n4_ ⊢
                  have HO_13 := n0_
                  have BK331 := n1_
                  have BK332 := n2_
                  have BK339 := n3_
                  have HB := n4_
                  clear n0_ n1_ n2_ n3_ n4_
                  have n0_ := Aside0.mk (Kd.R_drew HO_13.out)
                  have n1_ := Aside0.mk (blk_drew BK331.out)
                  have n2_ := Aside0.mk (blk_drew BK332.out)
                  have n3_ := Aside0.mk (blk_drew BK339.out)
                  have n4_ := Aside0.mk (below_drew1 HB.out)
                  clear HO_13
                  clear BK331
                  clear BK332
                  clear BK339
                  clear HB
                  have HO_13 := n0_
                  have BK331 := n1_
                  have BK332 := n2_
                  have BK339 := n3_
                  have HB := n4_
                  clear n0_ n1_ n2_ n3_ n4_
                  refine start_ (n := 17) (S := fun w' => w'.cell? ⟨gb331, 0, none⟩ = some (.int .i64 a1_0) ∧ w'.cell? ⟨gb331, 1, none⟩ = some (.int .i64 a1_1) ∧ w'.cell? ⟨gb331, 2, none⟩ = some (.int .i64 a1_2) ∧ w'.cell? ⟨gb331, 3, none⟩ = some (.int .i64 a1_3)) (ds := []) #[false, false, false, false, false, false, false, false, false, false, false, false, false, false, false, false, false] (by kernel_rfl) rfl rfl ⟨(blk_cell BK331.out 0).trans rfl, (blk_cell BK331.out 1).trans rfl, (blk_cell BK331.out 2).trans rfl, (blk_cell BK331.out 3).trans rfl⟩ (fun hHeld => ?_); refine with_tabW celluloidlaw19_RampSame.tab14 celluloidlaw19_RampSame.bits14 (fun HT_ HW_ => ?_)
                  generalize w89.drew = w90 at HO_13 BK331 BK332 BK339 HB hHeld ⊢
                  refine pure_ (i := 0) (N := some 57) (v := ?_) (a' := ?_) #[true, false, false, false, false, false, false, false, false, false, false, false, false, false, false, false, false] rfl rfl (any_of HT_.out (by kernel_rfl)) (fun _ _ _ h => h) (Or.inl ⟨by rfl, ?_⟩) ?_ ?_
                  rotate_left
                  · intro w'
                    go_simp
                    with_reducible rfl
                  rotate_left
                  · simp only [Act.put, List.setIfInBounds_toArray, List.set_cons_zero, List.set_cons_succ, i64_w, i32_w]
                    rfl
                  refine pure_ (i := 1) (N := some 58) (v := ?_) (a' := ?_) #[true, true, false, false, false, false, false, false, false, false, false, false, false, false, false, false, false] rfl rfl (any_of HT_.out (by kernel_rfl)) (fun _ _ _ h => h) (Or.inl ⟨by rfl, ?_⟩) ?_ ?_
                  rotate_left
                  · intro w'
                    go_simp
                    with_reducible rfl
                  rotate_left
                  · simp only [Act.put, List.setIfInBounds_toArray, List.set_cons_zero, List.set_cons_succ, i64_w, i32_w]
                    rfl
                  refine pure_ (i := 2) (N := some 59) (v := ?_) (a' := ?_) #[true, true, true, false, false, false, false, false, false, false, false, false, false, false, false, false, false] rfl rfl (any_of HT_.out (by kernel_rfl)) (fun _ _ _ h => h) (Or.inl ⟨by rfl, ?_⟩) ?_ ?_
                  rotate_left
                  · intro w'
                    go_simp
                    with_reducible rfl
                  rotate_left
                  · simp only [Act.put, List.setIfInBounds_toArray, List.set_cons_zero, List.set_cons_succ, i64_w, i32_w]
                    rfl
                  refine take_ (i := 4) (N := some 61) (v := ?_) (a' := ?_) #[true, true, true, false, true, false, false, false, false, false, false, false, false, false, false, false, false] rfl rfl (take_ofW HT_.out HW_.out (by kernel_rfl)) (fun _ _ _ h => h) (Or.inl ⟨by rfl, ?_⟩) hHeld ?_ ?_
                  rotate_left
                  · rintro w' ⟨s0, s1, s2, s3⟩
                    go_simp
                    with_reducible rfl
                  rotate_left
                  · simp only [Act.put, List.setIfInBounds_toArray, List.set_cons_zero, List.set_cons_succ, i64_w, i32_w]
                    rfl
                  refine one_ (i := 3) (N := some 60) #[true, true, true, true, true, false, false, false, false, false, false, false, false, false, false, false, false] rfl rfl (one_of HT_.out (by kernel_rfl)) (by decide) (fun K hK => ?_)
                  refine goes_ Try.func13 (by kernel_rfl) rfl #[.slice Ao84 x13_2.length co84, .int .i64 (wrap64 (a2))] (by rfl) rfl rfl (by (try simp only [List.map_toArray, List.map_cons, List.map_nil]); first | done | rfl | (simp only [List.length_drop, List.length_take]; rfl)) ?_
                  with_reducible refine (ramp_Color.calls k2 _ _ x13_2 (wrap64 (a2)) t349 t350 t351 t352 _ ?side1 ?side2 A60.out).mono ?_
                  (case side1 => repeat (first | exact (Kd.R_reads' HO_13.out).2.2 | (with_reducible refine Kd.C_alloc ?_ _) | (with_reducible refine Kd.C_drewN ?_ _) | (with_reducible refine Kd.C_drew ?_)))
                  (case side2 => exact (Kd.R_reads' HO_13.out).2.1)
                  rintro e w91 ⟨rfl, hb⟩
                  refine ⟨_, rfl, ?_⟩
                  have n0_ := Aside0.mk (Kd.R_below (by (with_reducible repeat (first | apply Kd.R_alloc | apply Kd.R_drewN | apply Kd.R_drew)); exact HO_13.out) hb)
                  have n1_ := Aside0.mk (blk_below (g := gb331) (o := .cells #[.int .i64 a1_0, .int .i64 a1_1, .int .i64 a1_2, .int .i64 a1_3] 27 (0, 0)) (by (with_reducible repeat (first | refine blk_drewN ?_ _ | refine blk_drew ?_ | refine blk_alloc ?_ _)); exact BK331.out) hb)
                  have n2_ := Aside0.mk (blk_below (g := gb332) (o := .cells #[.int .i64 a5_0, .int .i64 a5_1] 36 (0, 0)) (by (with_reducible repeat (first | refine blk_drewN ?_ _ | refine blk_drew ?_ | refine blk_alloc ?_ _)); exact BK332.out) hb)
                  have n3_ := Aside0.mk (blk_below (g := gb339) (o := .cells #[.int .i64 16, .int .i64 0, .int .i64 0, .int .i64 0, .int .i64 0, .int .i64 65536, .int .i64 0, .int .i64 0, .int .i64 65536, .int .i64 0, .int .i64 0, .int .i64 (wrap64 (Int.tmod a4 3)), .slice Ao84 x13_2.length co84, .int .i64 0] 43 (0, 0)) (by (with_reducible repeat (first | refine blk_drewN ?_ _ | refine blk_drew ?_ | refine blk_alloc ?_ _)); exact BK339.out) hb)
                  have n4_ := Aside0.mk (below_step (by repeat (first | (with_reducible first | exact HB.out | apply below_alloc | apply pw_below_drewN | apply below_drew1 | refine below_set ?_ GE331.out | refine below_set ?_ GE332.out | refine below_set ?_ GE339.out) | exact HB.out)) hb)
                  clear HO_13
                  clear BK331
                  clear BK332
                  clear BK339
                  clear HB
                  have HO_13 := n0_
                  have BK331 := n1_
                  have BK332 := n2_
                  have BK339 := n3_
                  have HB := n4_
                  clear n0_ n1_ n2_ n3_ n4_
                  (try clear hb)
                  (try clear hb2)
                  (try clear hk)
                  (try clear hi)
                  refine hK.out _ _ ⟨(blk_cell BK331.out 0).trans rfl, (blk_cell BK331.out 1).trans rfl, (blk_cell BK331.out 2).trans rfl, (blk_cell BK331.out 3).trans rfl⟩ (fun hHeld => ?_)
                  clear hK K
                  refine norm_ (a' := ?_) ?_ ?_
                  rotate_left
                  · show Act.put _ (some 60) _ = _
                    simp only [Act.put, List.setIfInBounds_toArray, List.set_cons_zero, List.set_cons_succ, i64_w, i32_w]
                    rfl
                  refine pure_ (i := 5) (N := some 62) (v := ?_) (a' := ?_) #[true, true, true, true, true, true, false, false, false, false, false, false, false, false, false, false, false] rfl rfl (any_of HT_.out (by kernel_rfl)) (fun _ _ _ h => h) (Or.inl ⟨by rfl, ?_⟩) ?_ ?_
                  rotate_left
                  · intro w'
                    go_simp
                    with_reducible rfl
                  rotate_left
                  · simp only [Act.put, List.setIfInBounds_toArray, List.set_cons_zero, List.set_cons_succ, i64_w, i32_w]
                    rfl
                  refine pure_ (i := 6) (N := some 63) (v := ?_) (a' := ?_) #[true, true, true, true, true, true, true, false, false, false, false, false, false, false, false, false, false] rfl rfl (any_of HT_.out (by kernel_rfl)) (fun _ _ _ h => h) (Or.inl ⟨by rfl, ?_⟩) ?_ ?_
                  rotate_left
                  · intro w'
                    go_simp
                    with_reducible rfl
                  rotate_left
                  · simp only [Act.put, List.setIfInBounds_toArray, List.set_cons_zero, List.set_cons_succ, i64_w, i32_w]
                    rfl
                  refine pure_ (i := 7) (N := some 64) (v := undef) (a' := ?_) #[true, true, true, true, true, true, true, true, false, false, false, false, false, false, false, false, false] rfl rfl (any_of HT_.out (by kernel_rfl)) (fun _ _ _ h => h) (Or.inr ⟨by rfl, rfl⟩) ?_ ?_
                  rotate_left
                  · simp only [Act.put, List.setIfInBounds_toArray, List.set_cons_zero, List.set_cons_succ, i64_w, i32_w]
                    rfl
                  refine pure_ (i := 8) (N := some 65) (v := undef) (a' := ?_) #[true, true, true, true, true, true, true, true, true, false, false, false, false, false, false, false, false] rfl rfl (any_of HT_.out (by kernel_rfl)) (fun _ _ _ h => h) (Or.inr ⟨by rfl, rfl⟩) ?_ ?_
                  rotate_left
                  · simp only [Act.put, List.setIfInBounds_toArray, List.set_cons_zero, List.set_cons_succ, i64_w, i32_w]
                    rfl
                  refine pure_ (i := 9) (N := some 66) (v := undef) (a' := ?_) #[true, true, true, true, true, true, true, true, true, true, false, false, false, false, false, false, false] rfl rfl (any_of HT_.out (by kernel_rfl)) (fun _ _ _ h => h) (Or.inr ⟨by rfl, rfl⟩) ?_ ?_
                  rotate_left
                  · simp only [Act.put, List.setIfInBounds_toArray, List.set_cons_zero, List.set_cons_succ, i64_w, i32_w]
                    rfl
                  refine pure_ (i := 10) (N := some 67) (v := undef) (a' := ?_) #[true, true, true, true, true, true, true, true, true, true, true, false, false, false, false, false, false] rfl rfl (any_of HT_.out (by kernel_rfl)) (fun _ _ _ h => h) (Or.inr ⟨by rfl, rfl⟩) ?_ ?_
                  rotate_left
                  · simp only [Act.put, List.setIfInBounds_toArray, List.set_cons_zero, List.set_cons_succ, i64_w, i32_w]
                    rfl
                  refine pure_ (i := 11) (N := some 68) (v := undef) (a' := ?_) #[true, true, true, true, true, true, true, true, true, true, true, true, false, false, false, false, false] rfl rfl (any_of HT_.out (by kernel_rfl)) (fun _ _ _ h => h) (Or.inr ⟨by rfl, rfl⟩) ?_ ?_
                  rotate_left
                  · simp only [Act.put, List.setIfInBounds_toArray, List.set_cons_zero, List.set_cons_succ, i64_w, i32_w]
                    rfl
                  refine pure_ (i := 12) (N := some 69) (v := ?_) (a' := ?_) #[true, true, true, true, true, true, true, true, true, true, true, true, true, false, false, false, false] rfl rfl (any_of HT_.out (by kernel_rfl)) (fun _ _ _ h => h) (Or.inl ⟨by rfl, ?_⟩) ?_ ?_
                  rotate_left
                  · intro w'
                    go_simp
                    with_reducible rfl
                  rotate_left
                  · simp only [Act.put, List.setIfInBounds_toArray, List.set_cons_zero, List.set_cons_succ, i64_w, i32_w]
                    rfl
                  refine pure_ (i := 13) (N := some 70) (v := ?_) (a' := ?_) #[true, true, true, true, true, true, true, true, true, true, true, true, true, true, false, false, false] rfl rfl (any_of HT_.out (by kernel_rfl)) (fun _ _ _ h => h) (Or.inl ⟨by rfl, ?_⟩) ?_ ?_
                  rotate_left
                  · intro w'
                    go_simp
                    with_reducible rfl
                  rotate_left
                  · simp only [Act.put, List.setIfInBounds_toArray, List.set_cons_zero, List.set_cons_succ, i64_w, i32_w]
                    rfl
                  refine pure_ (i := 14) (N := some 71) (v := undef) (a' := ?_) #[true, true, true, true, true, true, true, true, true, true, true, true, true, true, true, false, false] rfl rfl (any_of HT_.out (by kernel_rfl)) (fun _ _ _ h => h) (Or.inr ⟨by rfl, rfl⟩) ?_ ?_
                  rotate_left
                  · simp only [Act.put, List.setIfInBounds_toArray, List.set_cons_zero, List.set_cons_succ, i64_w, i32_w]
                    rfl
                  refine pure_ (i := 15) (N := some 72) (v := ?_) (a' := ?_) #[true, true, true, true, true, true, true, true, true, true, true, true, true, true, true, true, false] rfl rfl (any_of HT_.out (by kernel_rfl)) (fun _ _ _ h => h) (Or.inl ⟨by rfl, ?_⟩) ?_ ?_
                  rotate_left
                  · intro w'
                    go_simp
                    with_reducible rfl
                  rotate_left
                  · simp only [Act.put, List.setIfInBounds_toArray, List.set_cons_zero, List.set_cons_succ, i64_w, i32_w]
                    rfl
                  refine pure_ (i := 16) (N := some 12) (v := ?_) (a' := ?_) #[true, true, true, true, true, true, true, true, true, true, true, true, true, true, true, true, true] rfl rfl (any_of HT_.out (by kernel_rfl)) (fun _ _ _ h => h) (Or.inl ⟨by rfl, ?_⟩) ?_ ?_
                  rotate_left
                  · intro w'
                    go_simp
                    with_reducible rfl
                  rotate_left
                  · simp only [Act.put, List.setIfInBounds_toArray, List.set_cons_zero, List.set_cons_succ, i64_w, i32_w]
                    rfl
                  refine done_ (done_of HT_.out (by kernel_rfl)) ?_
                  try go_wp2
                  go_ret
                  exact ⟨by first | rfl | (simp [errW_none, errW_some] <;> rfl) | (simp [*, errW_none, errW_some] <;> rfl), by repeat (first | (with_reducible first | exact HB.out | apply below_alloc | apply pw_below_drewN | apply below_drew1 | refine below_set ?_ GE331.out | refine below_set ?_ GE332.out | refine below_set ?_ GE339.out) | exact HB.out)⟩

end Go.Proofs.Ytdphpilcokloeaa.P
