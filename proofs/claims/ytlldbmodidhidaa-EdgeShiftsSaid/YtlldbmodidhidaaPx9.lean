/- Printed by printx.py (wip/tool) out of the translation: plain functions that tell what the program answers, and the proofs that the program comes to these answers, for all arguments of their kinds. Lean checks it. -/
import Derived.Test.YtlldbmodidhidaaPx0
import Derived.Test.YtlldbmodidhidaaPx3
import Derived.Test.YtlldbmodidhidaaPx4
import Derived.Test.YtlldbmodidhidaaPx8
namespace Go.Proofs.Ytlldbmodidhidaa.P
open Go.RowKit Go.Proofs.YtlldbmodidhidaaW.PrintWords Go.Proofs.YtlldbmodidhidaaW.PrintLast Go.Proofs.YtlldbmodidhidaaW.PrintMore
attribute [local go_sem] max2_int min2_int max_two min_two max_three min_three max_four min_four max_five min_five max_six min_six   -- for this text's walks alone
set_option linter.unusedVariables false
set_option linter.unusedSimpArgs false

attribute [local go_sem high] eqA60 eqA62
/-! ### style_SameFill: function 53 -/
def style_SameFill.f (k : Nat) (a0_0 : Int) (a0_1 : Int) (a0_2 : Int) (a0_3 : Int) (a0_4 : Int) (a0_5 : Int) (a0_6 : Int) (a0_7 : Int) (a0_8 : Int) (a0_9 : Int) (a0_10 : Int) (a0_11 : Int) (l0_12 : List (S86)) (a0_13 : Int) (a1_0 : Int) (a1_1 : Int) (a1_2 : Int) (a1_3 : Int) (a1_4 : Int) (a1_5 : Int) (a1_6 : Int) (a1_7 : Int) (a1_8 : Int) (a1_9 : Int) (a1_10 : Int) (a1_11 : Int) (l1_12 : List (S86)) (a1_13 : Int) : Option (Bool) := if a0_0 = a1_0 then (if (a0_1 == a1_1 && (a0_2 == a1_2 && (a0_3 == a1_3 && (a0_4 == a1_4)))) = true then (if (a0_5 == a1_5 && (a0_6 == a1_6 && (a0_7 == a1_7 && (a0_8 == a1_8 && (a0_9 == a1_9 && (a0_10 == a1_10)))))) = true then (if a0_11 = a1_11 then (if a0_13 = a1_13 then ((api_Stop.f k l0_12 l1_12).bind fun t123 => (some t123)) else (some false)) else (some false)) else (some false)) else (some false)) else (some false)
theorem style_SameFill.mono : ∀ a0 a1 a2 a3 a4 a5 a6 a7 a8 a9 a10 a11 a12 a13 a14 a15 a16 a17 a18 a19 a20 a21 a22 a23 a24 a25 a26 a27 k, LeO (style_SameFill.f k a0 a1 a2 a3 a4 a5 a6 a7 a8 a9 a10 a11 a12 a13 a14 a15 a16 a17 a18 a19 a20 a21 a22 a23 a24 a25 a26 a27) (style_SameFill.f (k + 1) a0 a1 a2 a3 a4 a5 a6 a7 a8 a9 a10 a11 a12 a13 a14 a15 a16 a17 a18 a19 a20 a21 a22 a23 a24 a25 a26 a27) := by
  intro a0 a1 a2 a3 a4 a5 a6 a7 a8 a9 a10 a11 a12 a13 a14 a15 a16 a17 a18 a19 a20 a21 a22 a23 a24 a25 a26 a27 k
  unfold style_SameFill.f
  repeat' first
      | (with_reducible exact api_Stop.mono _ _ _)
      | (with_reducible exact LeO.refl _)
      | (with_reducible exact LeO.none _)
      | (with_reducible refine LeO.ite ?_ ?_)
      | (with_reducible refine LeO.bind ?_ (fun _ => ?_))
      | exact api_Stop.mono _ _ _
      | exact LeO.none _
      | refine LeO.ite ?_ ?_
      | refine LeO.bind ?_ (fun _ => ?_)
set_option maxHeartbeats 8000000 in
set_option maxRecDepth 100000 in
theorem style_SameFill.calls (k : Nat) (a0_0 : Int) (a0_1 : Int) (a0_2 : Int) (a0_3 : Int) (a0_4 : Int) (a0_5 : Int) (a0_6 : Int) (a0_7 : Int) (a0_8 : Int) (a0_9 : Int) (a0_10 : Int) (a0_11 : Int) (A0_12 : Option Addr) (c0_12 : Nat) (l0_12 : List (S86)) (a0_13 : Int) (a1_0 : Int) (a1_1 : Int) (a1_2 : Int) (a1_3 : Int) (a1_4 : Int) (a1_5 : Int) (a1_6 : Int) (a1_7 : Int) (a1_8 : Int) (a1_9 : Int) (a1_10 : Int) (a1_11 : Int) (A1_12 : Option Addr) (c1_12 : Nat) (l1_12 : List (S86)) (a1_13 : Int) (r : Bool) (w : World) (hr0_12 : Kd.C k86 w A0_12 l0_12.length l0_12) (hc0_12 : l0_12.length ≤ c0_12) (hr1_12 : Kd.C k86 w A1_12 l1_12.length l1_12) (hc1_12 : l1_12.length ≤ c1_12) (h : style_SameFill.f k a0_0 a0_1 a0_2 a0_3 a0_4 a0_5 a0_6 a0_7 a0_8 a0_9 a0_10 a0_11 l0_12 a0_13 a1_0 a1_1 a1_2 a1_3 a1_4 a1_5 a1_6 a1_7 a1_8 a1_9 a1_10 a1_11 l1_12 a1_13 = some r) :
    Calls Try.prog 53 #[.agg #[.int .i64 a0_0, .int .i64 a0_1, .int .i64 a0_2, .int .i64 a0_3, .int .i64 a0_4, .int .i64 a0_5, .int .i64 a0_6, .int .i64 a0_7, .int .i64 a0_8, .int .i64 a0_9, .int .i64 a0_10, .int .i64 a0_11, .slice A0_12 l0_12.length c0_12, .int .i64 a0_13], .agg #[.int .i64 a1_0, .int .i64 a1_1, .int .i64 a1_2, .int .i64 a1_3, .int .i64 a1_4, .int .i64 a1_5, .int .i64 a1_6, .int .i64 a1_7, .int .i64 a1_8, .int .i64 a1_9, .int .i64 a1_10, .int .i64 a1_11, .slice A1_12 l1_12.length c1_12, .int .i64 a1_13]] w fun e w' => e = .returned (.bool r) ∧ Below w.heap.size w w' := by
  have hu65 := Try.underlying65
  have hu60 := Try.underlying60
  have hu62 := Try.underlying62
  have HR0_12 := Aside0.mk hr0_12
  have HC0_12 := Aside0.mk hc0_12
  clear hr0_12 hc0_12
  have HR1_12 := Aside0.mk hr1_12
  have HC1_12 := Aside0.mk hc1_12
  clear hr1_12 hc1_12
  have HB := Aside0.mk (Below.refl w.heap.size w)
  have H : (if a0_0 = a1_0 then (if (a0_1 == a1_1 && (a0_2 == a1_2 && (a0_3 == a1_3 && (a0_4 == a1_4)))) = true then (if (a0_5 == a1_5 && (a0_6 == a1_6 && (a0_7 == a1_7 && (a0_8 == a1_8 && (a0_9 == a1_9 && (a0_10 == a1_10)))))) = true then (if a0_11 = a1_11 then (if a0_13 = a1_13 then ((api_Stop.f k l0_12 l1_12).bind fun t123 => (some t123)) else (some false)) else (some false)) else (some false)) else (some false)) else (some false)) = some r := h
  clear h
  by_cases c3 : a0_0 = a1_0
  focus
    rw [if_pos c3] at H
    have c3b0 : (a0_0 == a1_0) = true := beq_iff_eq.mpr c3
    have c3b1 : (a0_0 != a1_0) = false := bne_eq_false_iff_eq.mpr c3
    clear c3
    by_cases c4 : (a0_1 == a1_1 && (a0_2 == a1_2 && (a0_3 == a1_3 && (a0_4 == a1_4)))) = true
    focus
      rw [if_pos c4] at H
      have c4b0 : (a0_1 == a1_1 && (a0_2 == a1_2 && (a0_3 == a1_3 && (a0_4 == a1_4)))) = true := c4
      (try (have c4b1 : decide (a0_1 = a1_1 && (a0_2 == a1_2 && (a0_3 == a1_3 && (a0_4 == a1_4)))) = true := by simpa using c4))
      (try (have c4b2 : (a0_1 == a1_1 && (a0_2 == a1_2 && (a0_3 == a1_3 && (a0_4 == a1_4)))) = true := by simpa using c4))
      clear c4
      by_cases c5 : (a0_5 == a1_5 && (a0_6 == a1_6 && (a0_7 == a1_7 && (a0_8 == a1_8 && (a0_9 == a1_9 && (a0_10 == a1_10)))))) = true
      focus
        rw [if_pos c5] at H
        have c5b0 : (a0_5 == a1_5 && (a0_6 == a1_6 && (a0_7 == a1_7 && (a0_8 == a1_8 && (a0_9 == a1_9 && (a0_10 == a1_10)))))) = true := c5
        (try (have c5b1 : decide (a0_5 = a1_5 && (a0_6 == a1_6 && (a0_7 == a1_7 && (a0_8 == a1_8 && (a0_9 == a1_9 && (a0_10 == a1_10)))))) = true := by simpa using c5))
        (try (have c5b2 : (a0_5 == a1_5 && (a0_6 == a1_6 && (a0_7 == a1_7 && (a0_8 == a1_8 && (a0_9 == a1_9 && (a0_10 == a1_10)))))) = true := by simpa using c5))
        clear c5
        by_cases c6 : a0_11 = a1_11
        focus
          rw [if_pos c6] at H
          have c6b0 : (a0_11 == a1_11) = true := beq_iff_eq.mpr c6
          have c6b1 : (a0_11 != a1_11) = false := bne_eq_false_iff_eq.mpr c6
          clear c6
          by_cases c7 : a0_13 = a1_13
          focus
            rw [if_pos c7] at H
            have c7b0 : (a0_13 == a1_13) = true := beq_iff_eq.mpr c7
            have c7b1 : (a0_13 != a1_13) = false := bne_eq_false_iff_eq.mpr c7
            clear c7
            replace H := Option.bind_eq_some_iff.mp H
            obtain ⟨t123, A80, H⟩ := H
            replace H : (some t123) = some r := H
            have A8 := Aside0.mk A80
            clear A80
            obtain rfl := Option.some.inj H
          rotate_left
          focus
            rw [if_neg c7] at H
            have c7b0 : (a0_13 == a1_13) = false := beq_eq_false_iff_ne.mpr c7
            have c7b1 : (a0_13 != a1_13) = true := bne_iff_ne.mpr c7
            obtain rfl := Option.some.inj H
        rotate_left 2
        focus
          rw [if_neg c6] at H
          have c6b0 : (a0_11 == a1_11) = false := beq_eq_false_iff_ne.mpr c6
          have c6b1 : (a0_11 != a1_11) = true := bne_iff_ne.mpr c6
          obtain rfl := Option.some.inj H
      rotate_left 3
      focus
        rw [if_neg c5] at H
        have c5b0 : (a0_5 == a1_5 && (a0_6 == a1_6 && (a0_7 == a1_7 && (a0_8 == a1_8 && (a0_9 == a1_9 && (a0_10 == a1_10)))))) = false := by simpa using c5
        (try (have c5b1 : decide (a0_5 = a1_5 && (a0_6 == a1_6 && (a0_7 == a1_7 && (a0_8 == a1_8 && (a0_9 == a1_9 && (a0_10 == a1_10)))))) = false := by simpa using c5))
        (try (have c5b2 : (a0_5 == a1_5 && (a0_6 == a1_6 && (a0_7 == a1_7 && (a0_8 == a1_8 && (a0_9 == a1_9 && (a0_10 == a1_10)))))) = false := by simpa using c5))
        (try (have c5b3 : ¬ (a0_5 = a1_5 && (a0_6 == a1_6 && (a0_7 == a1_7 && (a0_8 == a1_8 && (a0_9 == a1_9 && (a0_10 == a1_10)))))) := by simpa using c5))
        clear c5
        obtain rfl := Option.some.inj H
    rotate_left 4
    focus
      rw [if_neg c4] at H
      have c4b0 : (a0_1 == a1_1 && (a0_2 == a1_2 && (a0_3 == a1_3 && (a0_4 == a1_4)))) = false := by simpa using c4
      (try (have c4b1 : decide (a0_1 = a1_1 && (a0_2 == a1_2 && (a0_3 == a1_3 && (a0_4 == a1_4)))) = false := by simpa using c4))
      (try (have c4b2 : (a0_1 == a1_1 && (a0_2 == a1_2 && (a0_3 == a1_3 && (a0_4 == a1_4)))) = false := by simpa using c4))
      (try (have c4b3 : ¬ (a0_1 = a1_1 && (a0_2 == a1_2 && (a0_3 == a1_3 && (a0_4 == a1_4)))) := by simpa using c4))
      clear c4
      obtain rfl := Option.some.inj H
  rotate_left 5
  focus
    rw [if_neg c3] at H
    have c3b0 : (a0_0 == a1_0) = false := beq_eq_false_iff_ne.mpr c3
    have c3b1 : (a0_0 != a1_0) = true := bne_iff_ne.mpr c3
    obtain rfl := Option.some.inj H
  all_goals
    go_enter Try.func53, Try.ntmps53
    go_wp2_with (first | ((with_reducible refine gate_dst (N := 2) rfl ?_); refine box_event ?hg (N := 2) ?hd (cs := #[.int .i64 a0_0, .int .i64 a0_1, .int .i64 a0_2, .int .i64 a0_3, .int .i64 a0_4, .int .i64 a0_5, .int .i64 a0_6, .int .i64 a0_7, .int .i64 a0_8, .int .i64 a0_9, .int .i64 a0_10, .int .i64 a0_11, .slice A0_12 l0_12.length c0_12, .int .i64 a0_13]) (t := 65) ?hr ?_; (case hd => rfl); (case hg => rfl); (case hr => first | (go_simp; done) | (go_simp; rfl)); intro gbz1 hg wz1 hbox hb; have nz1_ := Aside0.mk (below_step (by repeat (first | (with_reducible first | exact HB.out | apply below_alloc | apply pw_below_drewN | apply below_drew1) | exact HB.out)) hb); have nz2_ := Aside0.mk (hbox); have nz3_ := Aside0.mk ((by rw [hg]; exact (below_size (by repeat (first | (with_reducible first | exact HB.out | apply below_alloc | apply pw_below_drewN | apply below_drew1) | exact HB.out))) : w.heap.size ≤ gbz1)); have nz4_ := Aside0.mk ((by rw [hg]; exact (below_size (by repeat (first | (with_reducible first | exact HB.out | apply below_alloc | apply pw_below_drewN | apply below_drew1) | exact HB.out))) : w.heap.size ≤ gbz1)); clear HB; have HB := nz1_; have BKz1 := nz2_; have GWz1 := nz3_; have GEz1 := nz4_; clear nz1_ nz2_ nz3_ nz4_; clear hb hbox hg) | ((with_reducible refine gate_dst (N := 3) rfl ?_); refine box_event ?hg (N := 3) ?hd (cs := #[.int .i64 a1_0, .int .i64 a1_1, .int .i64 a1_2, .int .i64 a1_3, .int .i64 a1_4, .int .i64 a1_5, .int .i64 a1_6, .int .i64 a1_7, .int .i64 a1_8, .int .i64 a1_9, .int .i64 a1_10, .int .i64 a1_11, .slice A1_12 l1_12.length c1_12, .int .i64 a1_13]) (t := 65) ?hr ?_; (case hd => rfl); (case hg => rfl); (case hr => first | (go_simp; done) | (go_simp; rfl)); intro gbz2 hg wz2 hbox hb; have nz1_ := Aside0.mk (blk_below (g := gbz1) (o := .cells #[.int .i64 a0_0, .int .i64 a0_1, .int .i64 a0_2, .int .i64 a0_3, .int .i64 a0_4, .int .i64 a0_5, .int .i64 a0_6, .int .i64 a0_7, .int .i64 a0_8, .int .i64 a0_9, .int .i64 a0_10, .int .i64 a0_11, .slice A0_12 l0_12.length c0_12, .int .i64 a0_13] 65 (0, 0)) (by (with_reducible repeat (first | refine blk_drewN ?_ _ | refine blk_drew ?_ | refine blk_alloc ?_ _)); exact BKz1.out) hb); have nz2_ := Aside0.mk (below_step (by repeat (first | (with_reducible first | exact HB.out | apply below_alloc | apply pw_below_drewN | apply below_drew1 | refine below_set ?_ GEz1.out) | exact HB.out)) hb); have nz3_ := Aside0.mk (hbox); have nz4_ := Aside0.mk ((by rw [hg]; exact (below_size (by repeat (first | (with_reducible first | exact HB.out | apply below_alloc | apply pw_below_drewN | apply below_drew1 | refine below_set ?_ GEz1.out) | exact HB.out))) : w.heap.size ≤ gbz2)); have nz5_ := Aside0.mk ((by rw [hg]; exact (below_size (by repeat (first | (with_reducible first | exact HB.out | apply below_alloc | apply pw_below_drewN | apply below_drew1 | refine below_set ?_ GEz1.out) | exact HB.out))) : w.heap.size ≤ gbz2)); have nz6_ := Aside0.mk ((by rw [hg]; exact Nat.ne_of_lt (blk_lt (g := gbz1) (o := .cells #[.int .i64 a0_0, .int .i64 a0_1, .int .i64 a0_2, .int .i64 a0_3, .int .i64 a0_4, .int .i64 a0_5, .int .i64 a0_6, .int .i64 a0_7, .int .i64 a0_8, .int .i64 a0_9, .int .i64 a0_10, .int .i64 a0_11, .slice A0_12 l0_12.length c0_12, .int .i64 a0_13] 65 (0, 0)) (by (with_reducible repeat (first | refine blk_drewN ?_ _ | refine blk_drew ?_ | refine blk_alloc ?_ _)); exact BKz1.out)) : gbz1 ≠ gbz2)); have nz7_ := Aside0.mk ((by rw [hg]; exact Nat.ne_of_gt (blk_lt (g := gbz1) (o := .cells #[.int .i64 a0_0, .int .i64 a0_1, .int .i64 a0_2, .int .i64 a0_3, .int .i64 a0_4, .int .i64 a0_5, .int .i64 a0_6, .int .i64 a0_7, .int .i64 a0_8, .int .i64 a0_9, .int .i64 a0_10, .int .i64 a0_11, .slice A0_12 l0_12.length c0_12, .int .i64 a0_13] 65 (0, 0)) (by (with_reducible repeat (first | refine blk_drewN ?_ _ | refine blk_drew ?_ | refine blk_alloc ?_ _)); exact BKz1.out)) : gbz2 ≠ gbz1)); clear BKz1; clear HB; have BKz1 := nz1_; have HB := nz2_; have BKz2 := nz3_; have GWz2 := nz4_; have GEz2 := nz5_; have NBz1_122 := nz6_; have NBz2_121 := nz7_; clear nz1_ nz2_ nz3_ nz4_ nz5_ nz6_ nz7_; clear hb hbox hg; have hnbz1 := NBz1_122.out; have hncz1 := NBz2_121.out; have hczz1_0 : wz2.cell? ⟨gbz1, 0, none⟩ = some (.int .i64 a0_0) := (blk_cell BKz1.out 0).trans rfl; have hczz1_1 : wz2.cell? ⟨gbz1, 1, none⟩ = some (.int .i64 a0_1) := (blk_cell BKz1.out 1).trans rfl; have hczz1_2 : wz2.cell? ⟨gbz1, 2, none⟩ = some (.int .i64 a0_2) := (blk_cell BKz1.out 2).trans rfl; have hczz1_3 : wz2.cell? ⟨gbz1, 3, none⟩ = some (.int .i64 a0_3) := (blk_cell BKz1.out 3).trans rfl; have hczz1_4 : wz2.cell? ⟨gbz1, 4, none⟩ = some (.int .i64 a0_4) := (blk_cell BKz1.out 4).trans rfl; have hczz1_5 : wz2.cell? ⟨gbz1, 5, none⟩ = some (.int .i64 a0_5) := (blk_cell BKz1.out 5).trans rfl; have hczz1_6 : wz2.cell? ⟨gbz1, 6, none⟩ = some (.int .i64 a0_6) := (blk_cell BKz1.out 6).trans rfl; have hczz1_7 : wz2.cell? ⟨gbz1, 7, none⟩ = some (.int .i64 a0_7) := (blk_cell BKz1.out 7).trans rfl; have hczz1_8 : wz2.cell? ⟨gbz1, 8, none⟩ = some (.int .i64 a0_8) := (blk_cell BKz1.out 8).trans rfl; have hczz1_9 : wz2.cell? ⟨gbz1, 9, none⟩ = some (.int .i64 a0_9) := (blk_cell BKz1.out 9).trans rfl; have hczz1_10 : wz2.cell? ⟨gbz1, 10, none⟩ = some (.int .i64 a0_10) := (blk_cell BKz1.out 10).trans rfl; have hczz1_11 : wz2.cell? ⟨gbz1, 11, none⟩ = some (.int .i64 a0_11) := (blk_cell BKz1.out 11).trans rfl; have hczz1_12 : wz2.cell? ⟨gbz1, 12, none⟩ = some (.slice A0_12 l0_12.length c0_12) := (blk_cell BKz1.out 12).trans rfl; have hczz1_13 : wz2.cell? ⟨gbz1, 13, none⟩ = some (.int .i64 a0_13) := (blk_cell BKz1.out 13).trans rfl; have hfzz1_0 := blk_frozen BKz1.out 0; have hfzz1_1 := blk_frozen BKz1.out 1; have hfzz1_2 := blk_frozen BKz1.out 2; have hfzz1_3 := blk_frozen BKz1.out 3; have hfzz1_4 := blk_frozen BKz1.out 4; have hfzz1_5 := blk_frozen BKz1.out 5; have hfzz1_6 := blk_frozen BKz1.out 6; have hfzz1_7 := blk_frozen BKz1.out 7; have hfzz1_8 := blk_frozen BKz1.out 8; have hfzz1_9 := blk_frozen BKz1.out 9; have hfzz1_10 := blk_frozen BKz1.out 10; have hfzz1_11 := blk_frozen BKz1.out 11; have hfzz1_12 := blk_frozen BKz1.out 12; have hfzz1_13 := blk_frozen BKz1.out 13; have hczz2_0 : wz2.cell? ⟨gbz2, 0, none⟩ = some (.int .i64 a1_0) := (blk_cell BKz2.out 0).trans rfl; have hczz2_1 : wz2.cell? ⟨gbz2, 1, none⟩ = some (.int .i64 a1_1) := (blk_cell BKz2.out 1).trans rfl; have hczz2_2 : wz2.cell? ⟨gbz2, 2, none⟩ = some (.int .i64 a1_2) := (blk_cell BKz2.out 2).trans rfl; have hczz2_3 : wz2.cell? ⟨gbz2, 3, none⟩ = some (.int .i64 a1_3) := (blk_cell BKz2.out 3).trans rfl; have hczz2_4 : wz2.cell? ⟨gbz2, 4, none⟩ = some (.int .i64 a1_4) := (blk_cell BKz2.out 4).trans rfl; have hczz2_5 : wz2.cell? ⟨gbz2, 5, none⟩ = some (.int .i64 a1_5) := (blk_cell BKz2.out 5).trans rfl; have hczz2_6 : wz2.cell? ⟨gbz2, 6, none⟩ = some (.int .i64 a1_6) := (blk_cell BKz2.out 6).trans rfl; have hczz2_7 : wz2.cell? ⟨gbz2, 7, none⟩ = some (.int .i64 a1_7) := (blk_cell BKz2.out 7).trans rfl; have hczz2_8 : wz2.cell? ⟨gbz2, 8, none⟩ = some (.int .i64 a1_8) := (blk_cell BKz2.out 8).trans rfl; have hczz2_9 : wz2.cell? ⟨gbz2, 9, none⟩ = some (.int .i64 a1_9) := (blk_cell BKz2.out 9).trans rfl; have hczz2_10 : wz2.cell? ⟨gbz2, 10, none⟩ = some (.int .i64 a1_10) := (blk_cell BKz2.out 10).trans rfl; have hczz2_11 : wz2.cell? ⟨gbz2, 11, none⟩ = some (.int .i64 a1_11) := (blk_cell BKz2.out 11).trans rfl; have hczz2_12 : wz2.cell? ⟨gbz2, 12, none⟩ = some (.slice A1_12 l1_12.length c1_12) := (blk_cell BKz2.out 12).trans rfl; have hczz2_13 : wz2.cell? ⟨gbz2, 13, none⟩ = some (.int .i64 a1_13) := (blk_cell BKz2.out 13).trans rfl; have hfzz2_0 := blk_frozen BKz2.out 0; have hfzz2_1 := blk_frozen BKz2.out 1; have hfzz2_2 := blk_frozen BKz2.out 2; have hfzz2_3 := blk_frozen BKz2.out 3; have hfzz2_4 := blk_frozen BKz2.out 4; have hfzz2_5 := blk_frozen BKz2.out 5; have hfzz2_6 := blk_frozen BKz2.out 6; have hfzz2_7 := blk_frozen BKz2.out 7; have hfzz2_8 := blk_frozen BKz2.out 8; have hfzz2_9 := blk_frozen BKz2.out 9; have hfzz2_10 := blk_frozen BKz2.out 10; have hfzz2_11 := blk_frozen BKz2.out 11; have hfzz2_12 := blk_frozen BKz2.out 12; have hfzz2_13 := blk_frozen BKz2.out 13) | (go_at_call 60; (with_reducible refine (api_Stop.calls k _ _ l0_12 _ _ l1_12 t123 _ ?side1 ?side2 ?side3 ?side4 A8.out).mono ?_); (case side1 => repeat (first | exact (Kd.C_below HR0_12.out HB.out) | (with_reducible refine Kd.C_alloc ?_ _) | (with_reducible refine Kd.C_drewN ?_ _) | (with_reducible refine Kd.C_drew ?_))); (case side2 => exact HC0_12.out); (case side3 => repeat (first | exact (Kd.C_below HR1_12.out HB.out) | (with_reducible refine Kd.C_alloc ?_ _) | (with_reducible refine Kd.C_drewN ?_ _) | (with_reducible refine Kd.C_drew ?_))); (case side4 => exact HC1_12.out); rintro e w' ⟨rfl, ⟨nd, rfl⟩⟩))
    go_ret
    exact ⟨by first | rfl | (simp [errW_none, errW_some] <;> rfl) | (simp [*, errW_none, errW_some] <;> rfl), by repeat (first | (with_reducible first | exact HB.out | apply below_alloc | apply pw_below_drewN | apply below_drew1 | refine below_set ?_ GEz1.out | refine below_set ?_ GEz2.out) | exact HB.out)⟩

/-! ### style_picture: function 54 -/
def style_picture.f (a0 : Int) : Option (Bool) := if a0 = 64 then (some true) else (some (a0 == 65))
set_option maxHeartbeats 8000000 in
set_option maxRecDepth 100000 in
theorem style_picture.calls (a0 : Int) (r : Bool) (w : World) (h : style_picture.f a0 = some r) :
    Calls Try.prog 54 #[.int .i64 a0] w fun e w' => e = .returned (.bool r) ∧ Drawn0 w w' := by
  have H : (if a0 = 64 then (some true) else (some (a0 == 65))) = some r := h
  clear h
  by_cases c2 : a0 = 64
  · rw [if_pos c2] at H
    have c2b0 : (a0 == 64) = true := beq_iff_eq.mpr c2
    have c2b1 : (a0 != 64) = false := bne_eq_false_iff_eq.mpr c2
    clear c2
    obtain rfl := Option.some.inj H
    go_enter Try.func54, Try.ntmps54
    go_wp2
    go_ret
    exact ⟨by first | rfl | (simp; done) | (simp [*]; done), by repeat (first | exact Drawn0.refl _ | apply Drawn0.step)⟩
  · rw [if_neg c2] at H
    have c2b0 : (a0 == 64) = false := beq_eq_false_iff_ne.mpr c2
    have c2b1 : (a0 != 64) = true := bne_iff_ne.mpr c2
    obtain rfl := Option.some.inj H
    go_enter Try.func54, Try.ntmps54
    go_wp2
    go_ret
    exact ⟨by first | rfl | (simp; done) | (simp [*]; done), by repeat (first | exact Drawn0.refl _ | apply Drawn0.step)⟩

/-! ### field_RightMatrix: function 55 -/
def field_RightMatrix.f (k : Nat) (a0_0 : Int) (a0_1 : Int) (a0_2 : Int) (a0_3 : Int) (a0_4 : Int) (a0_5 : Int) : Option (Bool) := (field_within.f k (-4194304) 4194304 (([a0_0, a0_1, a0_2, a0_3] : List Int))).bind fun t128 => (if t128 = true then ((field_within.f k (-1048576) 1048576 (([a0_4, a0_5] : List Int))).bind fun t132 => (some t132)) else (some false))
theorem field_RightMatrix.mono : ∀ a0 a1 a2 a3 a4 a5 k, LeO (field_RightMatrix.f k a0 a1 a2 a3 a4 a5) (field_RightMatrix.f (k + 1) a0 a1 a2 a3 a4 a5) := by
  intro a0 a1 a2 a3 a4 a5 k
  unfold field_RightMatrix.f
  repeat' first
      | (with_reducible exact field_within.mono _ _ _ _)
      | (with_reducible exact LeO.refl _)
      | (with_reducible exact LeO.none _)
      | (with_reducible refine LeO.ite ?_ ?_)
      | (with_reducible refine LeO.bind ?_ (fun _ => ?_))
      | exact field_within.mono _ _ _ _
      | exact LeO.none _
      | refine LeO.ite ?_ ?_
      | refine LeO.bind ?_ (fun _ => ?_)
set_option maxHeartbeats 8000000 in
set_option maxRecDepth 100000 in
theorem field_RightMatrix.calls (k : Nat) (a0_0 : Int) (a0_1 : Int) (a0_2 : Int) (a0_3 : Int) (a0_4 : Int) (a0_5 : Int) (r : Bool) (w : World) (h : field_RightMatrix.f k a0_0 a0_1 a0_2 a0_3 a0_4 a0_5 = some r) :
    Calls Try.prog 55 #[.agg #[.int .i64 a0_0, .int .i64 a0_1, .int .i64 a0_2, .int .i64 a0_3, .int .i64 a0_4, .int .i64 a0_5]] w fun e w' => e = .returned (.bool r) ∧ Below w.heap.size w w' := by
  have hu62 := Try.underlying62
  have HB := Aside0.mk (Below.refl w.heap.size w)
  have H : ((field_within.f k (-4194304) 4194304 (([a0_0, a0_1, a0_2, a0_3] : List Int))).bind fun t128 => (if t128 = true then ((field_within.f k (-1048576) 1048576 (([a0_4, a0_5] : List Int))).bind fun t132 => (some t132)) else (some false))) = some r := h
  clear h
  obtain ⟨y125, hy125⟩ : ∃ y_ : List Int, y_ = (([a0_0, a0_1, a0_2, a0_3] : List Int)) := ⟨_, rfl⟩
  replace H : ((field_within.f k (-4194304) 4194304 y125).bind fun t128 => (if t128 = true then ((field_within.f k (-1048576) 1048576 (([a0_4, a0_5] : List Int))).bind fun t132 => (some t132)) else (some false))) = some r := by first | (rw [hy125]; with_reducible exact H) | (have H2_ := (Option.bind_some _ _).symm.trans H; rw [hy125]; with_reducible exact H2_) | (have H2_ := (Option.bind_some _ _).symm.trans H; with_reducible exact H2_) | with_reducible exact H | (rw [hy125]; exact H) | exact H
  have Ny125 := Aside0.mk hy125
  clear hy125
  replace H := Option.bind_eq_some_iff.mp H
  obtain ⟨t128, A20, H⟩ := H
  replace H : (if t128 = true then ((field_within.f k (-1048576) 1048576 (([a0_4, a0_5] : List Int))).bind fun t132 => (some t132)) else (some false)) = some r := H
  have A2 := Aside0.mk A20
  clear A20
  by_cases c3 : t128 = true
  · subst c3
    have H1 : ((field_within.f k (-1048576) 1048576 (([a0_4, a0_5] : List Int))).bind fun t132 => (some t132)) = some r := by rw [if_pos rfl] at H; exact H
    clear H
    have H := H1
    clear H1
    obtain ⟨y129, hy129⟩ : ∃ y_ : List Int, y_ = (([a0_4, a0_5] : List Int)) := ⟨_, rfl⟩
    replace H : ((field_within.f k (-1048576) 1048576 y129).bind fun t132 => (some t132)) = some r := by first | (rw [hy129]; with_reducible exact H) | (have H2_ := (Option.bind_some _ _).symm.trans H; rw [hy129]; with_reducible exact H2_) | (have H2_ := (Option.bind_some _ _).symm.trans H; with_reducible exact H2_) | with_reducible exact H | (rw [hy129]; exact H) | exact H
    have Ny129 := Aside0.mk hy129
    clear hy129
    replace H := Option.bind_eq_some_iff.mp H
    obtain ⟨t132, A40, H⟩ := H
    replace H : (some t132) = some r := H
    have A4 := Aside0.mk A40
    clear A40
    obtain rfl := Option.some.inj H
    go_enter Try.func55, Try.ntmps55
    go_wp2_with (first | ((with_reducible refine gate_dst (N := 1) rfl ?_); (try (refine gate_guard (by rfl) ?_; dsimp only)); refine box_event ?hg (N := 1) ?hd (cs := #[.int .i64 a0_0, .int .i64 a0_1, .int .i64 a0_2, .int .i64 a0_3, .int .i64 a0_4, .int .i64 a0_5]) (t := 62) ?hr ?_; (case hd => rfl); (case hg => rfl); (case hr => first | (go_simp; done) | (go_simp; rfl)); intro gb124 hg w5 hbox hb; have n0_ := Aside0.mk (below_step (by repeat (first | (with_reducible first | exact HB.out | apply below_alloc | apply pw_below_drewN | apply below_drew1) | exact HB.out)) hb); have n1_ := Aside0.mk (hbox); have n2_ := Aside0.mk ((by rw [hg]; exact (below_size (by repeat (first | (with_reducible first | exact HB.out | apply below_alloc | apply pw_below_drewN | apply below_drew1) | exact HB.out))) : w.heap.size ≤ gb124)); have n3_ := Aside0.mk ((by rw [hg]; exact (below_size (by repeat (first | (with_reducible first | exact HB.out | apply below_alloc | apply pw_below_drewN | apply below_drew1) | exact HB.out))) : w.heap.size ≤ gb124)); clear HB; have HB := n0_; have BK124 := n1_; have GW124 := n2_; have GE124 := n3_; clear n0_ n1_ n2_ n3_; clear hb hbox hg; have hcz6_0 : w5.cell? ⟨gb124, 0, none⟩ = some (.int .i64 a0_0) := (blk_cell BK124.out 0).trans rfl; have hcz6_1 : w5.cell? ⟨gb124, 1, none⟩ = some (.int .i64 a0_1) := (blk_cell BK124.out 1).trans rfl; have hcz6_2 : w5.cell? ⟨gb124, 2, none⟩ = some (.int .i64 a0_2) := (blk_cell BK124.out 2).trans rfl; have hcz6_3 : w5.cell? ⟨gb124, 3, none⟩ = some (.int .i64 a0_3) := (blk_cell BK124.out 3).trans rfl; have hcz6_4 : w5.cell? ⟨gb124, 4, none⟩ = some (.int .i64 a0_4) := (blk_cell BK124.out 4).trans rfl; have hcz6_5 : w5.cell? ⟨gb124, 5, none⟩ = some (.int .i64 a0_5) := (blk_cell BK124.out 5).trans rfl; have hfz6_0 := blk_frozen BK124.out 0; have hfz6_1 := blk_frozen BK124.out 1; have hfz6_2 := blk_frozen BK124.out 2; have hfz6_3 := blk_frozen BK124.out 3; have hfz6_4 := blk_frozen BK124.out 4; have hfz6_5 := blk_frozen BK124.out 5) | ((with_reducible refine gate_dst (N := 11) rfl ?_); (try (refine gate_guard (by rfl) ?_; dsimp only)); refine Kd.R_lit (Kd.int .i64) _ 3 ?hg (N := 11) ?hd (xs := ([a0_0, a0_1, a0_2, a0_3] : List Int)) (inner := [.int .i64 a0_0, .int .i64 a0_1, .int .i64 a0_2, .int .i64 a0_3]) (ok := fun _ => True) (okp := fun _ => True) ?hr ?hp (fun _ hk => hk) trivial (Below.refl _ _) (Nat.le_refl _) (by simp) ?_; (case hd => rfl); (case hg => rfl); (case hr => first | (go_simp; done) | (go_simp; rfl)); (case hp => exact (Reps.one (show Kd.M (Kd.int .i64) _ _ _ a0_0 [.int .i64 a0_0] from rfl) (Reps.one (show Kd.M (Kd.int .i64) _ _ _ a0_1 [.int .i64 a0_1] from rfl) (Reps.one (show Kd.M (Kd.int .i64) _ _ _ a0_2 [.int .i64 a0_2] from rfl) (Reps.one (show Kd.M (Kd.int .i64) _ _ _ a0_3 [.int .i64 a0_3] from rfl) (Reps.none _ _)))))); intro v126 w7 ho8 hb hg_ hnew_; clear hg_ hnew_; (first | rw [← Ny125.out] at ho8 | (simp only [Int.reduceToNat] at ho8; rw [← Ny125.out] at ho8)); have n0_ := Aside0.mk (Kd.R_lower ho8 (below_size (by repeat (first | (with_reducible first | exact HB.out | apply below_alloc | apply pw_below_drewN | apply below_drew1 | refine below_set ?_ GE124.out) | exact HB.out)))); have n1_ := Aside0.mk (blk_below (g := gb124) (o := .cells #[.int .i64 a0_0, .int .i64 a0_1, .int .i64 a0_2, .int .i64 a0_3, .int .i64 a0_4, .int .i64 a0_5] 62 (0, 0)) (by (with_reducible repeat (first | refine blk_drewN ?_ _ | refine blk_drew ?_ | refine blk_alloc ?_ _)); exact BK124.out) hb); have n2_ := Aside0.mk (below_step (by repeat (first | (with_reducible first | exact HB.out | apply below_alloc | apply pw_below_drewN | apply below_drew1 | refine below_set ?_ GE124.out) | exact HB.out)) hb); clear BK124; clear HB; have HO127 := n0_; have BK124 := n1_; have HB := n2_; clear n0_ n1_ n2_; clear hb ho8; obtain ⟨Ao9, co9, eo9⟩ := Kd.R_slice HO127.out; subst eo9) | ((with_reducible refine gate_callee (f := 40) rfl ?_); refine goesL_ (some 12) rfl rfl Try.func40 (by kernel_rfl) rfl #[.int .i64 (-4194304), .int .i64 4194304, .slice Ao9 y125.length co9] rfl (by (try simp only [List.map_toArray, List.map_cons, List.map_nil]); first | done | rfl | (simp only [List.length_drop, List.length_take]; rfl)) ?_; (with_reducible refine (field_within.calls k (-4194304) 4194304 _ _ y125 true _ ?side1 ?side2 A2.out).mono ?_); (case side1 => repeat (first | exact (Kd.R_reads' HO127.out).2.2 | (with_reducible refine Kd.C_alloc ?_ _) | (with_reducible refine Kd.C_drewN ?_ _) | (with_reducible refine Kd.C_drew ?_))); (case side2 => exact (Kd.R_reads' HO127.out).2.1); rintro e w' ⟨rfl, ⟨nd, rfl⟩⟩; refine ⟨_, rfl, ?_⟩; have hcz10_0 : w7.cell? ⟨gb124, 0, none⟩ = some (.int .i64 a0_0) := (blk_cell BK124.out 0).trans rfl; have hcz10_1 : w7.cell? ⟨gb124, 1, none⟩ = some (.int .i64 a0_1) := (blk_cell BK124.out 1).trans rfl; have hcz10_2 : w7.cell? ⟨gb124, 2, none⟩ = some (.int .i64 a0_2) := (blk_cell BK124.out 2).trans rfl; have hcz10_3 : w7.cell? ⟨gb124, 3, none⟩ = some (.int .i64 a0_3) := (blk_cell BK124.out 3).trans rfl; have hcz10_4 : w7.cell? ⟨gb124, 4, none⟩ = some (.int .i64 a0_4) := (blk_cell BK124.out 4).trans rfl; have hcz10_5 : w7.cell? ⟨gb124, 5, none⟩ = some (.int .i64 a0_5) := (blk_cell BK124.out 5).trans rfl; have hfz10_0 := blk_frozen BK124.out 0; have hfz10_1 := blk_frozen BK124.out 1; have hfz10_2 := blk_frozen BK124.out 2; have hfz10_3 := blk_frozen BK124.out 3; have hfz10_4 := blk_frozen BK124.out 4; have hfz10_5 := blk_frozen BK124.out 5) | ((with_reducible refine gate_dst (N := 18) rfl ?_); (try (refine gate_guard (by rfl) ?_; dsimp only)); refine Kd.R_lit (Kd.int .i64) _ 3 ?hg (N := 18) ?hd (xs := ([a0_4, a0_5] : List Int)) (inner := [.int .i64 a0_4, .int .i64 a0_5]) (ok := fun _ => True) (okp := fun _ => True) ?hr ?hp (fun _ hk => hk) trivial (Below.refl _ _) (Nat.le_refl _) (by simp) ?_; (case hd => rfl); (case hg => rfl); (case hr => first | (go_simp; done) | (go_simp; rfl)); (case hp => exact (Reps.one (show Kd.M (Kd.int .i64) _ _ _ a0_4 [.int .i64 a0_4] from rfl) (Reps.one (show Kd.M (Kd.int .i64) _ _ _ a0_5 [.int .i64 a0_5] from rfl) (Reps.none _ _)))); intro v130 w11 ho12 hb hg_ hnew_; clear hg_ hnew_; (first | rw [← Ny129.out] at ho12 | (simp only [Int.reduceToNat] at ho12; rw [← Ny129.out] at ho12)); have n0_ := Aside0.mk (Kd.R_elder' (by (with_reducible repeat (first | apply Kd.R_alloc | apply Kd.R_drewN | apply Kd.R_drew)); exact HO127.out) (Kd.R_base ho12) hb); have n1_ := Aside0.mk (Kd.R_lower (Kd.R_new' ho12 (Kd.R_lt (by (with_reducible repeat (first | apply Kd.R_alloc | apply Kd.R_drewN | apply Kd.R_drew)); exact HO127.out))) (below_size (by repeat (first | (with_reducible first | exact HB.out | apply below_alloc | apply pw_below_drewN | apply below_drew1 | refine below_set ?_ GE124.out) | exact HB.out)))); have n2_ := Aside0.mk (blk_below (g := gb124) (o := .cells #[.int .i64 a0_0, .int .i64 a0_1, .int .i64 a0_2, .int .i64 a0_3, .int .i64 a0_4, .int .i64 a0_5] 62 (0, 0)) (by (with_reducible repeat (first | refine blk_drewN ?_ _ | refine blk_drew ?_ | refine blk_alloc ?_ _)); exact BK124.out) hb); have n3_ := Aside0.mk (below_step (by repeat (first | (with_reducible first | exact HB.out | apply below_alloc | apply pw_below_drewN | apply below_drew1 | refine below_set ?_ GE124.out) | exact HB.out)) hb); clear HO127; clear BK124; clear HB; have HO127 := n0_; have HO131 := n1_; have BK124 := n2_; have HB := n3_; clear n0_ n1_ n2_ n3_; clear hb ho12; obtain ⟨Ao13, co13, eo13⟩ := Kd.R_slice HO131.out; subst eo13) | (go_at_call 40; (with_reducible refine (field_within.calls k (-1048576) 1048576 _ _ y129 t132 _ ?side1 ?side2 A4.out).mono ?_); (case side1 => repeat (first | exact (Kd.R_reads' HO131.out).2.2 | (with_reducible refine Kd.C_alloc ?_ _) | (with_reducible refine Kd.C_drewN ?_ _) | (with_reducible refine Kd.C_drew ?_))); (case side2 => exact (Kd.R_reads' HO131.out).2.1); rintro e w' ⟨rfl, ⟨nd, rfl⟩⟩))
    go_ret
    exact ⟨by first | rfl | (simp [errW_none, errW_some] <;> rfl) | (simp [*, errW_none, errW_some] <;> rfl), by repeat (first | (with_reducible first | exact HB.out | apply below_alloc | apply pw_below_drewN | apply below_drew1 | refine below_set ?_ GE124.out) | exact HB.out)⟩
  · replace c3 := Bool.eq_false_iff.mpr c3
    subst c3
    have H1 : (some false) = some r := by rw [if_neg (show ¬ (false = true) by decide)] at H; exact H
    clear H
    have H := H1
    clear H1
    obtain rfl := Option.some.inj H
    go_enter Try.func55, Try.ntmps55
    go_wp2_with (first | ((with_reducible refine gate_dst (N := 1) rfl ?_); (try (refine gate_guard (by rfl) ?_; dsimp only)); refine box_event ?hg (N := 1) ?hd (cs := #[.int .i64 a0_0, .int .i64 a0_1, .int .i64 a0_2, .int .i64 a0_3, .int .i64 a0_4, .int .i64 a0_5]) (t := 62) ?hr ?_; (case hd => rfl); (case hg => rfl); (case hr => first | (go_simp; done) | (go_simp; rfl)); intro gb124 hg w14 hbox hb; have n0_ := Aside0.mk (below_step (by repeat (first | (with_reducible first | exact HB.out | apply below_alloc | apply pw_below_drewN | apply below_drew1) | exact HB.out)) hb); have n1_ := Aside0.mk (hbox); have n2_ := Aside0.mk ((by rw [hg]; exact (below_size (by repeat (first | (with_reducible first | exact HB.out | apply below_alloc | apply pw_below_drewN | apply below_drew1) | exact HB.out))) : w.heap.size ≤ gb124)); have n3_ := Aside0.mk ((by rw [hg]; exact (below_size (by repeat (first | (with_reducible first | exact HB.out | apply below_alloc | apply pw_below_drewN | apply below_drew1) | exact HB.out))) : w.heap.size ≤ gb124)); clear HB; have HB := n0_; have BK124 := n1_; have GW124 := n2_; have GE124 := n3_; clear n0_ n1_ n2_ n3_; clear hb hbox hg; have hcz15_0 : w14.cell? ⟨gb124, 0, none⟩ = some (.int .i64 a0_0) := (blk_cell BK124.out 0).trans rfl; have hcz15_1 : w14.cell? ⟨gb124, 1, none⟩ = some (.int .i64 a0_1) := (blk_cell BK124.out 1).trans rfl; have hcz15_2 : w14.cell? ⟨gb124, 2, none⟩ = some (.int .i64 a0_2) := (blk_cell BK124.out 2).trans rfl; have hcz15_3 : w14.cell? ⟨gb124, 3, none⟩ = some (.int .i64 a0_3) := (blk_cell BK124.out 3).trans rfl; have hcz15_4 : w14.cell? ⟨gb124, 4, none⟩ = some (.int .i64 a0_4) := (blk_cell BK124.out 4).trans rfl; have hcz15_5 : w14.cell? ⟨gb124, 5, none⟩ = some (.int .i64 a0_5) := (blk_cell BK124.out 5).trans rfl; have hfz15_0 := blk_frozen BK124.out 0; have hfz15_1 := blk_frozen BK124.out 1; have hfz15_2 := blk_frozen BK124.out 2; have hfz15_3 := blk_frozen BK124.out 3; have hfz15_4 := blk_frozen BK124.out 4; have hfz15_5 := blk_frozen BK124.out 5) | ((with_reducible refine gate_dst (N := 11) rfl ?_); (try (refine gate_guard (by rfl) ?_; dsimp only)); refine Kd.R_lit (Kd.int .i64) _ 3 ?hg (N := 11) ?hd (xs := ([a0_0, a0_1, a0_2, a0_3] : List Int)) (inner := [.int .i64 a0_0, .int .i64 a0_1, .int .i64 a0_2, .int .i64 a0_3]) (ok := fun _ => True) (okp := fun _ => True) ?hr ?hp (fun _ hk => hk) trivial (Below.refl _ _) (Nat.le_refl _) (by simp) ?_; (case hd => rfl); (case hg => rfl); (case hr => first | (go_simp; done) | (go_simp; rfl)); (case hp => exact (Reps.one (show Kd.M (Kd.int .i64) _ _ _ a0_0 [.int .i64 a0_0] from rfl) (Reps.one (show Kd.M (Kd.int .i64) _ _ _ a0_1 [.int .i64 a0_1] from rfl) (Reps.one (show Kd.M (Kd.int .i64) _ _ _ a0_2 [.int .i64 a0_2] from rfl) (Reps.one (show Kd.M (Kd.int .i64) _ _ _ a0_3 [.int .i64 a0_3] from rfl) (Reps.none _ _)))))); intro v126 w16 ho17 hb hg_ hnew_; clear hg_ hnew_; (first | rw [← Ny125.out] at ho17 | (simp only [Int.reduceToNat] at ho17; rw [← Ny125.out] at ho17)); have n0_ := Aside0.mk (Kd.R_lower ho17 (below_size (by repeat (first | (with_reducible first | exact HB.out | apply below_alloc | apply pw_below_drewN | apply below_drew1 | refine below_set ?_ GE124.out) | exact HB.out)))); have n1_ := Aside0.mk (blk_below (g := gb124) (o := .cells #[.int .i64 a0_0, .int .i64 a0_1, .int .i64 a0_2, .int .i64 a0_3, .int .i64 a0_4, .int .i64 a0_5] 62 (0, 0)) (by (with_reducible repeat (first | refine blk_drewN ?_ _ | refine blk_drew ?_ | refine blk_alloc ?_ _)); exact BK124.out) hb); have n2_ := Aside0.mk (below_step (by repeat (first | (with_reducible first | exact HB.out | apply below_alloc | apply pw_below_drewN | apply below_drew1 | refine below_set ?_ GE124.out) | exact HB.out)) hb); clear BK124; clear HB; have HO127 := n0_; have BK124 := n1_; have HB := n2_; clear n0_ n1_ n2_; clear hb ho17; obtain ⟨Ao18, co18, eo18⟩ := Kd.R_slice HO127.out; subst eo18) | ((with_reducible refine gate_callee (f := 40) rfl ?_); refine goesL_ (some 12) rfl rfl Try.func40 (by kernel_rfl) rfl #[.int .i64 (-4194304), .int .i64 4194304, .slice Ao18 y125.length co18] rfl (by (try simp only [List.map_toArray, List.map_cons, List.map_nil]); first | done | rfl | (simp only [List.length_drop, List.length_take]; rfl)) ?_; (with_reducible refine (field_within.calls k (-4194304) 4194304 _ _ y125 false _ ?side1 ?side2 A2.out).mono ?_); (case side1 => repeat (first | exact (Kd.R_reads' HO127.out).2.2 | (with_reducible refine Kd.C_alloc ?_ _) | (with_reducible refine Kd.C_drewN ?_ _) | (with_reducible refine Kd.C_drew ?_))); (case side2 => exact (Kd.R_reads' HO127.out).2.1); rintro e w' ⟨rfl, ⟨nd, rfl⟩⟩; refine ⟨_, rfl, ?_⟩))
    go_ret
    exact ⟨by first | rfl | (simp [errW_none, errW_some] <;> rfl) | (simp [*, errW_none, errW_some] <;> rfl), by repeat (first | (with_reducible first | exact HB.out | apply below_alloc | apply pw_below_drewN | apply below_drew1 | refine below_set ?_ GE124.out) | exact HB.out)⟩

/-! ### style_gradient: function 56 -/
def style_gradient.f (a0 : Int) : Option (Bool) := if a0 = 16 then (some true) else (some (a0 == 18))
set_option maxHeartbeats 8000000 in
set_option maxRecDepth 100000 in
theorem style_gradient.calls (a0 : Int) (r : Bool) (w : World) (h : style_gradient.f a0 = some r) :
    Calls Try.prog 56 #[.int .i64 a0] w fun e w' => e = .returned (.bool r) ∧ Drawn0 w w' := by
  have H : (if a0 = 16 then (some true) else (some (a0 == 18))) = some r := h
  clear h
  by_cases c2 : a0 = 16
  · rw [if_pos c2] at H
    have c2b0 : (a0 == 16) = true := beq_iff_eq.mpr c2
    have c2b1 : (a0 != 16) = false := bne_eq_false_iff_eq.mpr c2
    clear c2
    obtain rfl := Option.some.inj H
    go_enter Try.func56, Try.ntmps56
    go_wp2
    go_ret
    exact ⟨by first | rfl | (simp; done) | (simp [*]; done), by repeat (first | exact Drawn0.refl _ | apply Drawn0.step)⟩
  · rw [if_neg c2] at H
    have c2b0 : (a0 == 16) = false := beq_eq_false_iff_ne.mpr c2
    have c2b1 : (a0 != 16) = true := bne_iff_ne.mpr c2
    obtain rfl := Option.some.inj H
    go_enter Try.func56, Try.ntmps56
    go_wp2
    go_ret
    exact ⟨by first | rfl | (simp; done) | (simp [*]; done), by repeat (first | exact Drawn0.refl _ | apply Drawn0.step)⟩

/-! ### style_stop: function 57 -/
def style_stop.f (k : Nat) (a0_0 : Int) (a0_1 : Int) (a0_2 : Int) (a0_3 : Int) (a0_4 : Int) (a1 : Int) : Option (Bool) := if a0_0 ≥ a1 then (if a0_0 ≤ 255 then ((field_RightRGBA.f k a0_1 a0_2 a0_3 a0_4).bind fun t134 => (some t134)) else (some false)) else (some false)
theorem style_stop.mono : ∀ a0 a1 a2 a3 a4 a5 k, LeO (style_stop.f k a0 a1 a2 a3 a4 a5) (style_stop.f (k + 1) a0 a1 a2 a3 a4 a5) := by
  intro a0 a1 a2 a3 a4 a5 k
  unfold style_stop.f
  repeat' first
      | (with_reducible exact field_RightRGBA.mono _ _ _ _ _)
      | (with_reducible exact LeO.refl _)
      | (with_reducible exact LeO.none _)
      | (with_reducible refine LeO.ite ?_ ?_)
      | (with_reducible refine LeO.bind ?_ (fun _ => ?_))
      | exact field_RightRGBA.mono _ _ _ _ _
      | exact LeO.none _
      | refine LeO.ite ?_ ?_
      | refine LeO.bind ?_ (fun _ => ?_)
set_option maxHeartbeats 8000000 in
set_option maxRecDepth 100000 in
theorem style_stop.calls (k : Nat) (a0_0 : Int) (a0_1 : Int) (a0_2 : Int) (a0_3 : Int) (a0_4 : Int) (a1 : Int) (r : Bool) (w : World) (h : style_stop.f k a0_0 a0_1 a0_2 a0_3 a0_4 a1 = some r) :
    Calls Try.prog 57 #[.agg #[.int .i64 a0_0, .int .i64 a0_1, .int .i64 a0_2, .int .i64 a0_3, .int .i64 a0_4], .int .i64 a1] w fun e w' => e = .returned (.bool r) ∧ Below w.heap.size w w' := by
  have hu86 := Try.underlying86
  have hu60 := Try.underlying60
  have HB := Aside0.mk (Below.refl w.heap.size w)
  have H : (if a0_0 ≥ a1 then (if a0_0 ≤ 255 then ((field_RightRGBA.f k a0_1 a0_2 a0_3 a0_4).bind fun t134 => (some t134)) else (some false)) else (some false)) = some r := h
  clear h
  by_cases c3 : a0_0 ≥ a1
  · rw [if_pos c3] at H
    have c3b0 : decide (a1 ≤ a0_0) = true := decide_eq_true c3
    clear c3
    by_cases c4 : a0_0 ≤ 255
    · rw [if_pos c4] at H
      have c4b0 : decide (a0_0 ≤ 255) = true := decide_eq_true c4
      clear c4
      replace H := Option.bind_eq_some_iff.mp H
      obtain ⟨t134, A50, H⟩ := H
      replace H : (some t134) = some r := H
      have A5 := Aside0.mk A50
      clear A50
      obtain rfl := Option.some.inj H
      go_enter Try.func57, Try.ntmps57
      go_wp2_with (first | ((with_reducible refine gate_dst (N := 2) rfl ?_); refine box_event ?hg (N := 2) ?hd (cs := #[.int .i64 a0_0, .int .i64 a0_1, .int .i64 a0_2, .int .i64 a0_3, .int .i64 a0_4]) (t := 86) ?hr ?_; (case hd => rfl); (case hg => rfl); (case hr => first | (go_simp; done) | (go_simp; rfl)); intro gb133 hg w6 hbox hb; have n0_ := Aside0.mk (below_step (by repeat (first | (with_reducible first | exact HB.out | apply below_alloc | apply pw_below_drewN | apply below_drew1) | exact HB.out)) hb); have n1_ := Aside0.mk (hbox); have n2_ := Aside0.mk ((by rw [hg]; exact (below_size (by repeat (first | (with_reducible first | exact HB.out | apply below_alloc | apply pw_below_drewN | apply below_drew1) | exact HB.out))) : w.heap.size ≤ gb133)); have n3_ := Aside0.mk ((by rw [hg]; exact (below_size (by repeat (first | (with_reducible first | exact HB.out | apply below_alloc | apply pw_below_drewN | apply below_drew1) | exact HB.out))) : w.heap.size ≤ gb133)); clear HB; have HB := n0_; have BK133 := n1_; have GW133 := n2_; have GE133 := n3_; clear n0_ n1_ n2_ n3_; clear hb hbox hg; have hcz7_0 : w6.cell? ⟨gb133, 0, none⟩ = some (.int .i64 a0_0) := (blk_cell BK133.out 0).trans rfl; have hcz7_1 : w6.cell? ⟨gb133, 1, none⟩ = some (.int .i64 a0_1) := (blk_cell BK133.out 1).trans rfl; have hcz7_2 : w6.cell? ⟨gb133, 2, none⟩ = some (.int .i64 a0_2) := (blk_cell BK133.out 2).trans rfl; have hcz7_3 : w6.cell? ⟨gb133, 3, none⟩ = some (.int .i64 a0_3) := (blk_cell BK133.out 3).trans rfl; have hcz7_4 : w6.cell? ⟨gb133, 4, none⟩ = some (.int .i64 a0_4) := (blk_cell BK133.out 4).trans rfl; have hfz7_0 := blk_frozen BK133.out 0; have hfz7_1 := blk_frozen BK133.out 1; have hfz7_2 := blk_frozen BK133.out 2; have hfz7_3 := blk_frozen BK133.out 3; have hfz7_4 := blk_frozen BK133.out 4) | (go_at_call 52; (with_reducible refine (field_RightRGBA.calls k a0_1 a0_2 a0_3 a0_4 t134 _ A5.out).mono ?_); rintro e w8 ⟨rfl, hb⟩; have n0_ := Aside0.mk (blk_below (g := gb133) (o := .cells #[.int .i64 a0_0, .int .i64 a0_1, .int .i64 a0_2, .int .i64 a0_3, .int .i64 a0_4] 86 (0, 0)) (by (with_reducible repeat (first | refine blk_drewN ?_ _ | refine blk_drew ?_ | refine blk_alloc ?_ _)); exact BK133.out) hb); have n1_ := Aside0.mk (below_step (by repeat (first | (with_reducible first | exact HB.out | apply below_alloc | apply pw_below_drewN | apply below_drew1 | refine below_set ?_ GE133.out) | exact HB.out)) hb); clear BK133; clear HB; have BK133 := n0_; have HB := n1_; clear n0_ n1_; (try clear hb); (try clear hb2); (try clear hk); (try clear hi)))
      go_ret
      exact ⟨by first | rfl | (simp [errW_none, errW_some] <;> rfl) | (simp [*, errW_none, errW_some] <;> rfl), by repeat (first | (with_reducible first | exact HB.out | apply below_alloc | apply pw_below_drewN | apply below_drew1 | refine below_set ?_ GE133.out) | exact HB.out)⟩
    · rw [if_neg c4] at H
      have c4b0 : decide (a0_0 ≤ 255) = false := decide_eq_false c4
      clear c4
      obtain rfl := Option.some.inj H
      go_enter Try.func57, Try.ntmps57
      go_wp2_with (first | ((with_reducible refine gate_dst (N := 2) rfl ?_); refine box_event ?hg (N := 2) ?hd (cs := #[.int .i64 a0_0, .int .i64 a0_1, .int .i64 a0_2, .int .i64 a0_3, .int .i64 a0_4]) (t := 86) ?hr ?_; (case hd => rfl); (case hg => rfl); (case hr => first | (go_simp; done) | (go_simp; rfl)); intro gb133 hg w9 hbox hb; have n0_ := Aside0.mk (below_step (by repeat (first | (with_reducible first | exact HB.out | apply below_alloc | apply pw_below_drewN | apply below_drew1) | exact HB.out)) hb); have n1_ := Aside0.mk (hbox); have n2_ := Aside0.mk ((by rw [hg]; exact (below_size (by repeat (first | (with_reducible first | exact HB.out | apply below_alloc | apply pw_below_drewN | apply below_drew1) | exact HB.out))) : w.heap.size ≤ gb133)); have n3_ := Aside0.mk ((by rw [hg]; exact (below_size (by repeat (first | (with_reducible first | exact HB.out | apply below_alloc | apply pw_below_drewN | apply below_drew1) | exact HB.out))) : w.heap.size ≤ gb133)); clear HB; have HB := n0_; have BK133 := n1_; have GW133 := n2_; have GE133 := n3_; clear n0_ n1_ n2_ n3_; clear hb hbox hg; have hcz10_0 : w9.cell? ⟨gb133, 0, none⟩ = some (.int .i64 a0_0) := (blk_cell BK133.out 0).trans rfl; have hcz10_1 : w9.cell? ⟨gb133, 1, none⟩ = some (.int .i64 a0_1) := (blk_cell BK133.out 1).trans rfl; have hcz10_2 : w9.cell? ⟨gb133, 2, none⟩ = some (.int .i64 a0_2) := (blk_cell BK133.out 2).trans rfl; have hcz10_3 : w9.cell? ⟨gb133, 3, none⟩ = some (.int .i64 a0_3) := (blk_cell BK133.out 3).trans rfl; have hcz10_4 : w9.cell? ⟨gb133, 4, none⟩ = some (.int .i64 a0_4) := (blk_cell BK133.out 4).trans rfl; have hfz10_0 := blk_frozen BK133.out 0; have hfz10_1 := blk_frozen BK133.out 1; have hfz10_2 := blk_frozen BK133.out 2; have hfz10_3 := blk_frozen BK133.out 3; have hfz10_4 := blk_frozen BK133.out 4))
      go_ret
      exact ⟨by first | rfl | (simp [errW_none, errW_some] <;> rfl) | (simp [*, errW_none, errW_some] <;> rfl), by repeat (first | (with_reducible first | exact HB.out | apply below_alloc | apply pw_below_drewN | apply below_drew1 | refine below_set ?_ GE133.out) | exact HB.out)⟩
  · rw [if_neg c3] at H
    have c3b0 : decide (a1 ≤ a0_0) = false := decide_eq_false c3
    clear c3
    obtain rfl := Option.some.inj H
    go_enter Try.func57, Try.ntmps57
    go_wp2_with (first | ((with_reducible refine gate_dst (N := 2) rfl ?_); refine box_event ?hg (N := 2) ?hd (cs := #[.int .i64 a0_0, .int .i64 a0_1, .int .i64 a0_2, .int .i64 a0_3, .int .i64 a0_4]) (t := 86) ?hr ?_; (case hd => rfl); (case hg => rfl); (case hr => first | (go_simp; done) | (go_simp; rfl)); intro gb133 hg w11 hbox hb; have n0_ := Aside0.mk (below_step (by repeat (first | (with_reducible first | exact HB.out | apply below_alloc | apply pw_below_drewN | apply below_drew1) | exact HB.out)) hb); have n1_ := Aside0.mk (hbox); have n2_ := Aside0.mk ((by rw [hg]; exact (below_size (by repeat (first | (with_reducible first | exact HB.out | apply below_alloc | apply pw_below_drewN | apply below_drew1) | exact HB.out))) : w.heap.size ≤ gb133)); have n3_ := Aside0.mk ((by rw [hg]; exact (below_size (by repeat (first | (with_reducible first | exact HB.out | apply below_alloc | apply pw_below_drewN | apply below_drew1) | exact HB.out))) : w.heap.size ≤ gb133)); clear HB; have HB := n0_; have BK133 := n1_; have GW133 := n2_; have GE133 := n3_; clear n0_ n1_ n2_ n3_; clear hb hbox hg; have hcz12_0 : w11.cell? ⟨gb133, 0, none⟩ = some (.int .i64 a0_0) := (blk_cell BK133.out 0).trans rfl; have hcz12_1 : w11.cell? ⟨gb133, 1, none⟩ = some (.int .i64 a0_1) := (blk_cell BK133.out 1).trans rfl; have hcz12_2 : w11.cell? ⟨gb133, 2, none⟩ = some (.int .i64 a0_2) := (blk_cell BK133.out 2).trans rfl; have hcz12_3 : w11.cell? ⟨gb133, 3, none⟩ = some (.int .i64 a0_3) := (blk_cell BK133.out 3).trans rfl; have hcz12_4 : w11.cell? ⟨gb133, 4, none⟩ = some (.int .i64 a0_4) := (blk_cell BK133.out 4).trans rfl; have hfz12_0 := blk_frozen BK133.out 0; have hfz12_1 := blk_frozen BK133.out 1; have hfz12_2 := blk_frozen BK133.out 2; have hfz12_3 := blk_frozen BK133.out 3; have hfz12_4 := blk_frozen BK133.out 4))
    go_ret
    exact ⟨by first | rfl | (simp [errW_none, errW_some] <;> rfl) | (simp [*, errW_none, errW_some] <;> rfl), by repeat (first | (with_reducible first | exact HB.out | apply below_alloc | apply pw_below_drewN | apply below_drew1 | refine below_set ?_ GE133.out) | exact HB.out)⟩

end Go.Proofs.Ytlldbmodidhidaa.P
