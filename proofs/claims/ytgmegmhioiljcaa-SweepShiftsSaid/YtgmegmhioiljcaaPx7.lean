/- Printed by printx.py (wip/tool) out of the translation: plain functions that tell what the program answers, and the proofs that the program comes to these answers, for all arguments of their kinds. Lean checks it. -/
import Derived.Test.YtgmegmhioiljcaaPx0
import Derived.Test.YtgmegmhioiljcaaPx6
namespace Go.Proofs.Ytgmegmhioiljcaa.P
open Go.RowKit Go.Proofs.YtgmegmhioiljcaaW.PrintWords Go.Proofs.YtgmegmhioiljcaaW.PrintLast Go.Proofs.YtgmegmhioiljcaaW.PrintMore
attribute [local go_sem] max2_int min2_int max_two min_two max_three min_three max_four min_four max_five min_five max_six min_six   -- for this text's walks alone
set_option linter.unusedVariables false
set_option linter.unusedSimpArgs false

/-! ### celluloidref17_Side: function 24 -/
mutual
def celluloidref17_Side.j0 : Nat → Int → Int → Bool → Int → Int → Int → Int → Int → Int → Option (Int)
  | 0, _, _, _, _, _, _, _, _, _ => none
  | k + 1, x1, x2, x18, x195000, x195001, x195002, x195003, x195004, x195005 => if x18 = true then (if (wrap64 ((wrap64 (x195000 * (wrap64 (x195003 - x195001)))) + (wrap64 ((wrap64 (x195002 - x195000)) * (wrap64 (x2 - x195001)))))) ≤ (wrap64 (x1 * (wrap64 (x195003 - x195001)))) then (some 1) else (some 0)) else (if x195003 < x2 then (celluloidref17_Side.j1 k x1 x2 (decide (x2 < x195001)) x195000 x195001 x195002 x195003 x195004 x195005) else (celluloidref17_Side.j1 k x1 x2 false x195000 x195001 x195002 x195003 x195004 x195005))
def celluloidref17_Side.j1 : Nat → Int → Int → Bool → Int → Int → Int → Int → Int → Int → Option (Int)
  | 0, _, _, _, _, _, _, _, _, _ => none
  | k + 1, x1, x2, x65, x195000, x195001, x195002, x195003, x195004, x195005 => if x65 = true then (if (wrap64 ((wrap64 (x195002 * (wrap64 (x195001 - x195003)))) + (wrap64 ((wrap64 (x195000 - x195002)) * (wrap64 (x2 - x195003)))))) ≤ (wrap64 (x1 * (wrap64 (x195001 - x195003)))) then (some (-1)) else (some 0)) else (some 0)
end
def celluloidref17_Side.f (k : Nat) (a0_0 : Int) (a0_1 : Int) (a0_2 : Int) (a0_3 : Int) (a0_4 : Int) (a0_5 : Int) (a1 : Int) (a2 : Int) : Option (Int) := if a0_1 < a2 then (celluloidref17_Side.j0 k a1 a2 (decide (a2 < a0_3)) a0_0 a0_1 a0_2 a0_3 a0_4 a0_5) else (celluloidref17_Side.j0 k a1 a2 false a0_0 a0_1 a0_2 a0_3 a0_4 a0_5)
theorem celluloidref17_Side.mono_l : ∀ k, (∀ y0 y1 y2 y3 y4 y5 y6 y7 y8, LeO (celluloidref17_Side.j0 k y0 y1 y2 y3 y4 y5 y6 y7 y8) (celluloidref17_Side.j0 (k + 1) y0 y1 y2 y3 y4 y5 y6 y7 y8)) ∧ (∀ y0 y1 y2 y3 y4 y5 y6 y7 y8, LeO (celluloidref17_Side.j1 k y0 y1 y2 y3 y4 y5 y6 y7 y8) (celluloidref17_Side.j1 (k + 1) y0 y1 y2 y3 y4 y5 y6 y7 y8))
  | 0 => ⟨fun _ _ _ _ _ _ _ _ _ r h => by simp [celluloidref17_Side.j0] at h, fun _ _ _ _ _ _ _ _ _ r h => by simp [celluloidref17_Side.j1] at h⟩
  | k + 1 => by
    obtain ⟨ih0, ih1⟩ := celluloidref17_Side.mono_l k
    refine ⟨?_, ?_⟩
    · intro y0 y1 y2 y3 y4 y5 y6 y7 y8
      unfold celluloidref17_Side.j0
      repeat' first
      | (with_reducible exact ih0 _ _ _ _ _ _ _ _ _)
      | (with_reducible exact ih1 _ _ _ _ _ _ _ _ _)
      | (with_reducible exact LeO.refl _)
      | (with_reducible exact LeO.none _)
      | (with_reducible refine LeO.ite ?_ ?_)
      | (with_reducible refine LeO.bind ?_ (fun _ => ?_))
      | exact ih0 _ _ _ _ _ _ _ _ _
      | exact ih1 _ _ _ _ _ _ _ _ _
      | exact LeO.none _
      | refine LeO.ite ?_ ?_
      | refine LeO.bind ?_ (fun _ => ?_)
    · intro y0 y1 y2 y3 y4 y5 y6 y7 y8
      unfold celluloidref17_Side.j1
      repeat' first
      | (with_reducible exact ih0 _ _ _ _ _ _ _ _ _)
      | (with_reducible exact ih1 _ _ _ _ _ _ _ _ _)
      | (with_reducible exact LeO.refl _)
      | (with_reducible exact LeO.none _)
      | (with_reducible refine LeO.ite ?_ ?_)
      | (with_reducible refine LeO.bind ?_ (fun _ => ?_))
      | exact ih0 _ _ _ _ _ _ _ _ _
      | exact ih1 _ _ _ _ _ _ _ _ _
      | exact LeO.none _
      | refine LeO.ite ?_ ?_
      | refine LeO.bind ?_ (fun _ => ?_)
theorem celluloidref17_Side.mono : ∀ a0 a1 a2 a3 a4 a5 a6 a7 k, LeO (celluloidref17_Side.f k a0 a1 a2 a3 a4 a5 a6 a7) (celluloidref17_Side.f (k + 1) a0 a1 a2 a3 a4 a5 a6 a7) := by
  intro a0 a1 a2 a3 a4 a5 a6 a7 k
  obtain ⟨ih0, ih1⟩ := celluloidref17_Side.mono_l k
  unfold celluloidref17_Side.f
  repeat' first
      | (with_reducible exact ih0 _ _ _ _ _ _ _ _ _)
      | (with_reducible exact ih1 _ _ _ _ _ _ _ _ _)
      | (with_reducible exact LeO.refl _)
      | (with_reducible exact LeO.none _)
      | (with_reducible refine LeO.ite ?_ ?_)
      | (with_reducible refine LeO.bind ?_ (fun _ => ?_))
      | exact ih0 _ _ _ _ _ _ _ _ _
      | exact ih1 _ _ _ _ _ _ _ _ _
      | exact LeO.none _
      | refine LeO.ite ?_ ?_
      | refine LeO.bind ?_ (fun _ => ?_)
set_option maxHeartbeats 8000000 in
set_option maxRecDepth 100000 in
theorem celluloidref17_Side.calls (k : Nat) (a0_0 : Int) (a0_1 : Int) (a0_2 : Int) (a0_3 : Int) (a0_4 : Int) (a0_5 : Int) (a1 : Int) (a2 : Int) (r : Int) (w : World) (h : celluloidref17_Side.f k a0_0 a0_1 a0_2 a0_3 a0_4 a0_5 a1 a2 = some r) :
    Calls Try.prog 24 #[.agg #[.int .i64 a0_0, .int .i64 a0_1, .int .i64 a0_2, .int .i64 a0_3, .int .i64 a0_4, .int .i64 a0_5], .int .i64 a1, .int .i64 a2] w fun e w' => e = .returned (.int .i64 r) ∧ Below w.heap.size w w' := by
  have hu30 := Try.underlying30
  have HB := Aside0.mk (Below.refl w.heap.size w)
  have H : (if a0_1 < a2 then (celluloidref17_Side.j0 k a1 a2 (decide (a2 < a0_3)) a0_0 a0_1 a0_2 a0_3 a0_4 a0_5) else (celluloidref17_Side.j0 k a1 a2 false a0_0 a0_1 a0_2 a0_3 a0_4 a0_5)) = some r := h
  clear h
  have HC4 := Aside0.mk H
  clear H
  go_enter Try.func24, Try.ntmps24
  go_upto_region 1 with (first | ((with_reducible refine gate_dst (N := 3) rfl ?_); refine box_event ?hg (N := 3) ?hd (cs := #[.int .i64 a0_0, .int .i64 a0_1, .int .i64 a0_2, .int .i64 a0_3, .int .i64 a0_4, .int .i64 a0_5]) (t := 30) ?hr ?_; (case hd => rfl); (case hg => rfl); (case hr => first | (go_simp; done) | (go_simp; rfl)); intro gb194 hg w5 hbox hb; have n0_ := Aside0.mk (below_step (by repeat (first | (with_reducible first | exact HB.out | apply below_alloc | apply pw_below_drewN | apply below_drew1) | exact HB.out)) hb); have n1_ := Aside0.mk (hbox); have n2_ := Aside0.mk ((by rw [hg]; exact (below_size (by repeat (first | (with_reducible first | exact HB.out | apply below_alloc | apply pw_below_drewN | apply below_drew1) | exact HB.out))) : w.heap.size ≤ gb194)); have n3_ := Aside0.mk ((by rw [hg]; exact (below_size (by repeat (first | (with_reducible first | exact HB.out | apply below_alloc | apply pw_below_drewN | apply below_drew1) | exact HB.out))) : w.heap.size ≤ gb194)); clear HB; have HB := n0_; have BK194 := n1_; have GW194 := n2_; have GE194 := n3_; clear n0_ n1_ n2_ n3_; clear hb hbox hg))
  (try simp only [Act.put, List.setIfInBounds_toArray, List.set_cons_zero, List.set_cons_succ])
  go_cut [18] (fun v18 wc => ∃ (kq : Nat) (x18_3 : Bool), v18 = .bool x18_3 ∧ Aside0 (celluloidref17_Side.j0 kq a1 a2 x18_3 a0_0 a0_1 a0_2 a0_3 a0_4 a0_5 = some r) ∧ Aside0 (kq ≤ k) ∧ Aside0 (wc.heap[gb194]? = some (.cells #[.int .i64 a0_0, .int .i64 a0_1, .int .i64 a0_2, .int .i64 a0_3, .int .i64 a0_4, .int .i64 a0_5] 30 (0, 0))) ∧ Aside0 (Below w.heap.size w wc))
  case first =>
    have H := HC4.out
    clear HC4
    by_cases c6 : a0_1 < a2
    · rw [if_pos c6] at H
      have c6b0 : decide (a0_1 < a2) = true := decide_eq_true c6
      clear c6
      (first | rw [c6b0] | (simp only [i64_w, i32_w]; rw [c6b0]) | skip)
      have H' := Aside0.mk H
      clear H
      have hcz7_0 : w5.cell? ⟨gb194, 0, none⟩ = some (.int .i64 a0_0) := (blk_cell BK194.out 0).trans rfl
      have hcz7_1 : w5.cell? ⟨gb194, 1, none⟩ = some (.int .i64 a0_1) := (blk_cell BK194.out 1).trans rfl
      have hcz7_2 : w5.cell? ⟨gb194, 2, none⟩ = some (.int .i64 a0_2) := (blk_cell BK194.out 2).trans rfl
      have hcz7_3 : w5.cell? ⟨gb194, 3, none⟩ = some (.int .i64 a0_3) := (blk_cell BK194.out 3).trans rfl
      have hcz7_4 : w5.cell? ⟨gb194, 4, none⟩ = some (.int .i64 a0_4) := (blk_cell BK194.out 4).trans rfl
      have hcz7_5 : w5.cell? ⟨gb194, 5, none⟩ = some (.int .i64 a0_5) := (blk_cell BK194.out 5).trans rfl
      have hfz7_0 := blk_frozen BK194.out 0
      have hfz7_1 := blk_frozen BK194.out 1
      have hfz7_2 := blk_frozen BK194.out 2
      have hfz7_3 := blk_frozen BK194.out 3
      have hfz7_4 := blk_frozen BK194.out 4
      have hfz7_5 := blk_frozen BK194.out 5
      go_wp2
      go_meet
      case rel => exact ⟨_, (decide (a2 < a0_3)), (by first | rfl | (simp; done) | (simp [*]; done)), H', ⟨by first | omega | exact Nat.le_refl _⟩, ⟨by (with_reducible repeat (first | refine blk_drewN ?_ _ | refine blk_drew ?_ | refine blk_alloc ?_ _)); exact BK194.out⟩, ⟨by repeat (first | (with_reducible first | exact HB.out | apply below_alloc | apply pw_below_drewN | apply below_drew1 | refine below_set ?_ GE194.out) | exact HB.out)⟩⟩
    · rw [if_neg c6] at H
      have c6b0 : decide (a0_1 < a2) = false := decide_eq_false c6
      clear c6
      (first | rw [c6b0] | (simp only [i64_w, i32_w]; rw [c6b0]) | skip)
      have H' := Aside0.mk H
      clear H
      have hcz8_0 : w5.cell? ⟨gb194, 0, none⟩ = some (.int .i64 a0_0) := (blk_cell BK194.out 0).trans rfl
      have hcz8_1 : w5.cell? ⟨gb194, 1, none⟩ = some (.int .i64 a0_1) := (blk_cell BK194.out 1).trans rfl
      have hcz8_2 : w5.cell? ⟨gb194, 2, none⟩ = some (.int .i64 a0_2) := (blk_cell BK194.out 2).trans rfl
      have hcz8_3 : w5.cell? ⟨gb194, 3, none⟩ = some (.int .i64 a0_3) := (blk_cell BK194.out 3).trans rfl
      have hcz8_4 : w5.cell? ⟨gb194, 4, none⟩ = some (.int .i64 a0_4) := (blk_cell BK194.out 4).trans rfl
      have hcz8_5 : w5.cell? ⟨gb194, 5, none⟩ = some (.int .i64 a0_5) := (blk_cell BK194.out 5).trans rfl
      have hfz8_0 := blk_frozen BK194.out 0
      have hfz8_1 := blk_frozen BK194.out 1
      have hfz8_2 := blk_frozen BK194.out 2
      have hfz8_3 := blk_frozen BK194.out 3
      have hfz8_4 := blk_frozen BK194.out 4
      have hfz8_5 := blk_frozen BK194.out 5
      go_wp2
      go_meet
      case rel => exact ⟨_, (false), (by first | rfl | (simp; done) | (simp [*]; done)), H', ⟨by first | omega | exact Nat.le_refl _⟩, ⟨by (with_reducible repeat (first | refine blk_drewN ?_ _ | refine blk_drew ?_ | refine blk_alloc ?_ _)); exact BK194.out⟩, ⟨by repeat (first | (with_reducible first | exact HB.out | apply below_alloc | apply pw_below_drewN | apply below_drew1 | refine below_set ?_ GE194.out) | exact HB.out)⟩⟩
  case rest =>
    clear HC4
    try clear c2
    try clear p2
    try clear c6
    try clear c6b0
    try clear hcz7_0
    try clear hcz7_1
    try clear hcz7_2
    try clear hcz7_3
    try clear hcz7_4
    try clear hcz7_5
    try clear hcz8_0
    try clear hcz8_1
    try clear hcz8_2
    try clear hcz8_3
    try clear hcz8_4
    try clear hcz8_5
    try clear hfz7_0
    try clear hfz7_1
    try clear hfz7_2
    try clear hfz7_3
    try clear hfz7_4
    try clear hfz7_5
    try clear hfz8_0
    try clear hfz8_1
    try clear hfz8_2
    try clear hfz8_3
    try clear hfz8_4
    try clear hfz8_5
    obtain ⟨kq, x18_3, rfl, HA, HJ3, BK194, HB⟩ := hcut
    cases kq with
    | zero => exact absurd HA.out (by simp [celluloidref17_Side.j0])
    | succ kj3 =>
      have H := HA.out
      clear HA
      simp only [celluloidref17_Side.j0] at H
      by_cases c9 : x18_3 = true
      · subst c9
        have H1 : (if (wrap64 ((wrap64 (a0_0 * (wrap64 (a0_3 - a0_1)))) + (wrap64 ((wrap64 (a0_2 - a0_0)) * (wrap64 (a2 - a0_1)))))) ≤ (wrap64 (a1 * (wrap64 (a0_3 - a0_1)))) then (some 1) else (some 0)) = some r := by rw [if_pos rfl] at H; exact H
        clear H
        have H := H1
        clear H1
        by_cases c10 : (wrap64 ((wrap64 (a0_0 * (wrap64 (a0_3 - a0_1)))) + (wrap64 ((wrap64 (a0_2 - a0_0)) * (wrap64 (a2 - a0_1)))))) ≤ (wrap64 (a1 * (wrap64 (a0_3 - a0_1))))
        · rw [if_pos c10] at H
          have c10b0 : decide ((wrap64 ((wrap64 (a0_0 * (wrap64 (a0_3 - a0_1)))) + (wrap64 ((wrap64 (a0_2 - a0_0)) * (wrap64 (a2 - a0_1)))))) ≤ (wrap64 (a1 * (wrap64 (a0_3 - a0_1))))) = true := decide_eq_true c10
          clear c10
          obtain rfl := Option.some.inj H
          have hcz11_0 : wc.cell? ⟨gb194, 0, none⟩ = some (.int .i64 a0_0) := (blk_cell BK194.out 0).trans rfl
          have hcz11_1 : wc.cell? ⟨gb194, 1, none⟩ = some (.int .i64 a0_1) := (blk_cell BK194.out 1).trans rfl
          have hcz11_2 : wc.cell? ⟨gb194, 2, none⟩ = some (.int .i64 a0_2) := (blk_cell BK194.out 2).trans rfl
          have hcz11_3 : wc.cell? ⟨gb194, 3, none⟩ = some (.int .i64 a0_3) := (blk_cell BK194.out 3).trans rfl
          have hcz11_4 : wc.cell? ⟨gb194, 4, none⟩ = some (.int .i64 a0_4) := (blk_cell BK194.out 4).trans rfl
          have hcz11_5 : wc.cell? ⟨gb194, 5, none⟩ = some (.int .i64 a0_5) := (blk_cell BK194.out 5).trans rfl
          have hfz11_0 := blk_frozen BK194.out 0
          have hfz11_1 := blk_frozen BK194.out 1
          have hfz11_2 := blk_frozen BK194.out 2
          have hfz11_3 := blk_frozen BK194.out 3
          have hfz11_4 := blk_frozen BK194.out 4
          have hfz11_5 := blk_frozen BK194.out 5
          go_wp2
          go_ret
          exact ⟨by first | rfl | (simp [errW_none, errW_some] <;> rfl) | (simp [*, errW_none, errW_some] <;> rfl), by repeat (first | (with_reducible first | exact HB.out | apply below_alloc | apply pw_below_drewN | apply below_drew1 | refine below_set ?_ GE194.out) | exact HB.out)⟩
        · rw [if_neg c10] at H
          have c10b0 : decide ((wrap64 ((wrap64 (a0_0 * (wrap64 (a0_3 - a0_1)))) + (wrap64 ((wrap64 (a0_2 - a0_0)) * (wrap64 (a2 - a0_1)))))) ≤ (wrap64 (a1 * (wrap64 (a0_3 - a0_1))))) = false := decide_eq_false c10
          clear c10
          obtain rfl := Option.some.inj H
          have hcz12_0 : wc.cell? ⟨gb194, 0, none⟩ = some (.int .i64 a0_0) := (blk_cell BK194.out 0).trans rfl
          have hcz12_1 : wc.cell? ⟨gb194, 1, none⟩ = some (.int .i64 a0_1) := (blk_cell BK194.out 1).trans rfl
          have hcz12_2 : wc.cell? ⟨gb194, 2, none⟩ = some (.int .i64 a0_2) := (blk_cell BK194.out 2).trans rfl
          have hcz12_3 : wc.cell? ⟨gb194, 3, none⟩ = some (.int .i64 a0_3) := (blk_cell BK194.out 3).trans rfl
          have hcz12_4 : wc.cell? ⟨gb194, 4, none⟩ = some (.int .i64 a0_4) := (blk_cell BK194.out 4).trans rfl
          have hcz12_5 : wc.cell? ⟨gb194, 5, none⟩ = some (.int .i64 a0_5) := (blk_cell BK194.out 5).trans rfl
          have hfz12_0 := blk_frozen BK194.out 0
          have hfz12_1 := blk_frozen BK194.out 1
          have hfz12_2 := blk_frozen BK194.out 2
          have hfz12_3 := blk_frozen BK194.out 3
          have hfz12_4 := blk_frozen BK194.out 4
          have hfz12_5 := blk_frozen BK194.out 5
          go_wp2
          go_ret
          exact ⟨by first | rfl | (simp [errW_none, errW_some] <;> rfl) | (simp [*, errW_none, errW_some] <;> rfl), by repeat (first | (with_reducible first | exact HB.out | apply below_alloc | apply pw_below_drewN | apply below_drew1 | refine below_set ?_ GE194.out) | exact HB.out)⟩
      · replace c9 := Bool.eq_false_iff.mpr c9
        subst c9
        have H1 : (if a0_3 < a2 then (celluloidref17_Side.j1 kj3 a1 a2 (decide (a2 < a0_1)) a0_0 a0_1 a0_2 a0_3 a0_4 a0_5) else (celluloidref17_Side.j1 kj3 a1 a2 false a0_0 a0_1 a0_2 a0_3 a0_4 a0_5)) = some r := by rw [if_neg (show ¬ (false = true) by decide)] at H; exact H
        clear H
        have H := H1
        clear H1
        have HC13 := Aside0.mk H
        clear H
        go_upto_region 5 with (fail)
        go_cut [65] (fun v65 wc => ∃ (kq : Nat) (x65_12 : Bool), v65 = .bool x65_12 ∧ Aside0 (celluloidref17_Side.j1 kq a1 a2 x65_12 a0_0 a0_1 a0_2 a0_3 a0_4 a0_5 = some r) ∧ Aside0 (kq ≤ kj3) ∧ Aside0 (wc.heap[gb194]? = some (.cells #[.int .i64 a0_0, .int .i64 a0_1, .int .i64 a0_2, .int .i64 a0_3, .int .i64 a0_4, .int .i64 a0_5] 30 (0, 0))) ∧ Aside0 (Below w.heap.size w wc))
        case first =>
          have H := HC13.out
          clear HC13
          by_cases c14 : a0_3 < a2
          · rw [if_pos c14] at H
            have c14b0 : decide (a0_3 < a2) = true := decide_eq_true c14
            clear c14
            (first | rw [c14b0] | (simp only [i64_w, i32_w]; rw [c14b0]) | skip)
            have H' := Aside0.mk H
            clear H
            have hcz15_0 : wc.cell? ⟨gb194, 0, none⟩ = some (.int .i64 a0_0) := (blk_cell BK194.out 0).trans rfl
            have hcz15_1 : wc.cell? ⟨gb194, 1, none⟩ = some (.int .i64 a0_1) := (blk_cell BK194.out 1).trans rfl
            have hcz15_2 : wc.cell? ⟨gb194, 2, none⟩ = some (.int .i64 a0_2) := (blk_cell BK194.out 2).trans rfl
            have hcz15_3 : wc.cell? ⟨gb194, 3, none⟩ = some (.int .i64 a0_3) := (blk_cell BK194.out 3).trans rfl
            have hcz15_4 : wc.cell? ⟨gb194, 4, none⟩ = some (.int .i64 a0_4) := (blk_cell BK194.out 4).trans rfl
            have hcz15_5 : wc.cell? ⟨gb194, 5, none⟩ = some (.int .i64 a0_5) := (blk_cell BK194.out 5).trans rfl
            have hfz15_0 := blk_frozen BK194.out 0
            have hfz15_1 := blk_frozen BK194.out 1
            have hfz15_2 := blk_frozen BK194.out 2
            have hfz15_3 := blk_frozen BK194.out 3
            have hfz15_4 := blk_frozen BK194.out 4
            have hfz15_5 := blk_frozen BK194.out 5
            go_wp2
            go_meet
            case rel => exact ⟨_, (decide (a2 < a0_1)), (by first | rfl | (simp; done) | (simp [*]; done)), H', ⟨by have := HJ3.out; first | omega | exact Nat.le_refl _⟩, ⟨by (with_reducible repeat (first | refine blk_drewN ?_ _ | refine blk_drew ?_ | refine blk_alloc ?_ _)); exact BK194.out⟩, ⟨by repeat (first | (with_reducible first | exact HB.out | apply below_alloc | apply pw_below_drewN | apply below_drew1 | refine below_set ?_ GE194.out) | exact HB.out)⟩⟩
          · rw [if_neg c14] at H
            have c14b0 : decide (a0_3 < a2) = false := decide_eq_false c14
            clear c14
            (first | rw [c14b0] | (simp only [i64_w, i32_w]; rw [c14b0]) | skip)
            have H' := Aside0.mk H
            clear H
            have hcz16_0 : wc.cell? ⟨gb194, 0, none⟩ = some (.int .i64 a0_0) := (blk_cell BK194.out 0).trans rfl
            have hcz16_1 : wc.cell? ⟨gb194, 1, none⟩ = some (.int .i64 a0_1) := (blk_cell BK194.out 1).trans rfl
            have hcz16_2 : wc.cell? ⟨gb194, 2, none⟩ = some (.int .i64 a0_2) := (blk_cell BK194.out 2).trans rfl
            have hcz16_3 : wc.cell? ⟨gb194, 3, none⟩ = some (.int .i64 a0_3) := (blk_cell BK194.out 3).trans rfl
            have hcz16_4 : wc.cell? ⟨gb194, 4, none⟩ = some (.int .i64 a0_4) := (blk_cell BK194.out 4).trans rfl
            have hcz16_5 : wc.cell? ⟨gb194, 5, none⟩ = some (.int .i64 a0_5) := (blk_cell BK194.out 5).trans rfl
            have hfz16_0 := blk_frozen BK194.out 0
            have hfz16_1 := blk_frozen BK194.out 1
            have hfz16_2 := blk_frozen BK194.out 2
            have hfz16_3 := blk_frozen BK194.out 3
            have hfz16_4 := blk_frozen BK194.out 4
            have hfz16_5 := blk_frozen BK194.out 5
            go_wp2
            go_meet
            case rel => exact ⟨_, (false), (by first | rfl | (simp; done) | (simp [*]; done)), H', ⟨by have := HJ3.out; first | omega | exact Nat.le_refl _⟩, ⟨by (with_reducible repeat (first | refine blk_drewN ?_ _ | refine blk_drew ?_ | refine blk_alloc ?_ _)); exact BK194.out⟩, ⟨by repeat (first | (with_reducible first | exact HB.out | apply below_alloc | apply pw_below_drewN | apply below_drew1 | refine below_set ?_ GE194.out) | exact HB.out)⟩⟩
        case rest =>
          clear HC13
          try clear c1
          try clear c2
          try clear p2
          try clear c6
          try clear c6b0
          try clear p6
          try clear c9
          try clear c10
          try clear c10b0
          try clear c14
          try clear c14b0
          try clear hcz11_0
          try clear hcz11_1
          try clear hcz11_2
          try clear hcz11_3
          try clear hcz11_4
          try clear hcz11_5
          try clear hcz12_0
          try clear hcz12_1
          try clear hcz12_2
          try clear hcz12_3
          try clear hcz12_4
          try clear hcz12_5
          try clear hcz15_0
          try clear hcz15_1
          try clear hcz15_2
          try clear hcz15_3
          try clear hcz15_4
          try clear hcz15_5
          try clear hcz16_0
          try clear hcz16_1
          try clear hcz16_2
          try clear hcz16_3
          try clear hcz16_4
          try clear hcz16_5
          try clear hcz7_0
          try clear hcz7_1
          try clear hcz7_2
          try clear hcz7_3
          try clear hcz7_4
          try clear hcz7_5
          try clear hcz8_0
          try clear hcz8_1
          try clear hcz8_2
          try clear hcz8_3
          try clear hcz8_4
          try clear hcz8_5
          try clear hfz11_0
          try clear hfz11_1
          try clear hfz11_2
          try clear hfz11_3
          try clear hfz11_4
          try clear hfz11_5
          try clear hfz12_0
          try clear hfz12_1
          try clear hfz12_2
          try clear hfz12_3
          try clear hfz12_4
          try clear hfz12_5
          try clear hfz15_0
          try clear hfz15_1
          try clear hfz15_2
          try clear hfz15_3
          try clear hfz15_4
          try clear hfz15_5
          try clear hfz16_0
          try clear hfz16_1
          try clear hfz16_2
          try clear hfz16_3
          try clear hfz16_4
          try clear hfz16_5
          try clear hfz7_0
          try clear hfz7_1
          try clear hfz7_2
          try clear hfz7_3
          try clear hfz7_4
          try clear hfz7_5
          try clear hfz8_0
          try clear hfz8_1
          try clear hfz8_2
          try clear hfz8_3
          try clear hfz8_4
          try clear hfz8_5
          try clear p2
          obtain ⟨kq, x65_12, rfl, HA, HJ12, BK194, HB⟩ := hcut
          cases kq with
          | zero => exact absurd HA.out (by simp [celluloidref17_Side.j1])
          | succ kj12 =>
            have H := HA.out
            clear HA
            simp only [celluloidref17_Side.j1] at H
            by_cases c17 : x65_12 = true
            · subst c17
              have H1 : (if (wrap64 ((wrap64 (a0_2 * (wrap64 (a0_1 - a0_3)))) + (wrap64 ((wrap64 (a0_0 - a0_2)) * (wrap64 (a2 - a0_3)))))) ≤ (wrap64 (a1 * (wrap64 (a0_1 - a0_3)))) then (some (-1)) else (some 0)) = some r := by rw [if_pos rfl] at H; exact H
              clear H
              have H := H1
              clear H1
              by_cases c18 : (wrap64 ((wrap64 (a0_2 * (wrap64 (a0_1 - a0_3)))) + (wrap64 ((wrap64 (a0_0 - a0_2)) * (wrap64 (a2 - a0_3)))))) ≤ (wrap64 (a1 * (wrap64 (a0_1 - a0_3))))
              · rw [if_pos c18] at H
                have c18b0 : decide ((wrap64 ((wrap64 (a0_2 * (wrap64 (a0_1 - a0_3)))) + (wrap64 ((wrap64 (a0_0 - a0_2)) * (wrap64 (a2 - a0_3)))))) ≤ (wrap64 (a1 * (wrap64 (a0_1 - a0_3))))) = true := decide_eq_true c18
                clear c18
                obtain rfl := Option.some.inj H
                have hcz19_0 : wc.cell? ⟨gb194, 0, none⟩ = some (.int .i64 a0_0) := (blk_cell BK194.out 0).trans rfl
                have hcz19_1 : wc.cell? ⟨gb194, 1, none⟩ = some (.int .i64 a0_1) := (blk_cell BK194.out 1).trans rfl
                have hcz19_2 : wc.cell? ⟨gb194, 2, none⟩ = some (.int .i64 a0_2) := (blk_cell BK194.out 2).trans rfl
                have hcz19_3 : wc.cell? ⟨gb194, 3, none⟩ = some (.int .i64 a0_3) := (blk_cell BK194.out 3).trans rfl
                have hcz19_4 : wc.cell? ⟨gb194, 4, none⟩ = some (.int .i64 a0_4) := (blk_cell BK194.out 4).trans rfl
                have hcz19_5 : wc.cell? ⟨gb194, 5, none⟩ = some (.int .i64 a0_5) := (blk_cell BK194.out 5).trans rfl
                have hfz19_0 := blk_frozen BK194.out 0
                have hfz19_1 := blk_frozen BK194.out 1
                have hfz19_2 := blk_frozen BK194.out 2
                have hfz19_3 := blk_frozen BK194.out 3
                have hfz19_4 := blk_frozen BK194.out 4
                have hfz19_5 := blk_frozen BK194.out 5
                go_wp2
                go_ret
                exact ⟨by first | rfl | (simp [errW_none, errW_some] <;> rfl) | (simp [*, errW_none, errW_some] <;> rfl), by repeat (first | (with_reducible first | exact HB.out | apply below_alloc | apply pw_below_drewN | apply below_drew1 | refine below_set ?_ GE194.out) | exact HB.out)⟩
              · rw [if_neg c18] at H
                have c18b0 : decide ((wrap64 ((wrap64 (a0_2 * (wrap64 (a0_1 - a0_3)))) + (wrap64 ((wrap64 (a0_0 - a0_2)) * (wrap64 (a2 - a0_3)))))) ≤ (wrap64 (a1 * (wrap64 (a0_1 - a0_3))))) = false := decide_eq_false c18
                clear c18
                obtain rfl := Option.some.inj H
                have hcz20_0 : wc.cell? ⟨gb194, 0, none⟩ = some (.int .i64 a0_0) := (blk_cell BK194.out 0).trans rfl
                have hcz20_1 : wc.cell? ⟨gb194, 1, none⟩ = some (.int .i64 a0_1) := (blk_cell BK194.out 1).trans rfl
                have hcz20_2 : wc.cell? ⟨gb194, 2, none⟩ = some (.int .i64 a0_2) := (blk_cell BK194.out 2).trans rfl
                have hcz20_3 : wc.cell? ⟨gb194, 3, none⟩ = some (.int .i64 a0_3) := (blk_cell BK194.out 3).trans rfl
                have hcz20_4 : wc.cell? ⟨gb194, 4, none⟩ = some (.int .i64 a0_4) := (blk_cell BK194.out 4).trans rfl
                have hcz20_5 : wc.cell? ⟨gb194, 5, none⟩ = some (.int .i64 a0_5) := (blk_cell BK194.out 5).trans rfl
                have hfz20_0 := blk_frozen BK194.out 0
                have hfz20_1 := blk_frozen BK194.out 1
                have hfz20_2 := blk_frozen BK194.out 2
                have hfz20_3 := blk_frozen BK194.out 3
                have hfz20_4 := blk_frozen BK194.out 4
                have hfz20_5 := blk_frozen BK194.out 5
                go_wp2
                go_ret
                exact ⟨by first | rfl | (simp [errW_none, errW_some] <;> rfl) | (simp [*, errW_none, errW_some] <;> rfl), by repeat (first | (with_reducible first | exact HB.out | apply below_alloc | apply pw_below_drewN | apply below_drew1 | refine below_set ?_ GE194.out) | exact HB.out)⟩
            · replace c17 := Bool.eq_false_iff.mpr c17
              subst c17
              have H1 : (some 0) = some r := by rw [if_neg (show ¬ (false = true) by decide)] at H; exact H
              clear H
              have H := H1
              clear H1
              obtain rfl := Option.some.inj H
              go_wp2
              go_ret
              exact ⟨by first | rfl | (simp [errW_none, errW_some] <;> rfl) | (simp [*, errW_none, errW_some] <;> rfl), by repeat (first | (with_reducible first | exact HB.out | apply below_alloc | apply pw_below_drewN | apply below_drew1 | refine below_set ?_ GE194.out) | exact HB.out)⟩

/-! ### celluloidref17_Wound: function 14 -/
def celluloidref17_Wound.l0 : Nat → List (S30) → Int → Int → Int → Int → Int → Option (Int)
  | 0, _, _, _, _, _, _ => none
  | k + 1, x0, x1, x2, x3, x9, x10 => if x10 < (x0.length : Int) then (if 0 ≤ x10 then ((celluloidref17_Right.f k ((rd_T30 x0 x10).f0.f0) ((rd_T30 x0 x10).f0.f1) ((rd_T30 x0 x10).f1.f0) ((rd_T30 x0 x10).f1.f1) ((rd_T30 x0 x10).f2) ((rd_T30 x0 x10).f3)).bind fun t196 => (if t196 = true then ((celluloidref17_Side.f k ((rd_T30 x0 x10).f0.f0) ((rd_T30 x0 x10).f0.f1) ((rd_T30 x0 x10).f1.f0) ((rd_T30 x0 x10).f1.f1) ((rd_T30 x0 x10).f2) ((rd_T30 x0 x10).f3) x2 x3).bind fun t198 => (if ((rd_T30 x0 x10).f2) = x1 then (if ((rd_T30 x0 x10).f3) = x1 then (celluloidref17_Wound.l0 k x0 x1 x2 x3 (wrap64 ((wrap64 (x9 + t198)) - t198)) (wrap64 (x10 + 1))) else (celluloidref17_Wound.l0 k x0 x1 x2 x3 (wrap64 (x9 + t198)) (wrap64 (x10 + 1)))) else (if ((rd_T30 x0 x10).f3) = x1 then (celluloidref17_Wound.l0 k x0 x1 x2 x3 (wrap64 (x9 - t198)) (wrap64 (x10 + 1))) else (celluloidref17_Wound.l0 k x0 x1 x2 x3 x9 (wrap64 (x10 + 1)))))) else (celluloidref17_Wound.l0 k x0 x1 x2 x3 x9 (wrap64 (x10 + 1))))) else (none)) else (some x9)
def celluloidref17_Wound.f (k : Nat) (l0 : List (S30)) (a1 : Int) (a2 : Int) (a3 : Int) : Option (Int) := celluloidref17_Wound.l0 k l0 a1 a2 a3 0 0
theorem celluloidref17_Wound.mono_l : ∀ k, (∀ y0 y1 y2 y3 y4 y5, LeO (celluloidref17_Wound.l0 k y0 y1 y2 y3 y4 y5) (celluloidref17_Wound.l0 (k + 1) y0 y1 y2 y3 y4 y5))
  | 0 => fun _ _ _ _ _ _ r h => by simp [celluloidref17_Wound.l0] at h
  | k + 1 => by
    have ih0 := celluloidref17_Wound.mono_l k
    · intro y0 y1 y2 y3 y4 y5
      unfold celluloidref17_Wound.l0
      repeat' first
      | (with_reducible exact ih0 _ _ _ _ _ _)
      | (with_reducible exact celluloidref17_Right.mono _ _ _ _ _ _ _)
      | (with_reducible exact celluloidref17_Side.mono _ _ _ _ _ _ _ _ _)
      | (with_reducible exact LeO.refl _)
      | (with_reducible exact LeO.none _)
      | (with_reducible refine LeO.ite ?_ ?_)
      | (with_reducible refine LeO.bind ?_ (fun _ => ?_))
      | exact ih0 _ _ _ _ _ _
      | exact celluloidref17_Right.mono _ _ _ _ _ _ _
      | exact celluloidref17_Side.mono _ _ _ _ _ _ _ _ _
      | exact LeO.none _
      | refine LeO.ite ?_ ?_
      | refine LeO.bind ?_ (fun _ => ?_)
theorem celluloidref17_Wound.mono : ∀ a0 a1 a2 a3 k, LeO (celluloidref17_Wound.f k a0 a1 a2 a3) (celluloidref17_Wound.f (k + 1) a0 a1 a2 a3) := by
  intro a0 a1 a2 a3 k
  have ih0 := celluloidref17_Wound.mono_l k
  unfold celluloidref17_Wound.f
  repeat' first
      | (with_reducible exact ih0 _ _ _ _ _ _)
      | (with_reducible exact celluloidref17_Right.mono _ _ _ _ _ _ _)
      | (with_reducible exact celluloidref17_Side.mono _ _ _ _ _ _ _ _ _)
      | (with_reducible exact LeO.refl _)
      | (with_reducible exact LeO.none _)
      | (with_reducible refine LeO.ite ?_ ?_)
      | (with_reducible refine LeO.bind ?_ (fun _ => ?_))
      | exact ih0 _ _ _ _ _ _
      | exact celluloidref17_Right.mono _ _ _ _ _ _ _
      | exact celluloidref17_Side.mono _ _ _ _ _ _ _ _ _
      | exact LeO.none _
      | refine LeO.ite ?_ ?_
      | refine LeO.bind ?_ (fun _ => ?_)
set_option maxHeartbeats 8000000 in
set_option maxRecDepth 100000 in
theorem celluloidref17_Wound.calls (k : Nat) (A0 : Option Addr) (c0 : Nat) (l0 : List (S30)) (a1 : Int) (a2 : Int) (a3 : Int) (r : Int) (w : World) (hr0 : Kd.C k30 w A0 l0.length l0) (hc0 : l0.length ≤ c0) (h : celluloidref17_Wound.f k l0 a1 a2 a3 = some r) :
    Calls Try.prog 14 #[.slice A0 l0.length c0, .int .i64 a1, .int .i64 a2, .int .i64 a3] w fun e w' => e = .returned (.int .i64 r) ∧ Below w.heap.size w w' := by
  have hu30 := Try.underlying30
  have HR0 := Aside0.mk hr0
  have HC0 := Aside0.mk hc0
  clear hr0 hc0
  have HB := Aside0.mk (Below.refl w.heap.size w)
  have H : (celluloidref17_Wound.l0 k l0 a1 a2 a3 0 0) = some r := h
  clear h
  have H' := Aside0.mk H
  clear H
  go_enter Try.func14, Try.ntmps14
  go_wp2
  go_loopg [9, 10] k (fun kq v9 v10 w' => ∃ (x9_1 : Int) (x10_1 : Int), v9 = .int .i64 x9_1 ∧ v10 = .int .i64 x10_1 ∧ Aside0 (celluloidref17_Wound.l0 kq l0 a1 a2 a3 x9_1 x10_1 = some r) ∧ Aside0 (kq ≤ k) ∧ Aside0 (Below w.heap.size w w'))
  case atStart => exact ⟨(0), (0), (by first | rfl | (simp; done) | (simp [*]; done)), (by first | rfl | (simp; done) | (simp [*]; done)), H', ⟨Nat.le_refl _⟩, ⟨by repeat (first | (with_reducible first | exact HB.out | apply below_alloc | apply pw_below_drewN | apply below_drew1) | exact HB.out)⟩⟩
  case round =>
    clear H'
    try clear c1
    try clear p2
    obtain ⟨x9_1, x10_1, rfl, rfl, HA, HK1, HB⟩ := hrel
    cases gk with
    | zero => exact absurd HA.out (by simp [celluloidref17_Wound.l0])
    | succ k1 =>
      have H := HA.out
      clear HA
      simp only [celluloidref17_Wound.l0] at H
      by_cases c5 : x10_1 < (l0.length : Int)
      · rw [if_pos c5] at H
        have c5b0 : decide (x10_1 < (l0.length : Int)) = true := decide_eq_true c5
        clear c5
        by_cases c6 : 0 ≤ x10_1
        · rw [if_pos c6] at H
          have c6b0 : decide (0 ≤ x10_1) = true := decide_eq_true c6
          clear c6
          replace H := Option.bind_eq_some_iff.mp H
          obtain ⟨t196, A70, H⟩ := H
          replace H : (if t196 = true then ((celluloidref17_Side.f k1 ((rd_T30 l0 x10_1).f0.f0) ((rd_T30 l0 x10_1).f0.f1) ((rd_T30 l0 x10_1).f1.f0) ((rd_T30 l0 x10_1).f1.f1) ((rd_T30 l0 x10_1).f2) ((rd_T30 l0 x10_1).f3) a2 a3).bind fun t198 => (if ((rd_T30 l0 x10_1).f2) = a1 then (if ((rd_T30 l0 x10_1).f3) = a1 then (celluloidref17_Wound.l0 k1 l0 a1 a2 a3 (wrap64 ((wrap64 (x9_1 + t198)) - t198)) (wrap64 (x10_1 + 1))) else (celluloidref17_Wound.l0 k1 l0 a1 a2 a3 (wrap64 (x9_1 + t198)) (wrap64 (x10_1 + 1)))) else (if ((rd_T30 l0 x10_1).f3) = a1 then (celluloidref17_Wound.l0 k1 l0 a1 a2 a3 (wrap64 (x9_1 - t198)) (wrap64 (x10_1 + 1))) else (celluloidref17_Wound.l0 k1 l0 a1 a2 a3 x9_1 (wrap64 (x10_1 + 1)))))) else (celluloidref17_Wound.l0 k1 l0 a1 a2 a3 x9_1 (wrap64 (x10_1 + 1)))) = some r := H
          have A7 := Aside0.mk A70
          clear A70
          by_cases c8 : t196 = true
          · subst c8
            have H1 : ((celluloidref17_Side.f k1 ((rd_T30 l0 x10_1).f0.f0) ((rd_T30 l0 x10_1).f0.f1) ((rd_T30 l0 x10_1).f1.f0) ((rd_T30 l0 x10_1).f1.f1) ((rd_T30 l0 x10_1).f2) ((rd_T30 l0 x10_1).f3) a2 a3).bind fun t198 => (if ((rd_T30 l0 x10_1).f2) = a1 then (if ((rd_T30 l0 x10_1).f3) = a1 then (celluloidref17_Wound.l0 k1 l0 a1 a2 a3 (wrap64 ((wrap64 (x9_1 + t198)) - t198)) (wrap64 (x10_1 + 1))) else (celluloidref17_Wound.l0 k1 l0 a1 a2 a3 (wrap64 (x9_1 + t198)) (wrap64 (x10_1 + 1)))) else (if ((rd_T30 l0 x10_1).f3) = a1 then (celluloidref17_Wound.l0 k1 l0 a1 a2 a3 (wrap64 (x9_1 - t198)) (wrap64 (x10_1 + 1))) else (celluloidref17_Wound.l0 k1 l0 a1 a2 a3 x9_1 (wrap64 (x10_1 + 1)))))) = some r := by rw [if_pos rfl] at H; exact H
            clear H
            have H := H1
            clear H1
            replace H := Option.bind_eq_some_iff.mp H
            obtain ⟨t198, A90, H⟩ := H
            replace H : (if ((rd_T30 l0 x10_1).f2) = a1 then (if ((rd_T30 l0 x10_1).f3) = a1 then (celluloidref17_Wound.l0 k1 l0 a1 a2 a3 (wrap64 ((wrap64 (x9_1 + t198)) - t198)) (wrap64 (x10_1 + 1))) else (celluloidref17_Wound.l0 k1 l0 a1 a2 a3 (wrap64 (x9_1 + t198)) (wrap64 (x10_1 + 1)))) else (if ((rd_T30 l0 x10_1).f3) = a1 then (celluloidref17_Wound.l0 k1 l0 a1 a2 a3 (wrap64 (x9_1 - t198)) (wrap64 (x10_1 + 1))) else (celluloidref17_Wound.l0 k1 l0 a1 a2 a3 x9_1 (wrap64 (x10_1 + 1))))) = some r := H
            have A9 := Aside0.mk A90
            clear A90
            by_cases c10 : ((rd_T30 l0 x10_1).f2) = a1
            · rw [if_pos c10] at H
              have c10b0 : (((rd_T30 l0 x10_1).f2) == a1) = true := beq_iff_eq.mpr c10
              have c10b1 : (((rd_T30 l0 x10_1).f2) != a1) = false := bne_eq_false_iff_eq.mpr c10
              clear c10
              by_cases c11 : ((rd_T30 l0 x10_1).f3) = a1
              · rw [if_pos c11] at H
                have c11b0 : (((rd_T30 l0 x10_1).f3) == a1) = true := beq_iff_eq.mpr c11
                have c11b1 : (((rd_T30 l0 x10_1).f3) != a1) = false := bne_eq_false_iff_eq.mpr c11
                clear c11
                have H' := Aside0.mk H
                clear H
                have p195 : 0 ≤ (x10_1 : Int) := of_decide_eq_true (by first | (with_reducible assumption) | assumption)
                have q195 : x10_1 < (l0.length : Int) := of_decide_eq_true (by first | (with_reducible assumption) | assumption)
                obtain ⟨ad195, e195, hx195_0, hx195_1, hx195_2, hx195_3, hx195_4, hx195_5⟩ := at_T30 HR0.out x10_1 p195 q195
                cases e195
                replace hx195_0 := (HB.out.cell (World.block_lt_of_cell? w _ hx195_0)).trans hx195_0
                replace hx195_1 := (HB.out.cell (World.block_lt_of_cell? w _ hx195_1)).trans hx195_1
                replace hx195_2 := (HB.out.cell (World.block_lt_of_cell? w _ hx195_2)).trans hx195_2
                replace hx195_3 := (HB.out.cell (World.block_lt_of_cell? w _ hx195_3)).trans hx195_3
                replace hx195_4 := (HB.out.cell (World.block_lt_of_cell? w _ hx195_4)).trans hx195_4
                replace hx195_5 := (HB.out.cell (World.block_lt_of_cell? w _ hx195_5)).trans hx195_5
                replace p195 := eq_true p195
                replace q195 := eq_true q195
                go_wp2_with (first | ((with_reducible refine gate_callee (f := 12) rfl ?_); refine goesL_ (some 22) rfl rfl Try.func12 (by kernel_rfl) rfl #[.agg #[.int .i64 ((rd_T30 l0 x10_1).f0.f0), .int .i64 ((rd_T30 l0 x10_1).f0.f1), .int .i64 ((rd_T30 l0 x10_1).f1.f0), .int .i64 ((rd_T30 l0 x10_1).f1.f1), .int .i64 ((rd_T30 l0 x10_1).f2), .int .i64 ((rd_T30 l0 x10_1).f3)]] rfl (by (try simp only [List.map_toArray, List.map_cons, List.map_nil]); first | done | rfl | (simp only [List.length_drop, List.length_take]; rfl)) ?_; (with_reducible refine (celluloidref17_Right.calls k1 ((rd_T30 l0 x10_1).f0.f0) ((rd_T30 l0 x10_1).f0.f1) ((rd_T30 l0 x10_1).f1.f0) ((rd_T30 l0 x10_1).f1.f1) ((rd_T30 l0 x10_1).f2) ((rd_T30 l0 x10_1).f3) true _ A7.out).mono ?_); rintro e w12 ⟨rfl, hb⟩; refine ⟨_, rfl, ?_⟩; have n0_ := Aside0.mk (below_step (by repeat (first | (with_reducible first | exact HB.out | apply below_alloc | apply pw_below_drewN | apply below_drew1) | exact HB.out)) hb); clear HB; have HB := n0_; clear n0_; (try clear hb); (try clear hb2); (try clear hk); (try clear hi); have p197 : 0 ≤ (x10_1 : Int) := of_decide_eq_true (by first | (with_reducible assumption) | assumption); have q197 : x10_1 < (l0.length : Int) := of_decide_eq_true (by first | (with_reducible assumption) | assumption); obtain ⟨ad197, e197, hx197_0, hx197_1, hx197_2, hx197_3, hx197_4, hx197_5⟩ := at_T30 HR0.out x10_1 p197 q197; obtain rfl : ad195 = ad197 := (by injection e197); replace hx197_0 := (HB.out.cell (World.block_lt_of_cell? w _ hx197_0)).trans hx197_0; replace hx197_1 := (HB.out.cell (World.block_lt_of_cell? w _ hx197_1)).trans hx197_1; replace hx197_2 := (HB.out.cell (World.block_lt_of_cell? w _ hx197_2)).trans hx197_2; replace hx197_3 := (HB.out.cell (World.block_lt_of_cell? w _ hx197_3)).trans hx197_3; replace hx197_4 := (HB.out.cell (World.block_lt_of_cell? w _ hx197_4)).trans hx197_4; replace hx197_5 := (HB.out.cell (World.block_lt_of_cell? w _ hx197_5)).trans hx197_5; replace p197 := eq_true p197; replace q197 := eq_true q197) | ((with_reducible refine gate_callee (f := 24) rfl ?_); refine goesL_ (some 30) rfl rfl Try.func24 (by kernel_rfl) rfl #[.agg #[.int .i64 ((rd_T30 l0 x10_1).f0.f0), .int .i64 ((rd_T30 l0 x10_1).f0.f1), .int .i64 ((rd_T30 l0 x10_1).f1.f0), .int .i64 ((rd_T30 l0 x10_1).f1.f1), .int .i64 ((rd_T30 l0 x10_1).f2), .int .i64 ((rd_T30 l0 x10_1).f3)], .int .i64 a2, .int .i64 a3] rfl (by (try simp only [List.map_toArray, List.map_cons, List.map_nil]); first | done | rfl | (simp only [List.length_drop, List.length_take]; rfl)) ?_; (with_reducible refine (celluloidref17_Side.calls k1 ((rd_T30 l0 x10_1).f0.f0) ((rd_T30 l0 x10_1).f0.f1) ((rd_T30 l0 x10_1).f1.f0) ((rd_T30 l0 x10_1).f1.f1) ((rd_T30 l0 x10_1).f2) ((rd_T30 l0 x10_1).f3) a2 a3 t198 _ A9.out).mono ?_); rintro e w13 ⟨rfl, hb⟩; refine ⟨_, rfl, ?_⟩; have n0_ := Aside0.mk (below_step (by repeat (first | (with_reducible first | exact HB.out | apply below_alloc | apply pw_below_drewN | apply below_drew1) | exact HB.out)) hb); clear HB; have HB := n0_; clear n0_; (try clear hb); (try clear hb2); (try clear hk); (try clear hi); have p199 : 0 ≤ (x10_1 : Int) := of_decide_eq_true (by first | (with_reducible assumption) | assumption); have q199 : x10_1 < (l0.length : Int) := of_decide_eq_true (by first | (with_reducible assumption) | assumption); obtain ⟨ad199, e199, hx199_0, hx199_1, hx199_2, hx199_3, hx199_4, hx199_5⟩ := at_T30 HR0.out x10_1 p199 q199; obtain rfl : ad195 = ad199 := (by injection e199); replace hx199_0 := (HB.out.cell (World.block_lt_of_cell? w _ hx199_0)).trans hx199_0; replace hx199_1 := (HB.out.cell (World.block_lt_of_cell? w _ hx199_1)).trans hx199_1; replace hx199_2 := (HB.out.cell (World.block_lt_of_cell? w _ hx199_2)).trans hx199_2; replace hx199_3 := (HB.out.cell (World.block_lt_of_cell? w _ hx199_3)).trans hx199_3; replace hx199_4 := (HB.out.cell (World.block_lt_of_cell? w _ hx199_4)).trans hx199_4; replace hx199_5 := (HB.out.cell (World.block_lt_of_cell? w _ hx199_5)).trans hx199_5; replace p199 := eq_true p199; replace q199 := eq_true q199; have p200 : 0 ≤ (x10_1 : Int) := of_decide_eq_true (by first | (with_reducible assumption) | assumption); have q200 : x10_1 < (l0.length : Int) := of_decide_eq_true (by first | (with_reducible assumption) | assumption); obtain ⟨ad200, e200, hx200_0, hx200_1, hx200_2, hx200_3, hx200_4, hx200_5⟩ := at_T30 HR0.out x10_1 p200 q200; obtain rfl : ad195 = ad200 := (by injection e200); replace hx200_0 := (HB.out.cell (World.block_lt_of_cell? w _ hx200_0)).trans hx200_0; replace hx200_1 := (HB.out.cell (World.block_lt_of_cell? w _ hx200_1)).trans hx200_1; replace hx200_2 := (HB.out.cell (World.block_lt_of_cell? w _ hx200_2)).trans hx200_2; replace hx200_3 := (HB.out.cell (World.block_lt_of_cell? w _ hx200_3)).trans hx200_3; replace hx200_4 := (HB.out.cell (World.block_lt_of_cell? w _ hx200_4)).trans hx200_4; replace hx200_5 := (HB.out.cell (World.block_lt_of_cell? w _ hx200_5)).trans hx200_5; replace p200 := eq_true p200; replace q200 := eq_true q200))
                go_roundg k1
                case measure => have := HK1.out; omega
                case rel => exact ⟨(wrap64 ((wrap64 (x9_1 + t198)) - t198)), (wrap64 (x10_1 + 1)), (by first | rfl | (simp; done) | (simp [*]; done)), (by first | rfl | (simp; done) | (simp [*]; done)), H', ⟨by have := HK1.out; omega⟩, ⟨by repeat (first | (with_reducible first | exact HB.out | apply below_alloc | apply pw_below_drewN | apply below_drew1) | exact HB.out)⟩⟩
              · rw [if_neg c11] at H
                have c11b0 : (((rd_T30 l0 x10_1).f3) == a1) = false := beq_eq_false_iff_ne.mpr c11
                have c11b1 : (((rd_T30 l0 x10_1).f3) != a1) = true := bne_iff_ne.mpr c11
                have H' := Aside0.mk H
                clear H
                have p195 : 0 ≤ (x10_1 : Int) := of_decide_eq_true (by first | (with_reducible assumption) | assumption)
                have q195 : x10_1 < (l0.length : Int) := of_decide_eq_true (by first | (with_reducible assumption) | assumption)
                obtain ⟨ad195, e195, hx195_0, hx195_1, hx195_2, hx195_3, hx195_4, hx195_5⟩ := at_T30 HR0.out x10_1 p195 q195
                cases e195
                replace hx195_0 := (HB.out.cell (World.block_lt_of_cell? w _ hx195_0)).trans hx195_0
                replace hx195_1 := (HB.out.cell (World.block_lt_of_cell? w _ hx195_1)).trans hx195_1
                replace hx195_2 := (HB.out.cell (World.block_lt_of_cell? w _ hx195_2)).trans hx195_2
                replace hx195_3 := (HB.out.cell (World.block_lt_of_cell? w _ hx195_3)).trans hx195_3
                replace hx195_4 := (HB.out.cell (World.block_lt_of_cell? w _ hx195_4)).trans hx195_4
                replace hx195_5 := (HB.out.cell (World.block_lt_of_cell? w _ hx195_5)).trans hx195_5
                replace p195 := eq_true p195
                replace q195 := eq_true q195
                go_wp2_with (first | ((with_reducible refine gate_callee (f := 12) rfl ?_); refine goesL_ (some 22) rfl rfl Try.func12 (by kernel_rfl) rfl #[.agg #[.int .i64 ((rd_T30 l0 x10_1).f0.f0), .int .i64 ((rd_T30 l0 x10_1).f0.f1), .int .i64 ((rd_T30 l0 x10_1).f1.f0), .int .i64 ((rd_T30 l0 x10_1).f1.f1), .int .i64 ((rd_T30 l0 x10_1).f2), .int .i64 ((rd_T30 l0 x10_1).f3)]] rfl (by (try simp only [List.map_toArray, List.map_cons, List.map_nil]); first | done | rfl | (simp only [List.length_drop, List.length_take]; rfl)) ?_; (with_reducible refine (celluloidref17_Right.calls k1 ((rd_T30 l0 x10_1).f0.f0) ((rd_T30 l0 x10_1).f0.f1) ((rd_T30 l0 x10_1).f1.f0) ((rd_T30 l0 x10_1).f1.f1) ((rd_T30 l0 x10_1).f2) ((rd_T30 l0 x10_1).f3) true _ A7.out).mono ?_); rintro e w14 ⟨rfl, hb⟩; refine ⟨_, rfl, ?_⟩; have n0_ := Aside0.mk (below_step (by repeat (first | (with_reducible first | exact HB.out | apply below_alloc | apply pw_below_drewN | apply below_drew1) | exact HB.out)) hb); clear HB; have HB := n0_; clear n0_; (try clear hb); (try clear hb2); (try clear hk); (try clear hi); have p197 : 0 ≤ (x10_1 : Int) := of_decide_eq_true (by first | (with_reducible assumption) | assumption); have q197 : x10_1 < (l0.length : Int) := of_decide_eq_true (by first | (with_reducible assumption) | assumption); obtain ⟨ad197, e197, hx197_0, hx197_1, hx197_2, hx197_3, hx197_4, hx197_5⟩ := at_T30 HR0.out x10_1 p197 q197; obtain rfl : ad195 = ad197 := (by injection e197); replace hx197_0 := (HB.out.cell (World.block_lt_of_cell? w _ hx197_0)).trans hx197_0; replace hx197_1 := (HB.out.cell (World.block_lt_of_cell? w _ hx197_1)).trans hx197_1; replace hx197_2 := (HB.out.cell (World.block_lt_of_cell? w _ hx197_2)).trans hx197_2; replace hx197_3 := (HB.out.cell (World.block_lt_of_cell? w _ hx197_3)).trans hx197_3; replace hx197_4 := (HB.out.cell (World.block_lt_of_cell? w _ hx197_4)).trans hx197_4; replace hx197_5 := (HB.out.cell (World.block_lt_of_cell? w _ hx197_5)).trans hx197_5; replace p197 := eq_true p197; replace q197 := eq_true q197) | ((with_reducible refine gate_callee (f := 24) rfl ?_); refine goesL_ (some 30) rfl rfl Try.func24 (by kernel_rfl) rfl #[.agg #[.int .i64 ((rd_T30 l0 x10_1).f0.f0), .int .i64 ((rd_T30 l0 x10_1).f0.f1), .int .i64 ((rd_T30 l0 x10_1).f1.f0), .int .i64 ((rd_T30 l0 x10_1).f1.f1), .int .i64 ((rd_T30 l0 x10_1).f2), .int .i64 ((rd_T30 l0 x10_1).f3)], .int .i64 a2, .int .i64 a3] rfl (by (try simp only [List.map_toArray, List.map_cons, List.map_nil]); first | done | rfl | (simp only [List.length_drop, List.length_take]; rfl)) ?_; (with_reducible refine (celluloidref17_Side.calls k1 ((rd_T30 l0 x10_1).f0.f0) ((rd_T30 l0 x10_1).f0.f1) ((rd_T30 l0 x10_1).f1.f0) ((rd_T30 l0 x10_1).f1.f1) ((rd_T30 l0 x10_1).f2) ((rd_T30 l0 x10_1).f3) a2 a3 t198 _ A9.out).mono ?_); rintro e w15 ⟨rfl, hb⟩; refine ⟨_, rfl, ?_⟩; have n0_ := Aside0.mk (below_step (by repeat (first | (with_reducible first | exact HB.out | apply below_alloc | apply pw_below_drewN | apply below_drew1) | exact HB.out)) hb); clear HB; have HB := n0_; clear n0_; (try clear hb); (try clear hb2); (try clear hk); (try clear hi); have p199 : 0 ≤ (x10_1 : Int) := of_decide_eq_true (by first | (with_reducible assumption) | assumption); have q199 : x10_1 < (l0.length : Int) := of_decide_eq_true (by first | (with_reducible assumption) | assumption); obtain ⟨ad199, e199, hx199_0, hx199_1, hx199_2, hx199_3, hx199_4, hx199_5⟩ := at_T30 HR0.out x10_1 p199 q199; obtain rfl : ad195 = ad199 := (by injection e199); replace hx199_0 := (HB.out.cell (World.block_lt_of_cell? w _ hx199_0)).trans hx199_0; replace hx199_1 := (HB.out.cell (World.block_lt_of_cell? w _ hx199_1)).trans hx199_1; replace hx199_2 := (HB.out.cell (World.block_lt_of_cell? w _ hx199_2)).trans hx199_2; replace hx199_3 := (HB.out.cell (World.block_lt_of_cell? w _ hx199_3)).trans hx199_3; replace hx199_4 := (HB.out.cell (World.block_lt_of_cell? w _ hx199_4)).trans hx199_4; replace hx199_5 := (HB.out.cell (World.block_lt_of_cell? w _ hx199_5)).trans hx199_5; replace p199 := eq_true p199; replace q199 := eq_true q199; have p200 : 0 ≤ (x10_1 : Int) := of_decide_eq_true (by first | (with_reducible assumption) | assumption); have q200 : x10_1 < (l0.length : Int) := of_decide_eq_true (by first | (with_reducible assumption) | assumption); obtain ⟨ad200, e200, hx200_0, hx200_1, hx200_2, hx200_3, hx200_4, hx200_5⟩ := at_T30 HR0.out x10_1 p200 q200; obtain rfl : ad195 = ad200 := (by injection e200); replace hx200_0 := (HB.out.cell (World.block_lt_of_cell? w _ hx200_0)).trans hx200_0; replace hx200_1 := (HB.out.cell (World.block_lt_of_cell? w _ hx200_1)).trans hx200_1; replace hx200_2 := (HB.out.cell (World.block_lt_of_cell? w _ hx200_2)).trans hx200_2; replace hx200_3 := (HB.out.cell (World.block_lt_of_cell? w _ hx200_3)).trans hx200_3; replace hx200_4 := (HB.out.cell (World.block_lt_of_cell? w _ hx200_4)).trans hx200_4; replace hx200_5 := (HB.out.cell (World.block_lt_of_cell? w _ hx200_5)).trans hx200_5; replace p200 := eq_true p200; replace q200 := eq_true q200))
                go_roundg k1
                case measure => have := HK1.out; omega
                case rel => exact ⟨(wrap64 (x9_1 + t198)), (wrap64 (x10_1 + 1)), (by first | rfl | (simp; done) | (simp [*]; done)), (by first | rfl | (simp; done) | (simp [*]; done)), H', ⟨by have := HK1.out; omega⟩, ⟨by repeat (first | (with_reducible first | exact HB.out | apply below_alloc | apply pw_below_drewN | apply below_drew1) | exact HB.out)⟩⟩
            · rw [if_neg c10] at H
              have c10b0 : (((rd_T30 l0 x10_1).f2) == a1) = false := beq_eq_false_iff_ne.mpr c10
              have c10b1 : (((rd_T30 l0 x10_1).f2) != a1) = true := bne_iff_ne.mpr c10
              by_cases c16 : ((rd_T30 l0 x10_1).f3) = a1
              · rw [if_pos c16] at H
                have c16b0 : (((rd_T30 l0 x10_1).f3) == a1) = true := beq_iff_eq.mpr c16
                have c16b1 : (((rd_T30 l0 x10_1).f3) != a1) = false := bne_eq_false_iff_eq.mpr c16
                clear c16
                have H' := Aside0.mk H
                clear H
                have p195 : 0 ≤ (x10_1 : Int) := of_decide_eq_true (by first | (with_reducible assumption) | assumption)
                have q195 : x10_1 < (l0.length : Int) := of_decide_eq_true (by first | (with_reducible assumption) | assumption)
                obtain ⟨ad195, e195, hx195_0, hx195_1, hx195_2, hx195_3, hx195_4, hx195_5⟩ := at_T30 HR0.out x10_1 p195 q195
                cases e195
                replace hx195_0 := (HB.out.cell (World.block_lt_of_cell? w _ hx195_0)).trans hx195_0
                replace hx195_1 := (HB.out.cell (World.block_lt_of_cell? w _ hx195_1)).trans hx195_1
                replace hx195_2 := (HB.out.cell (World.block_lt_of_cell? w _ hx195_2)).trans hx195_2
                replace hx195_3 := (HB.out.cell (World.block_lt_of_cell? w _ hx195_3)).trans hx195_3
                replace hx195_4 := (HB.out.cell (World.block_lt_of_cell? w _ hx195_4)).trans hx195_4
                replace hx195_5 := (HB.out.cell (World.block_lt_of_cell? w _ hx195_5)).trans hx195_5
                replace p195 := eq_true p195
                replace q195 := eq_true q195
                go_wp2_with (first | ((with_reducible refine gate_callee (f := 12) rfl ?_); refine goesL_ (some 22) rfl rfl Try.func12 (by kernel_rfl) rfl #[.agg #[.int .i64 ((rd_T30 l0 x10_1).f0.f0), .int .i64 ((rd_T30 l0 x10_1).f0.f1), .int .i64 ((rd_T30 l0 x10_1).f1.f0), .int .i64 ((rd_T30 l0 x10_1).f1.f1), .int .i64 ((rd_T30 l0 x10_1).f2), .int .i64 ((rd_T30 l0 x10_1).f3)]] rfl (by (try simp only [List.map_toArray, List.map_cons, List.map_nil]); first | done | rfl | (simp only [List.length_drop, List.length_take]; rfl)) ?_; (with_reducible refine (celluloidref17_Right.calls k1 ((rd_T30 l0 x10_1).f0.f0) ((rd_T30 l0 x10_1).f0.f1) ((rd_T30 l0 x10_1).f1.f0) ((rd_T30 l0 x10_1).f1.f1) ((rd_T30 l0 x10_1).f2) ((rd_T30 l0 x10_1).f3) true _ A7.out).mono ?_); rintro e w17 ⟨rfl, hb⟩; refine ⟨_, rfl, ?_⟩; have n0_ := Aside0.mk (below_step (by repeat (first | (with_reducible first | exact HB.out | apply below_alloc | apply pw_below_drewN | apply below_drew1) | exact HB.out)) hb); clear HB; have HB := n0_; clear n0_; (try clear hb); (try clear hb2); (try clear hk); (try clear hi); have p197 : 0 ≤ (x10_1 : Int) := of_decide_eq_true (by first | (with_reducible assumption) | assumption); have q197 : x10_1 < (l0.length : Int) := of_decide_eq_true (by first | (with_reducible assumption) | assumption); obtain ⟨ad197, e197, hx197_0, hx197_1, hx197_2, hx197_3, hx197_4, hx197_5⟩ := at_T30 HR0.out x10_1 p197 q197; obtain rfl : ad195 = ad197 := (by injection e197); replace hx197_0 := (HB.out.cell (World.block_lt_of_cell? w _ hx197_0)).trans hx197_0; replace hx197_1 := (HB.out.cell (World.block_lt_of_cell? w _ hx197_1)).trans hx197_1; replace hx197_2 := (HB.out.cell (World.block_lt_of_cell? w _ hx197_2)).trans hx197_2; replace hx197_3 := (HB.out.cell (World.block_lt_of_cell? w _ hx197_3)).trans hx197_3; replace hx197_4 := (HB.out.cell (World.block_lt_of_cell? w _ hx197_4)).trans hx197_4; replace hx197_5 := (HB.out.cell (World.block_lt_of_cell? w _ hx197_5)).trans hx197_5; replace p197 := eq_true p197; replace q197 := eq_true q197) | ((with_reducible refine gate_callee (f := 24) rfl ?_); refine goesL_ (some 30) rfl rfl Try.func24 (by kernel_rfl) rfl #[.agg #[.int .i64 ((rd_T30 l0 x10_1).f0.f0), .int .i64 ((rd_T30 l0 x10_1).f0.f1), .int .i64 ((rd_T30 l0 x10_1).f1.f0), .int .i64 ((rd_T30 l0 x10_1).f1.f1), .int .i64 ((rd_T30 l0 x10_1).f2), .int .i64 ((rd_T30 l0 x10_1).f3)], .int .i64 a2, .int .i64 a3] rfl (by (try simp only [List.map_toArray, List.map_cons, List.map_nil]); first | done | rfl | (simp only [List.length_drop, List.length_take]; rfl)) ?_; (with_reducible refine (celluloidref17_Side.calls k1 ((rd_T30 l0 x10_1).f0.f0) ((rd_T30 l0 x10_1).f0.f1) ((rd_T30 l0 x10_1).f1.f0) ((rd_T30 l0 x10_1).f1.f1) ((rd_T30 l0 x10_1).f2) ((rd_T30 l0 x10_1).f3) a2 a3 t198 _ A9.out).mono ?_); rintro e w18 ⟨rfl, hb⟩; refine ⟨_, rfl, ?_⟩; have n0_ := Aside0.mk (below_step (by repeat (first | (with_reducible first | exact HB.out | apply below_alloc | apply pw_below_drewN | apply below_drew1) | exact HB.out)) hb); clear HB; have HB := n0_; clear n0_; (try clear hb); (try clear hb2); (try clear hk); (try clear hi); have p199 : 0 ≤ (x10_1 : Int) := of_decide_eq_true (by first | (with_reducible assumption) | assumption); have q199 : x10_1 < (l0.length : Int) := of_decide_eq_true (by first | (with_reducible assumption) | assumption); obtain ⟨ad199, e199, hx199_0, hx199_1, hx199_2, hx199_3, hx199_4, hx199_5⟩ := at_T30 HR0.out x10_1 p199 q199; obtain rfl : ad195 = ad199 := (by injection e199); replace hx199_0 := (HB.out.cell (World.block_lt_of_cell? w _ hx199_0)).trans hx199_0; replace hx199_1 := (HB.out.cell (World.block_lt_of_cell? w _ hx199_1)).trans hx199_1; replace hx199_2 := (HB.out.cell (World.block_lt_of_cell? w _ hx199_2)).trans hx199_2; replace hx199_3 := (HB.out.cell (World.block_lt_of_cell? w _ hx199_3)).trans hx199_3; replace hx199_4 := (HB.out.cell (World.block_lt_of_cell? w _ hx199_4)).trans hx199_4; replace hx199_5 := (HB.out.cell (World.block_lt_of_cell? w _ hx199_5)).trans hx199_5; replace p199 := eq_true p199; replace q199 := eq_true q199; have p201 : 0 ≤ (x10_1 : Int) := of_decide_eq_true (by first | (with_reducible assumption) | assumption); have q201 : x10_1 < (l0.length : Int) := of_decide_eq_true (by first | (with_reducible assumption) | assumption); obtain ⟨ad201, e201, hx201_0, hx201_1, hx201_2, hx201_3, hx201_4, hx201_5⟩ := at_T30 HR0.out x10_1 p201 q201; obtain rfl : ad195 = ad201 := (by injection e201); replace hx201_0 := (HB.out.cell (World.block_lt_of_cell? w _ hx201_0)).trans hx201_0; replace hx201_1 := (HB.out.cell (World.block_lt_of_cell? w _ hx201_1)).trans hx201_1; replace hx201_2 := (HB.out.cell (World.block_lt_of_cell? w _ hx201_2)).trans hx201_2; replace hx201_3 := (HB.out.cell (World.block_lt_of_cell? w _ hx201_3)).trans hx201_3; replace hx201_4 := (HB.out.cell (World.block_lt_of_cell? w _ hx201_4)).trans hx201_4; replace hx201_5 := (HB.out.cell (World.block_lt_of_cell? w _ hx201_5)).trans hx201_5; replace p201 := eq_true p201; replace q201 := eq_true q201))
                go_roundg k1
                case measure => have := HK1.out; omega
                case rel => exact ⟨(wrap64 (x9_1 - t198)), (wrap64 (x10_1 + 1)), (by first | rfl | (simp; done) | (simp [*]; done)), (by first | rfl | (simp; done) | (simp [*]; done)), H', ⟨by have := HK1.out; omega⟩, ⟨by repeat (first | (with_reducible first | exact HB.out | apply below_alloc | apply pw_below_drewN | apply below_drew1) | exact HB.out)⟩⟩
              · rw [if_neg c16] at H
                have c16b0 : (((rd_T30 l0 x10_1).f3) == a1) = false := beq_eq_false_iff_ne.mpr c16
                have c16b1 : (((rd_T30 l0 x10_1).f3) != a1) = true := bne_iff_ne.mpr c16
                have H' := Aside0.mk H
                clear H
                have p195 : 0 ≤ (x10_1 : Int) := of_decide_eq_true (by first | (with_reducible assumption) | assumption)
                have q195 : x10_1 < (l0.length : Int) := of_decide_eq_true (by first | (with_reducible assumption) | assumption)
                obtain ⟨ad195, e195, hx195_0, hx195_1, hx195_2, hx195_3, hx195_4, hx195_5⟩ := at_T30 HR0.out x10_1 p195 q195
                cases e195
                replace hx195_0 := (HB.out.cell (World.block_lt_of_cell? w _ hx195_0)).trans hx195_0
                replace hx195_1 := (HB.out.cell (World.block_lt_of_cell? w _ hx195_1)).trans hx195_1
                replace hx195_2 := (HB.out.cell (World.block_lt_of_cell? w _ hx195_2)).trans hx195_2
                replace hx195_3 := (HB.out.cell (World.block_lt_of_cell? w _ hx195_3)).trans hx195_3
                replace hx195_4 := (HB.out.cell (World.block_lt_of_cell? w _ hx195_4)).trans hx195_4
                replace hx195_5 := (HB.out.cell (World.block_lt_of_cell? w _ hx195_5)).trans hx195_5
                replace p195 := eq_true p195
                replace q195 := eq_true q195
                go_wp2_with (first | ((with_reducible refine gate_callee (f := 12) rfl ?_); refine goesL_ (some 22) rfl rfl Try.func12 (by kernel_rfl) rfl #[.agg #[.int .i64 ((rd_T30 l0 x10_1).f0.f0), .int .i64 ((rd_T30 l0 x10_1).f0.f1), .int .i64 ((rd_T30 l0 x10_1).f1.f0), .int .i64 ((rd_T30 l0 x10_1).f1.f1), .int .i64 ((rd_T30 l0 x10_1).f2), .int .i64 ((rd_T30 l0 x10_1).f3)]] rfl (by (try simp only [List.map_toArray, List.map_cons, List.map_nil]); first | done | rfl | (simp only [List.length_drop, List.length_take]; rfl)) ?_; (with_reducible refine (celluloidref17_Right.calls k1 ((rd_T30 l0 x10_1).f0.f0) ((rd_T30 l0 x10_1).f0.f1) ((rd_T30 l0 x10_1).f1.f0) ((rd_T30 l0 x10_1).f1.f1) ((rd_T30 l0 x10_1).f2) ((rd_T30 l0 x10_1).f3) true _ A7.out).mono ?_); rintro e w19 ⟨rfl, hb⟩; refine ⟨_, rfl, ?_⟩; have n0_ := Aside0.mk (below_step (by repeat (first | (with_reducible first | exact HB.out | apply below_alloc | apply pw_below_drewN | apply below_drew1) | exact HB.out)) hb); clear HB; have HB := n0_; clear n0_; (try clear hb); (try clear hb2); (try clear hk); (try clear hi); have p197 : 0 ≤ (x10_1 : Int) := of_decide_eq_true (by first | (with_reducible assumption) | assumption); have q197 : x10_1 < (l0.length : Int) := of_decide_eq_true (by first | (with_reducible assumption) | assumption); obtain ⟨ad197, e197, hx197_0, hx197_1, hx197_2, hx197_3, hx197_4, hx197_5⟩ := at_T30 HR0.out x10_1 p197 q197; obtain rfl : ad195 = ad197 := (by injection e197); replace hx197_0 := (HB.out.cell (World.block_lt_of_cell? w _ hx197_0)).trans hx197_0; replace hx197_1 := (HB.out.cell (World.block_lt_of_cell? w _ hx197_1)).trans hx197_1; replace hx197_2 := (HB.out.cell (World.block_lt_of_cell? w _ hx197_2)).trans hx197_2; replace hx197_3 := (HB.out.cell (World.block_lt_of_cell? w _ hx197_3)).trans hx197_3; replace hx197_4 := (HB.out.cell (World.block_lt_of_cell? w _ hx197_4)).trans hx197_4; replace hx197_5 := (HB.out.cell (World.block_lt_of_cell? w _ hx197_5)).trans hx197_5; replace p197 := eq_true p197; replace q197 := eq_true q197) | ((with_reducible refine gate_callee (f := 24) rfl ?_); refine goesL_ (some 30) rfl rfl Try.func24 (by kernel_rfl) rfl #[.agg #[.int .i64 ((rd_T30 l0 x10_1).f0.f0), .int .i64 ((rd_T30 l0 x10_1).f0.f1), .int .i64 ((rd_T30 l0 x10_1).f1.f0), .int .i64 ((rd_T30 l0 x10_1).f1.f1), .int .i64 ((rd_T30 l0 x10_1).f2), .int .i64 ((rd_T30 l0 x10_1).f3)], .int .i64 a2, .int .i64 a3] rfl (by (try simp only [List.map_toArray, List.map_cons, List.map_nil]); first | done | rfl | (simp only [List.length_drop, List.length_take]; rfl)) ?_; (with_reducible refine (celluloidref17_Side.calls k1 ((rd_T30 l0 x10_1).f0.f0) ((rd_T30 l0 x10_1).f0.f1) ((rd_T30 l0 x10_1).f1.f0) ((rd_T30 l0 x10_1).f1.f1) ((rd_T30 l0 x10_1).f2) ((rd_T30 l0 x10_1).f3) a2 a3 t198 _ A9.out).mono ?_); rintro e w20 ⟨rfl, hb⟩; refine ⟨_, rfl, ?_⟩; have n0_ := Aside0.mk (below_step (by repeat (first | (with_reducible first | exact HB.out | apply below_alloc | apply pw_below_drewN | apply below_drew1) | exact HB.out)) hb); clear HB; have HB := n0_; clear n0_; (try clear hb); (try clear hb2); (try clear hk); (try clear hi); have p199 : 0 ≤ (x10_1 : Int) := of_decide_eq_true (by first | (with_reducible assumption) | assumption); have q199 : x10_1 < (l0.length : Int) := of_decide_eq_true (by first | (with_reducible assumption) | assumption); obtain ⟨ad199, e199, hx199_0, hx199_1, hx199_2, hx199_3, hx199_4, hx199_5⟩ := at_T30 HR0.out x10_1 p199 q199; obtain rfl : ad195 = ad199 := (by injection e199); replace hx199_0 := (HB.out.cell (World.block_lt_of_cell? w _ hx199_0)).trans hx199_0; replace hx199_1 := (HB.out.cell (World.block_lt_of_cell? w _ hx199_1)).trans hx199_1; replace hx199_2 := (HB.out.cell (World.block_lt_of_cell? w _ hx199_2)).trans hx199_2; replace hx199_3 := (HB.out.cell (World.block_lt_of_cell? w _ hx199_3)).trans hx199_3; replace hx199_4 := (HB.out.cell (World.block_lt_of_cell? w _ hx199_4)).trans hx199_4; replace hx199_5 := (HB.out.cell (World.block_lt_of_cell? w _ hx199_5)).trans hx199_5; replace p199 := eq_true p199; replace q199 := eq_true q199; have p201 : 0 ≤ (x10_1 : Int) := of_decide_eq_true (by first | (with_reducible assumption) | assumption); have q201 : x10_1 < (l0.length : Int) := of_decide_eq_true (by first | (with_reducible assumption) | assumption); obtain ⟨ad201, e201, hx201_0, hx201_1, hx201_2, hx201_3, hx201_4, hx201_5⟩ := at_T30 HR0.out x10_1 p201 q201; obtain rfl : ad195 = ad201 := (by injection e201); replace hx201_0 := (HB.out.cell (World.block_lt_of_cell? w _ hx201_0)).trans hx201_0; replace hx201_1 := (HB.out.cell (World.block_lt_of_cell? w _ hx201_1)).trans hx201_1; replace hx201_2 := (HB.out.cell (World.block_lt_of_cell? w _ hx201_2)).trans hx201_2; replace hx201_3 := (HB.out.cell (World.block_lt_of_cell? w _ hx201_3)).trans hx201_3; replace hx201_4 := (HB.out.cell (World.block_lt_of_cell? w _ hx201_4)).trans hx201_4; replace hx201_5 := (HB.out.cell (World.block_lt_of_cell? w _ hx201_5)).trans hx201_5; replace p201 := eq_true p201; replace q201 := eq_true q201))
                go_roundg k1
                case measure => have := HK1.out; omega
                case rel => exact ⟨(x9_1), (wrap64 (x10_1 + 1)), (by first | rfl | (simp; done) | (simp [*]; done)), (by first | rfl | (simp; done) | (simp [*]; done)), H', ⟨by have := HK1.out; omega⟩, ⟨by repeat (first | (with_reducible first | exact HB.out | apply below_alloc | apply pw_below_drewN | apply below_drew1) | exact HB.out)⟩⟩
          · replace c8 := Bool.eq_false_iff.mpr c8
            subst c8
            have H1 : (celluloidref17_Wound.l0 k1 l0 a1 a2 a3 x9_1 (wrap64 (x10_1 + 1))) = some r := by rw [if_neg (show ¬ (false = true) by decide)] at H; exact H
            clear H
            have H := H1
            clear H1
            have H' := Aside0.mk H
            clear H
            have p195 : 0 ≤ (x10_1 : Int) := of_decide_eq_true (by first | (with_reducible assumption) | assumption)
            have q195 : x10_1 < (l0.length : Int) := of_decide_eq_true (by first | (with_reducible assumption) | assumption)
            obtain ⟨ad195, e195, hx195_0, hx195_1, hx195_2, hx195_3, hx195_4, hx195_5⟩ := at_T30 HR0.out x10_1 p195 q195
            cases e195
            replace hx195_0 := (HB.out.cell (World.block_lt_of_cell? w _ hx195_0)).trans hx195_0
            replace hx195_1 := (HB.out.cell (World.block_lt_of_cell? w _ hx195_1)).trans hx195_1
            replace hx195_2 := (HB.out.cell (World.block_lt_of_cell? w _ hx195_2)).trans hx195_2
            replace hx195_3 := (HB.out.cell (World.block_lt_of_cell? w _ hx195_3)).trans hx195_3
            replace hx195_4 := (HB.out.cell (World.block_lt_of_cell? w _ hx195_4)).trans hx195_4
            replace hx195_5 := (HB.out.cell (World.block_lt_of_cell? w _ hx195_5)).trans hx195_5
            replace p195 := eq_true p195
            replace q195 := eq_true q195
            go_wp2_with (first | ((with_reducible refine gate_callee (f := 12) rfl ?_); refine goesL_ (some 22) rfl rfl Try.func12 (by kernel_rfl) rfl #[.agg #[.int .i64 ((rd_T30 l0 x10_1).f0.f0), .int .i64 ((rd_T30 l0 x10_1).f0.f1), .int .i64 ((rd_T30 l0 x10_1).f1.f0), .int .i64 ((rd_T30 l0 x10_1).f1.f1), .int .i64 ((rd_T30 l0 x10_1).f2), .int .i64 ((rd_T30 l0 x10_1).f3)]] rfl (by (try simp only [List.map_toArray, List.map_cons, List.map_nil]); first | done | rfl | (simp only [List.length_drop, List.length_take]; rfl)) ?_; (with_reducible refine (celluloidref17_Right.calls k1 ((rd_T30 l0 x10_1).f0.f0) ((rd_T30 l0 x10_1).f0.f1) ((rd_T30 l0 x10_1).f1.f0) ((rd_T30 l0 x10_1).f1.f1) ((rd_T30 l0 x10_1).f2) ((rd_T30 l0 x10_1).f3) false _ A7.out).mono ?_); rintro e w21 ⟨rfl, hb⟩; refine ⟨_, rfl, ?_⟩; have n0_ := Aside0.mk (below_step (by repeat (first | (with_reducible first | exact HB.out | apply below_alloc | apply pw_below_drewN | apply below_drew1) | exact HB.out)) hb); clear HB; have HB := n0_; clear n0_; (try clear hb); (try clear hb2); (try clear hk); (try clear hi)))
            go_roundg k1
            case measure => have := HK1.out; omega
            case rel => exact ⟨(x9_1), (wrap64 (x10_1 + 1)), (by first | rfl | (simp; done) | (simp [*]; done)), (by first | rfl | (simp; done) | (simp [*]; done)), H', ⟨by have := HK1.out; omega⟩, ⟨by repeat (first | (with_reducible first | exact HB.out | apply below_alloc | apply pw_below_drewN | apply below_drew1) | exact HB.out)⟩⟩
        · rw [if_neg c6] at H
          exact absurd H (by simp)
      · rw [if_neg c5] at H
        have c5b0 : decide (x10_1 < (l0.length : Int)) = false := decide_eq_false c5
        clear c5
        obtain rfl := Option.some.inj H
        go_wp2
        go_ret
        exact ⟨by first | rfl | (simp [errW_none, errW_some] <;> rfl) | (simp [*, errW_none, errW_some] <;> rfl), by repeat (first | (with_reducible first | exact HB.out | apply below_alloc | apply pw_below_drewN | apply below_drew1) | exact HB.out)⟩

/-! ### celluloidlaw17_refs: function 15 -/
def celluloidlaw17_refs.l0 : Nat → List (S30) → List (S27) → Int → Int → Option ((List (S30)))
  | 0, _, _, _, _ => none
  | k + 1, x3, x6, x7, x8 => if x8 < x7 then (if 0 ≤ x8 then (if x8 < (x6.length : Int) then (if x3.length < 2932031007402 then (celluloidlaw17_refs.l0 k (x3 ++ [(⟨(⟨(rd_T27 x6 x8).f0.f0, (rd_T27 x6 x8).f0.f1⟩ : S25), (⟨(rd_T27 x6 x8).f1.f0, (rd_T27 x6 x8).f1.f1⟩ : S25), (rd_T27 x6 x8).f2, (rd_T27 x6 x8).f3⟩ : S30)]) x6 x7 (wrap64 (x8 + 1))) else (none)) else (none)) else (none)) else (some x3)
def celluloidlaw17_refs.f (k : Nat) (l0 : List (S27)) : Option ((List (S30))) := celluloidlaw17_refs.l0 k ([] : List (S30)) l0 (l0.length : Int) 0
theorem celluloidlaw17_refs.mono_l : ∀ k, (∀ y0 y1 y2 y3, LeO (celluloidlaw17_refs.l0 k y0 y1 y2 y3) (celluloidlaw17_refs.l0 (k + 1) y0 y1 y2 y3))
  | 0 => fun _ _ _ _ r h => by simp [celluloidlaw17_refs.l0] at h
  | k + 1 => by
    have ih0 := celluloidlaw17_refs.mono_l k
    · intro y0 y1 y2 y3
      unfold celluloidlaw17_refs.l0
      repeat' first
      | (with_reducible exact ih0 _ _ _ _)
      | (with_reducible exact LeO.refl _)
      | (with_reducible exact LeO.none _)
      | (with_reducible refine LeO.ite ?_ ?_)
      | (with_reducible refine LeO.bind ?_ (fun _ => ?_))
      | exact ih0 _ _ _ _
      | exact LeO.none _
      | refine LeO.ite ?_ ?_
      | refine LeO.bind ?_ (fun _ => ?_)
theorem celluloidlaw17_refs.mono : ∀ a0 k, LeO (celluloidlaw17_refs.f k a0) (celluloidlaw17_refs.f (k + 1) a0) := by
  intro a0 k
  have ih0 := celluloidlaw17_refs.mono_l k
  unfold celluloidlaw17_refs.f
  repeat' first
      | (with_reducible exact ih0 _ _ _ _)
      | (with_reducible exact LeO.refl _)
      | (with_reducible exact LeO.none _)
      | (with_reducible refine LeO.ite ?_ ?_)
      | (with_reducible refine LeO.bind ?_ (fun _ => ?_))
      | exact ih0 _ _ _ _
      | exact LeO.none _
      | refine LeO.ite ?_ ?_
      | refine LeO.bind ?_ (fun _ => ?_)
set_option maxHeartbeats 8000000 in
set_option maxRecDepth 100000 in
theorem celluloidlaw17_refs.calls (k : Nat) (A0 : Option Addr) (c0 : Nat) (l0 : List (S27)) (r : List (S30)) (w : World) (hr0 : Kd.C k27 w A0 l0.length l0) (hc0 : l0.length ≤ c0) (h : celluloidlaw17_refs.f k l0 = some r) :
    Calls Try.prog 15 #[.slice A0 l0.length c0] w fun e w' => ∃ v0_ : Value, e = .returned (v0_) ∧ Kd.R k30 30 w' w.heap.size (fun _ => True) v0_ r ∧ Below w.heap.size w w' := by
  have hu27 := Try.underlying27
  have HR0 := Aside0.mk hr0
  have HC0 := Aside0.mk hc0
  clear hr0 hc0
  have HB := Aside0.mk (Below.refl w.heap.size w)
  have H : (celluloidlaw17_refs.l0 k ([] : List (S30)) l0 (l0.length : Int) 0) = some r := h
  clear h
  have H' := Aside0.mk H
  clear H
  go_enter Try.func15, Try.ntmps15
  go_wp2
  go_loopg [3, 8] k (fun kq v3 v8 w' => ∃ (x3_1 : List (S30)) (x8_1 : Int), v8 = .int .i64 x8_1 ∧ Aside0 (celluloidlaw17_refs.l0 kq x3_1 l0 (l0.length : Int) x8_1 = some r) ∧ Aside0 (kq ≤ k) ∧ Aside0 (Kd.R k30 30 w' w.heap.size (fun _ => True) v3 x3_1) ∧ Aside0 (Below w.heap.size w w'))
  case atStart => exact ⟨(([] : List (S30))), (0), (by first | rfl | (simp; done) | (simp [*]; done)), H', ⟨Nat.le_refl _⟩, ⟨by first | exact Kd.R_nil _ _ _ _ _ | exact Kd.N_nil _ _ _ _ _ | exact Kd.V_nil _ _ _ _ _ | exact Kd.Q_nil _ _ _ _ _ | exact Kd.S_nil _ _ _ _ _⟩, ⟨by repeat (first | (with_reducible first | exact HB.out | apply below_alloc | apply pw_below_drewN | apply below_drew1) | exact HB.out)⟩⟩
  case round =>
    clear H'
    try clear c1
    obtain ⟨x3_1, x8_1, rfl, HA, HK1, HO_3, HB⟩ := hrel
    cases gk with
    | zero => exact absurd HA.out (by simp [celluloidlaw17_refs.l0])
    | succ k1 =>
      have H := HA.out
      clear HA
      simp only [celluloidlaw17_refs.l0] at H
      by_cases c2 : x8_1 < (l0.length : Int)
      · rw [if_pos c2] at H
        have c2b0 : decide (x8_1 < (l0.length : Int)) = true := decide_eq_true c2
        clear c2
        by_cases c3 : 0 ≤ x8_1
        · rw [if_pos c3] at H
          have c3b0 : decide (0 ≤ x8_1) = true := decide_eq_true c3
          clear c3
          by_cases c4 : x8_1 < (l0.length : Int)
          · rw [if_pos c4] at H
            have c4b0 : decide (x8_1 < (l0.length : Int)) = true := decide_eq_true c4
            clear c4
            by_cases c5 : x3_1.length < 2932031007402
            · rw [if_pos c5] at H
              have LMc5 := Aside0.mk c5
              clear c5
              obtain ⟨y204, hy204⟩ : ∃ y_ : List (S30), y_ = (x3_1 ++ [(⟨(⟨(rd_T27 l0 x8_1).f0.f0, (rd_T27 l0 x8_1).f0.f1⟩ : S25), (⟨(rd_T27 l0 x8_1).f1.f0, (rd_T27 l0 x8_1).f1.f1⟩ : S25), (rd_T27 l0 x8_1).f2, (rd_T27 l0 x8_1).f3⟩ : S30)]) := ⟨_, rfl⟩
              replace H : (celluloidlaw17_refs.l0 k1 y204 l0 (l0.length : Int) (wrap64 (x8_1 + 1))) = some r := by first | (rw [hy204]; with_reducible exact H) | (have H2_ := (Option.bind_some _ _).symm.trans H; rw [hy204]; with_reducible exact H2_) | (have H2_ := (Option.bind_some _ _).symm.trans H; with_reducible exact H2_) | with_reducible exact H | (rw [hy204]; exact H) | exact H
              have Ny204 := Aside0.mk hy204
              clear hy204
              have H' := Aside0.mk H
              clear H
              have p202 : 0 ≤ (x8_1 : Int) := of_decide_eq_true (by first | (with_reducible assumption) | assumption)
              have q202 : x8_1 < (l0.length : Int) := of_decide_eq_true (by first | (with_reducible assumption) | assumption)
              obtain ⟨ad202, e202, hx202_0, hx202_1, hx202_2, hx202_3, hx202_4, hx202_5⟩ := at_T27 HR0.out x8_1 p202 q202
              cases e202
              replace hx202_0 := (HB.out.cell (World.block_lt_of_cell? w _ hx202_0)).trans hx202_0
              replace hx202_1 := (HB.out.cell (World.block_lt_of_cell? w _ hx202_1)).trans hx202_1
              replace hx202_2 := (HB.out.cell (World.block_lt_of_cell? w _ hx202_2)).trans hx202_2
              replace hx202_3 := (HB.out.cell (World.block_lt_of_cell? w _ hx202_3)).trans hx202_3
              replace hx202_4 := (HB.out.cell (World.block_lt_of_cell? w _ hx202_4)).trans hx202_4
              replace hx202_5 := (HB.out.cell (World.block_lt_of_cell? w _ hx202_5)).trans hx202_5
              replace p202 := eq_true p202
              replace q202 := eq_true q202
              go_wp2_with (first | ((with_reducible refine gate_dst (N := 5) rfl ?_); refine box_event ?hg (N := 5) ?hd (cs := #[.int .i64 0, .int .i64 0, .int .i64 0, .int .i64 0, .int .i64 0, .int .i64 0]) (t := 27) ?hr ?_; (case hd => rfl); (case hg => rfl); (case hr => first | (go_simp; done) | (go_simp; rfl)); intro gb203 hg w6 hbox hb; have n0_ := Aside0.mk (Kd.R_below (by (with_reducible repeat (first | apply Kd.R_alloc | apply Kd.R_drewN | apply Kd.R_drew)); exact HO_3.out) hb); have n1_ := Aside0.mk (below_step (by repeat (first | (with_reducible first | exact HB.out | apply below_alloc | apply pw_below_drewN | apply below_drew1) | exact HB.out)) hb); have n2_ := Aside0.mk (hbox); have n3_ := Aside0.mk ((by rw [hg]; exact (below_size (by repeat (first | (with_reducible first | exact HB.out | apply below_alloc | apply pw_below_drewN | apply below_drew1) | exact HB.out))) : w.heap.size ≤ gb203)); have n4_ := Aside0.mk ((by rw [hg]; exact (below_size (by repeat (first | (with_reducible first | exact HB.out | apply below_alloc | apply pw_below_drewN | apply below_drew1) | exact HB.out))) : w.heap.size ≤ gb203)); clear HO_3; clear HB; have HO_3 := n0_; have HB := n1_; have BK203 := n2_; have GW203 := n3_; have GE203 := n4_; clear n0_ n1_ n2_ n3_ n4_; clear hb hbox hg; have hcz7_0 : w6.cell? ⟨gb203, 0, none⟩ = some (.int .i64 0) := (blk_cell BK203.out 0).trans rfl; have hcz7_1 : w6.cell? ⟨gb203, 1, none⟩ = some (.int .i64 0) := (blk_cell BK203.out 1).trans rfl; have hcz7_2 : w6.cell? ⟨gb203, 2, none⟩ = some (.int .i64 0) := (blk_cell BK203.out 2).trans rfl; have hcz7_3 : w6.cell? ⟨gb203, 3, none⟩ = some (.int .i64 0) := (blk_cell BK203.out 3).trans rfl; have hcz7_4 : w6.cell? ⟨gb203, 4, none⟩ = some (.int .i64 0) := (blk_cell BK203.out 4).trans rfl; have hcz7_5 : w6.cell? ⟨gb203, 5, none⟩ = some (.int .i64 0) := (blk_cell BK203.out 5).trans rfl; have hfz7_0 := blk_frozen BK203.out 0; have hfz7_1 := blk_frozen BK203.out 1; have hfz7_2 := blk_frozen BK203.out 2; have hfz7_3 := blk_frozen BK203.out 3; have hfz7_4 := blk_frozen BK203.out 4; have hfz7_5 := blk_frozen BK203.out 5) | ((with_reducible refine gate_builtin (b := .append) (xs := #[.tmp 12, .tmp 14]) rfl ?_); at_builtin; refine Kd.R_append k30 (w0 := w) w.heap.size rfl (.tmp 12) (.tmp 14) 33 30 (.agg #[(.int .i64 0), (.int .i64 0), (.int .i64 0), (.int .i64 0), (.int .i64 0), (.int .i64 0)]) 48 rfl Try.underlying33 info30 rfl (by decide) (by omega) u3 x3_1 (⟨(⟨(rd_T27 l0 x8_1).f0.f0, (rd_T27 l0 x8_1).f0.f1⟩ : S25), (⟨(rd_T27 l0 x8_1).f1.f0, (rd_T27 l0 x8_1).f1.f1⟩ : S25), (rd_T27 l0 x8_1).f2, (rd_T27 l0 x8_1).f3⟩ : S30) [.int .i64 ((rd_T27 l0 x8_1).f0.f0), .int .i64 ((rd_T27 l0 x8_1).f0.f1), .int .i64 ((rd_T27 l0 x8_1).f1.f0), .int .i64 ((rd_T27 l0 x8_1).f1.f1), .int .i64 ((rd_T27 l0 x8_1).f2), .int .i64 ((rd_T27 l0 x8_1).f3)] (fun _ => True) (fun _ => False) rfl (by first | (go_simp; done) | (go_simp; rfl)) ?aP (fun _ hk => hk.elim) ?aF ?aO ?aB ?aS ?aL ?_; (case aP => exact k30_mkM _ _ _ (⟨(⟨(rd_T27 l0 x8_1).f0.f0, (rd_T27 l0 x8_1).f0.f1⟩ : S25), (⟨(rd_T27 l0 x8_1).f1.f0, (rd_T27 l0 x8_1).f1.f1⟩ : S25), (rd_T27 l0 x8_1).f2, (rd_T27 l0 x8_1).f3⟩ : S30)); (case aB => exact (by repeat (first | (with_reducible first | exact HB.out | apply below_alloc | apply pw_below_drewN | apply below_drew1 | refine below_set ?_ GE203.out) | exact HB.out))); (case aF => exact (fun _ _ => trivial)); (case aO => exact (by (with_reducible repeat (first | apply Kd.R_alloc | apply Kd.R_drewN | apply Kd.R_drew)); exact Kd.R_mono (Kd.R_far (p := ⟨gb203, 5, none⟩) (Kd.R_far (p := ⟨gb203, 4, none⟩) (Kd.R_far (p := ⟨gb203, 3, none⟩) (Kd.R_far (p := ⟨gb203, 2, none⟩) (Kd.R_far (p := ⟨gb203, 1, none⟩) (Kd.R_far (p := ⟨gb203, 0, none⟩) (Kd.R_types HO_3.out BK203.out (by decide)) (fun _ hk => hk.2) (.int .i64 ((rd_T27 l0 x8_1).f0.f0))) (fun _ hk => hk.2) (.int .i64 ((rd_T27 l0 x8_1).f0.f1))) (fun _ hk => hk.2) (.int .i64 ((rd_T27 l0 x8_1).f1.f0))) (fun _ hk => hk.2) (.int .i64 ((rd_T27 l0 x8_1).f1.f1))) (fun _ hk => hk.2) (.int .i64 ((rd_T27 l0 x8_1).f2))) (fun _ hk => hk.2) (.int .i64 ((rd_T27 l0 x8_1).f3))) (fun _ hk => trivial))); (case aS => exact (below_size (by repeat (first | (with_reducible first | exact HB.out | apply below_alloc | apply pw_below_drewN | apply below_drew1 | refine below_set ?_ GE203.out) | exact HB.out)))); (case aL => have := LMc5.out; omega); intro v205 w8 ho hb hg hat; rw [← Ny204.out] at ho; have n0_ := Aside0.mk (blk_grown (g := gb203) (o := .cells #[.int .i64 ((rd_T27 l0 x8_1).f0.f0), .int .i64 ((rd_T27 l0 x8_1).f0.f1), .int .i64 ((rd_T27 l0 x8_1).f1.f0), .int .i64 ((rd_T27 l0 x8_1).f1.f1), .int .i64 ((rd_T27 l0 x8_1).f2), .int .i64 ((rd_T27 l0 x8_1).f3)] 27 (0, 0)) (by (with_reducible repeat (first | refine blk_drewN ?_ _ | refine blk_drew ?_ | refine blk_alloc ?_ _)); refine blk_put (cs := #[.int .i64 ((rd_T27 l0 x8_1).f0.f0), .int .i64 ((rd_T27 l0 x8_1).f0.f1), .int .i64 ((rd_T27 l0 x8_1).f1.f0), .int .i64 ((rd_T27 l0 x8_1).f1.f1), .int .i64 ((rd_T27 l0 x8_1).f2), .int .i64 0]) ?_ 5 _ rfl; (with_reducible repeat (first | refine blk_drewN ?_ _ | refine blk_drew ?_ | refine blk_alloc ?_ _)); refine blk_put (cs := #[.int .i64 ((rd_T27 l0 x8_1).f0.f0), .int .i64 ((rd_T27 l0 x8_1).f0.f1), .int .i64 ((rd_T27 l0 x8_1).f1.f0), .int .i64 ((rd_T27 l0 x8_1).f1.f1), .int .i64 0, .int .i64 0]) ?_ 4 _ rfl; (with_reducible repeat (first | refine blk_drewN ?_ _ | refine blk_drew ?_ | refine blk_alloc ?_ _)); refine blk_put (cs := #[.int .i64 ((rd_T27 l0 x8_1).f0.f0), .int .i64 ((rd_T27 l0 x8_1).f0.f1), .int .i64 ((rd_T27 l0 x8_1).f1.f0), .int .i64 0, .int .i64 0, .int .i64 0]) ?_ 3 _ rfl; (with_reducible repeat (first | refine blk_drewN ?_ _ | refine blk_drew ?_ | refine blk_alloc ?_ _)); refine blk_put (cs := #[.int .i64 ((rd_T27 l0 x8_1).f0.f0), .int .i64 ((rd_T27 l0 x8_1).f0.f1), .int .i64 0, .int .i64 0, .int .i64 0, .int .i64 0]) ?_ 2 _ rfl; (with_reducible repeat (first | refine blk_drewN ?_ _ | refine blk_drew ?_ | refine blk_alloc ?_ _)); refine blk_put (cs := #[.int .i64 ((rd_T27 l0 x8_1).f0.f0), .int .i64 0, .int .i64 0, .int .i64 0, .int .i64 0, .int .i64 0]) ?_ 1 _ rfl; (with_reducible repeat (first | refine blk_drewN ?_ _ | refine blk_drew ?_ | refine blk_alloc ?_ _)); refine blk_put (cs := #[.int .i64 0, .int .i64 0, .int .i64 0, .int .i64 0, .int .i64 0, .int .i64 0]) ?_ 0 _ rfl; (with_reducible repeat (first | refine blk_drewN ?_ _ | refine blk_drew ?_ | refine blk_alloc ?_ _)); exact BK203.out) hg (Kd.R_ne HO_3.out BK203.out (by decide))); have n1_ := Aside0.mk (hb); have n2_ := Aside0.mk (ho); clear BK203; clear HB; clear HO_3; have BK203 := n0_; have HB := n1_; have HO206 := n2_; clear n0_ n1_ n2_; clear ho hb hg hat))
              go_roundg k1
              case measure => have := HK1.out; omega
              case rel => exact ⟨(y204), (wrap64 (x8_1 + 1)), (by first | rfl | (simp; done) | (simp [*]; done)), H', ⟨by have := HK1.out; omega⟩, ⟨by (with_reducible repeat (first | apply Kd.R_alloc | apply Kd.R_drewN | apply Kd.R_drew)); exact HO206.out⟩, ⟨by repeat (first | (with_reducible first | exact HB.out | apply below_alloc | apply pw_below_drewN | apply below_drew1 | refine below_set ?_ GE203.out) | exact HB.out)⟩⟩
            · rw [if_neg c5] at H
              exact absurd H (by simp)
          · rw [if_neg c4] at H
            exact absurd H (by simp)
        · rw [if_neg c3] at H
          exact absurd H (by simp)
      · rw [if_neg c2] at H
        have c2b0 : decide (x8_1 < (l0.length : Int)) = false := decide_eq_false c2
        clear c2
        obtain rfl := Option.some.inj H
        go_wp2
        go_ret
        exact ⟨_, by first | rfl | (simp [errW_none, errW_some] <;> rfl) | (simp [*, errW_none, errW_some] <;> rfl), by (with_reducible repeat (first | apply Kd.R_alloc | apply Kd.R_drewN | apply Kd.R_drew)); exact HO_3.out, by repeat (first | (with_reducible first | exact HB.out | apply below_alloc | apply pw_below_drewN | apply below_drew1) | exact HB.out)⟩

end Go.Proofs.Ytgmegmhioiljcaa.P
