/- Printed by printx.py (wip/tool) out of the translation: plain functions that tell what the program answers, and the proofs that the program comes to these answers, for all arguments of their kinds. Lean checks it. -/
import Derived.Test.YtnofihkmgedbfaaPx0
import Derived.Test.YtnofihkmgedbfaaPx1
import Derived.Test.YtnofihkmgedbfaaPx3
import Derived.Test.YtnofihkmgedbfaaPx7
namespace Go.Proofs.Ytnofihkmgedbfaa.P
open Go.RowKit Go.Proofs.YtnofihkmgedbfaaW.PrintWords Go.Proofs.YtnofihkmgedbfaaW.PrintLast Go.Proofs.YtnofihkmgedbfaaW.PrintMore
attribute [local go_sem] max2_int min2_int max_two min_two max_three min_three max_four min_four max_five min_five max_six min_six   -- for this text's walks alone
set_option linter.unusedVariables false
set_option linter.unusedSimpArgs false

/-! ### celluloidlaw18_StrokeDots: function 8 -/
def celluloidlaw18_StrokeDots.j0 : Nat → Int → Int → Bool → Int → Int → Int → Int → Int → Int → Option (Bool)
  | 0, _, _, _, _, _, _, _, _, _ => none
  | k + 1, x1, x2, x49, x357000, x357001, x357002, x357003, x357004, x357005 => if x49 = true then ((celluloidlaw18_awake.f k).bind fun t364 => (some t364)) else ((stroke_Near.f x357000 x357001 x357002 x357003 x357004 x357005 x1 x2).bind fun t365 => (if (t365 == (decide ((wrap64 (4 * (wrap64 ((wrap64 ((mx (mx (wrap64 ((mn x357000 x357002) - x1)) (wrap64 (x1 - (mx x357000 x357002)))) 0) * (mx (mx (wrap64 ((mn x357000 x357002) - x1)) (wrap64 (x1 - (mx x357000 x357002)))) 0))) + (wrap64 ((wrap64 (x2 - x357001)) * (wrap64 (x2 - x357001)))))))) ≤ (wrap64 (x357005 * x357005))))) = true then ((celluloidlaw18_awake.f k).bind fun t366 => (some t366)) else (some false)))
def celluloidlaw18_StrokeDots.f (k : Nat) (a0_0 : Int) (a0_1 : Int) (a0_2 : Int) (a0_3 : Int) (a0_4 : Int) (a0_5 : Int) (a1 : Int) (a2 : Int) : Option (Bool) := (celluloidlaw18_ref.f a0_0 a0_1 a0_2 a0_1 a0_4 a0_5).bind fun bt357 => ((celluloidref18_Right.f k bt357.1 bt357.2.1 bt357.2.2.1 bt357.2.2.2.1 bt357.2.2.2.2.1 bt357.2.2.2.2.2).bind fun t363 => (if t363 = true then (if (mx (mx (mx (mx a1 a2) a0_0) a0_2) a0_1) > 1048576 then (celluloidlaw18_StrokeDots.j0 k a1 a2 true a0_0 a0_1 a0_2 a0_1 a0_4 a0_5) else (celluloidlaw18_StrokeDots.j0 k a1 a2 (decide ((mn (mn (mn (mn a1 a2) a0_0) a0_2) a0_1) < (-1048576))) a0_0 a0_1 a0_2 a0_1 a0_4 a0_5)) else (celluloidlaw18_StrokeDots.j0 k a1 a2 true a0_0 a0_1 a0_2 a0_1 a0_4 a0_5)))
theorem celluloidlaw18_StrokeDots.mono_l : ∀ k, (∀ y0 y1 y2 y3 y4 y5 y6 y7 y8, LeO (celluloidlaw18_StrokeDots.j0 k y0 y1 y2 y3 y4 y5 y6 y7 y8) (celluloidlaw18_StrokeDots.j0 (k + 1) y0 y1 y2 y3 y4 y5 y6 y7 y8))
  | 0 => fun _ _ _ _ _ _ _ _ _ r h => by simp [celluloidlaw18_StrokeDots.j0] at h
  | k + 1 => by
    have ih0 := celluloidlaw18_StrokeDots.mono_l k
    · intro y0 y1 y2 y3 y4 y5 y6 y7 y8
      unfold celluloidlaw18_StrokeDots.j0
      repeat' first
      | (with_reducible exact ih0 _ _ _ _ _ _ _ _ _)
      | (with_reducible exact celluloidlaw18_awake.mono _)
      | (with_reducible exact celluloidref18_Right.mono _ _ _ _ _ _ _)
      | (with_reducible exact LeO.refl _)
      | (with_reducible exact LeO.none _)
      | (with_reducible refine LeO.ite ?_ ?_)
      | (with_reducible refine LeO.bind ?_ (fun _ => ?_))
      | exact ih0 _ _ _ _ _ _ _ _ _
      | exact celluloidlaw18_awake.mono _
      | exact celluloidref18_Right.mono _ _ _ _ _ _ _
      | exact LeO.none _
      | refine LeO.ite ?_ ?_
      | refine LeO.bind ?_ (fun _ => ?_)
theorem celluloidlaw18_StrokeDots.mono : ∀ a0 a1 a2 a3 a4 a5 a6 a7 k, LeO (celluloidlaw18_StrokeDots.f k a0 a1 a2 a3 a4 a5 a6 a7) (celluloidlaw18_StrokeDots.f (k + 1) a0 a1 a2 a3 a4 a5 a6 a7) := by
  intro a0 a1 a2 a3 a4 a5 a6 a7 k
  have ih0 := celluloidlaw18_StrokeDots.mono_l k
  unfold celluloidlaw18_StrokeDots.f
  repeat' first
      | (with_reducible exact ih0 _ _ _ _ _ _ _ _ _)
      | (with_reducible exact celluloidlaw18_awake.mono _)
      | (with_reducible exact celluloidref18_Right.mono _ _ _ _ _ _ _)
      | (with_reducible exact LeO.refl _)
      | (with_reducible exact LeO.none _)
      | (with_reducible refine LeO.ite ?_ ?_)
      | (with_reducible refine LeO.bind ?_ (fun _ => ?_))
      | exact ih0 _ _ _ _ _ _ _ _ _
      | exact celluloidlaw18_awake.mono _
      | exact celluloidref18_Right.mono _ _ _ _ _ _ _
      | exact LeO.none _
      | refine LeO.ite ?_ ?_
      | refine LeO.bind ?_ (fun _ => ?_)
def celluloidlaw18_StrokeDots.T4 : Bool × List (List Nat × List Nat) := (true, [([], []), ([0], [0]), ([1], [1]), ([], []), ([3], [3]), ([4], [4]), ([2, 5], [2, 5]), ([], []), ([7], [7]), ([8], [8]), ([], []), ([10], [10]), ([11], [11]), ([9, 12], [9, 12]), ([6, 0, 1, 2, 3, 4, 5, 6], [6]), ([13, 14, 0, 1, 2, 3, 4, 5, 6, 7, 8, 9, 10, 11, 12, 13, 14], [13])])
def celluloidlaw18_StrokeDots.B4 : List Nat := [0, 1, 3, 0, 8, 24, 63, 0, 128, 384, 0, 1024, 3072, 8064, 127, 32767]
theorem celluloidlaw18_StrokeDots.tab4 : rtab .any (opsOf Try.f8 4) = celluloidlaw18_StrokeDots.T4 := by kernel_rfl
theorem celluloidlaw18_StrokeDots.bits4 : waitsOk celluloidlaw18_StrokeDots.T4.2 celluloidlaw18_StrokeDots.B4 = true := by kernel_rfl
def celluloidlaw18_StrokeDots.T7 : Bool × List (List Nat × List Nat) := (true, [([], []), ([], []), ([], []), ([0, 1, 2], [0, 1, 2]), ([], []), ([], []), ([4, 5], [4, 5]), ([], []), ([], []), ([7, 8], [7, 8]), ([6, 9], [6, 9]), ([10], [10]), ([], []), ([12], [12]), ([], []), ([14], [14]), ([13, 15], [13, 15]), ([11, 16], [11, 16]), ([3, 17], [3, 17]), ([18, 3], [18]), ([19, 19], [19]), ([19, 20], [19, 20]), ([21, 20, 0, 1, 2, 3, 4, 5, 6, 7, 8, 9, 10, 11, 12, 13, 14, 15, 16, 17, 18, 19, 20, 21], [21])])
def celluloidlaw18_StrokeDots.B7 : List Nat := [0, 0, 0, 7, 0, 0, 48, 0, 0, 384, 1008, 2032, 0, 4096, 0, 16384, 61440, 131056, 262143, 524287, 1048575, 2097151, 4194303]
theorem celluloidlaw18_StrokeDots.tab7 : rtab .any (opsOf Try.f8 7) = celluloidlaw18_StrokeDots.T7 := by kernel_rfl
theorem celluloidlaw18_StrokeDots.bits7 : waitsOk celluloidlaw18_StrokeDots.T7.2 celluloidlaw18_StrokeDots.B7 = true := by kernel_rfl
set_option maxHeartbeats 8000000 in
set_option maxRecDepth 100000 in
theorem celluloidlaw18_StrokeDots.calls (k : Nat) (a0_0 : Int) (a0_1 : Int) (a0_2 : Int) (a0_3 : Int) (a0_4 : Int) (a0_5 : Int) (a1 : Int) (a2 : Int) (r : Bool) (w : World) (h : celluloidlaw18_StrokeDots.f k a0_0 a0_1 a0_2 a0_3 a0_4 a0_5 a1 a2 = some r) :
    Calls Try.prog 8 #[.agg #[.int .i64 a0_0, .int .i64 a0_1, .int .i64 a0_2, .int .i64 a0_3, .int .i64 a0_4, .int .i64 a0_5], .int .i64 a1, .int .i64 a2] w fun e w' => e = .returned (.bool r) ∧ Below w.heap.size w w' := by
  have hu25 := Try.underlying25
  have HB := Aside0.mk (Below.refl w.heap.size w)
  have H : ((celluloidlaw18_ref.f a0_0 a0_1 a0_2 a0_1 a0_4 a0_5).bind fun bt357 => ((celluloidref18_Right.f k bt357.1 bt357.2.1 bt357.2.2.1 bt357.2.2.2.1 bt357.2.2.2.2.1 bt357.2.2.2.2.2).bind fun t363 => (if t363 = true then (if (mx (mx (mx (mx a1 a2) a0_0) a0_2) a0_1) > 1048576 then (celluloidlaw18_StrokeDots.j0 k a1 a2 true a0_0 a0_1 a0_2 a0_1 a0_4 a0_5) else (celluloidlaw18_StrokeDots.j0 k a1 a2 (decide ((mn (mn (mn (mn a1 a2) a0_0) a0_2) a0_1) < (-1048576))) a0_0 a0_1 a0_2 a0_1 a0_4 a0_5)) else (celluloidlaw18_StrokeDots.j0 k a1 a2 true a0_0 a0_1 a0_2 a0_1 a0_4 a0_5)))) = some r := h
  clear h
  have HC4 := Aside0.mk H
  clear H
  go_enter Try.func8, Try.ntmps8
  go_upto_region 2 with (first | ((with_reducible refine gate_dst (N := 3) rfl ?_); (try (refine gate_guard (by rfl) ?_; dsimp only)); refine box_event ?hg (N := 3) ?hd (cs := #[.int .i64 a0_0, .int .i64 a0_1, .int .i64 a0_2, .int .i64 a0_3, .int .i64 a0_4, .int .i64 a0_5]) (t := 25) ?hr ?_; (case hd => rfl); (case hg => rfl); (case hr => first | (go_simp; done) | (go_simp; rfl)); intro gb356 hg w5 hbox hb; have n0_ := Aside0.mk (below_step (by repeat (first | (with_reducible first | exact HB.out | apply below_alloc | apply pw_below_drewN | apply below_drew1) | exact HB.out)) hb); have n1_ := Aside0.mk (hbox); have n2_ := Aside0.mk ((by rw [hg]; exact (below_size (by repeat (first | (with_reducible first | exact HB.out | apply below_alloc | apply pw_below_drewN | apply below_drew1) | exact HB.out))) : w.heap.size ≤ gb356)); have n3_ := Aside0.mk ((by rw [hg]; exact (below_size (by repeat (first | (with_reducible first | exact HB.out | apply below_alloc | apply pw_below_drewN | apply below_drew1) | exact HB.out))) : w.heap.size ≤ gb356)); clear HB; have HB := n0_; have BK356 := n1_; have GW356 := n2_; have GE356 := n3_; clear n0_ n1_ n2_ n3_; clear hb hbox hg; have hcz6_0 : w5.cell? ⟨gb356, 0, none⟩ = some (.int .i64 a0_0) := (blk_cell BK356.out 0).trans rfl; have hcz6_1 : w5.cell? ⟨gb356, 1, none⟩ = some (.int .i64 a0_1) := (blk_cell BK356.out 1).trans rfl; have hcz6_2 : w5.cell? ⟨gb356, 2, none⟩ = some (.int .i64 a0_2) := (blk_cell BK356.out 2).trans rfl; have hcz6_3 : w5.cell? ⟨gb356, 3, none⟩ = some (.int .i64 a0_3) := (blk_cell BK356.out 3).trans rfl; have hcz6_4 : w5.cell? ⟨gb356, 4, none⟩ = some (.int .i64 a0_4) := (blk_cell BK356.out 4).trans rfl; have hcz6_5 : w5.cell? ⟨gb356, 5, none⟩ = some (.int .i64 a0_5) := (blk_cell BK356.out 5).trans rfl; have hfz6_0 := blk_frozen BK356.out 0; have hfz6_1 := blk_frozen BK356.out 1; have hfz6_2 := blk_frozen BK356.out 2; have hfz6_3 := blk_frozen BK356.out 3; have hfz6_4 := blk_frozen BK356.out 4; have hfz6_5 := blk_frozen BK356.out 5))
  (try simp only [Act.put, List.setIfInBounds_toArray, List.set_cons_zero, List.set_cons_succ])
  go_cut [49] (fun v49 wc => ∃ (kq : Nat) (x49_3 : Bool), v49 = .bool x49_3 ∧ Aside0 (celluloidlaw18_StrokeDots.j0 kq a1 a2 x49_3 a0_0 a0_1 a0_2 a0_1 a0_4 a0_5 = some r) ∧ Aside0 (kq ≤ k) ∧ Aside0 (wc.heap[gb356]? = some (.cells #[.int .i64 a0_0, .int .i64 a0_1, .int .i64 a0_2, .int .i64 a0_1, .int .i64 a0_4, .int .i64 a0_5] 25 (0, 0))) ∧ Aside0 (Below w.heap.size w wc))
  case first =>
    have H := HC4.out
    clear HC4
    replace H := Option.bind_eq_some_iff.mp H
    obtain ⟨⟨t357, t358, t359, t360, t361, t362⟩, A70, H⟩ := H
    replace H : ((celluloidref18_Right.f k t357 t358 t359 t360 t361 t362).bind fun t363 => (if t363 = true then (if (mx (mx (mx (mx a1 a2) a0_0) a0_2) a0_1) > 1048576 then (celluloidlaw18_StrokeDots.j0 k a1 a2 true a0_0 a0_1 a0_2 a0_1 a0_4 a0_5) else (celluloidlaw18_StrokeDots.j0 k a1 a2 (decide ((mn (mn (mn (mn a1 a2) a0_0) a0_2) a0_1) < (-1048576))) a0_0 a0_1 a0_2 a0_1 a0_4 a0_5)) else (celluloidlaw18_StrokeDots.j0 k a1 a2 true a0_0 a0_1 a0_2 a0_1 a0_4 a0_5))) = some r := H
    have A7 := Aside0.mk A70
    clear A70
    replace H := Option.bind_eq_some_iff.mp H
    obtain ⟨t363, A80, H⟩ := H
    replace H : (if t363 = true then (if (mx (mx (mx (mx a1 a2) a0_0) a0_2) a0_1) > 1048576 then (celluloidlaw18_StrokeDots.j0 k a1 a2 true a0_0 a0_1 a0_2 a0_1 a0_4 a0_5) else (celluloidlaw18_StrokeDots.j0 k a1 a2 (decide ((mn (mn (mn (mn a1 a2) a0_0) a0_2) a0_1) < (-1048576))) a0_0 a0_1 a0_2 a0_1 a0_4 a0_5)) else (celluloidlaw18_StrokeDots.j0 k a1 a2 true a0_0 a0_1 a0_2 a0_1 a0_4 a0_5)) = some r := H
    have A8 := Aside0.mk A80
    clear A80
    by_cases c9 : t363 = true
    · subst c9
      have H1 : (if (mx (mx (mx (mx a1 a2) a0_0) a0_2) a0_1) > 1048576 then (celluloidlaw18_StrokeDots.j0 k a1 a2 true a0_0 a0_1 a0_2 a0_1 a0_4 a0_5) else (celluloidlaw18_StrokeDots.j0 k a1 a2 (decide ((mn (mn (mn (mn a1 a2) a0_0) a0_2) a0_1) < (-1048576))) a0_0 a0_1 a0_2 a0_1 a0_4 a0_5)) = some r := by rw [if_pos rfl] at H; exact H
      clear H
      have H := H1
      clear H1
      obtain ⟨ji10, hji10⟩ : ∃ j_ : Int, (mx a1 a2) = j_ := ⟨_, rfl⟩
      replace H : (if (mx (mx (mx (ji10) a0_0) a0_2) a0_1) > 1048576 then (celluloidlaw18_StrokeDots.j0 k a1 a2 true a0_0 a0_1 a0_2 a0_1 a0_4 a0_5) else (celluloidlaw18_StrokeDots.j0 k a1 a2 (decide ((mn (mn (mn (mn a1 a2) a0_0) a0_2) a0_1) < (-1048576))) a0_0 a0_1 a0_2 a0_1 a0_4 a0_5)) = some r := by first | (rw [hji10] at H; exact H) | (simp only [hji10] at H ⊢; exact H)
      (try rw [hji10] at A7)
      (try rw [hji10] at A8)
      have hji10_ : (if a1 < a2 then a2 else a1) = ji10 := hji10
      obtain ⟨ji11, hji11⟩ : ∃ j_ : Int, (mx (ji10) a0_0) = j_ := ⟨_, rfl⟩
      replace H : (if (mx (mx (ji11) a0_2) a0_1) > 1048576 then (celluloidlaw18_StrokeDots.j0 k a1 a2 true a0_0 a0_1 a0_2 a0_1 a0_4 a0_5) else (celluloidlaw18_StrokeDots.j0 k a1 a2 (decide ((mn (mn (mn (mn a1 a2) a0_0) a0_2) a0_1) < (-1048576))) a0_0 a0_1 a0_2 a0_1 a0_4 a0_5)) = some r := by first | (rw [hji11] at H; exact H) | (simp only [hji11] at H ⊢; exact H)
      (try rw [hji11] at A7)
      (try rw [hji11] at A8)
      have hji11_ : (if (ji10) < a0_0 then a0_0 else (ji10)) = ji11 := hji11
      obtain ⟨ji12, hji12⟩ : ∃ j_ : Int, (mx (ji11) a0_2) = j_ := ⟨_, rfl⟩
      replace H : (if (mx (ji12) a0_1) > 1048576 then (celluloidlaw18_StrokeDots.j0 k a1 a2 true a0_0 a0_1 a0_2 a0_1 a0_4 a0_5) else (celluloidlaw18_StrokeDots.j0 k a1 a2 (decide ((mn (mn (mn (mn a1 a2) a0_0) a0_2) a0_1) < (-1048576))) a0_0 a0_1 a0_2 a0_1 a0_4 a0_5)) = some r := by first | (rw [hji12] at H; exact H) | (simp only [hji12] at H ⊢; exact H)
      (try rw [hji12] at A7)
      (try rw [hji12] at A8)
      have hji12_ : (if (ji11) < a0_2 then a0_2 else (ji11)) = ji12 := hji12
      obtain ⟨ji13, hji13⟩ : ∃ j_ : Int, (mx (ji12) a0_1) = j_ := ⟨_, rfl⟩
      replace H : (if (ji13) > 1048576 then (celluloidlaw18_StrokeDots.j0 k a1 a2 true a0_0 a0_1 a0_2 a0_1 a0_4 a0_5) else (celluloidlaw18_StrokeDots.j0 k a1 a2 (decide ((mn (mn (mn (mn a1 a2) a0_0) a0_2) a0_1) < (-1048576))) a0_0 a0_1 a0_2 a0_1 a0_4 a0_5)) = some r := by first | (rw [hji13] at H; exact H) | (simp only [hji13] at H ⊢; exact H)
      (try rw [hji13] at A7)
      (try rw [hji13] at A8)
      have hji13_ : (if (ji12) < a0_1 then a0_1 else (ji12)) = ji13 := hji13
      by_cases c14 : (ji13) > 1048576
      · rw [if_pos c14] at H
        have c14b0 : decide (1048576 < (ji13)) = true := decide_eq_true c14
        clear c14
        (first | rw [c14b0] | (simp only [i64_w, i32_w]; rw [c14b0]) | skip)
        have H' := Aside0.mk H
        clear H
        have hcz15_0 : w5.cell? ⟨gb356, 0, none⟩ = some (.int .i64 a0_0) := (blk_cell BK356.out 0).trans rfl
        have hcz15_1 : w5.cell? ⟨gb356, 1, none⟩ = some (.int .i64 a0_1) := (blk_cell BK356.out 1).trans rfl
        have hcz15_2 : w5.cell? ⟨gb356, 2, none⟩ = some (.int .i64 a0_2) := (blk_cell BK356.out 2).trans rfl
        have hcz15_3 : w5.cell? ⟨gb356, 3, none⟩ = some (.int .i64 a0_3) := (blk_cell BK356.out 3).trans rfl
        have hcz15_4 : w5.cell? ⟨gb356, 4, none⟩ = some (.int .i64 a0_4) := (blk_cell BK356.out 4).trans rfl
        have hcz15_5 : w5.cell? ⟨gb356, 5, none⟩ = some (.int .i64 a0_5) := (blk_cell BK356.out 5).trans rfl
        have hfz15_0 := blk_frozen BK356.out 0
        have hfz15_1 := blk_frozen BK356.out 1
        have hfz15_2 := blk_frozen BK356.out 2
        have hfz15_3 := blk_frozen BK356.out 3
        have hfz15_4 := blk_frozen BK356.out 4
        have hfz15_5 := blk_frozen BK356.out 5
        go_wp2_with (first | ((with_reducible refine gate_callee (f := 11) rfl ?_); refine goesL_ (some 17) rfl rfl Try.func11 (by kernel_rfl) rfl #[.agg #[.int .i64 a0_0, .int .i64 a0_1, .int .i64 a0_2, .int .i64 a0_1, .int .i64 a0_4, .int .i64 a0_5]] rfl (by (try simp only [List.map_toArray, List.map_cons, List.map_nil]); first | done | rfl | (simp only [List.length_drop, List.length_take]; rfl)) ?_; (with_reducible refine (celluloidlaw18_ref.calls a0_0 a0_1 a0_2 a0_1 a0_4 a0_5 t357 t358 t359 t360 t361 t362 _ A7.out).mono ?_); rintro e w16 ⟨rfl, hb⟩; refine ⟨_, rfl, ?_⟩; have n0_ := Aside0.mk (blk_below (g := gb356) (o := .cells #[.int .i64 a0_0, .int .i64 a0_1, .int .i64 a0_2, .int .i64 a0_1, .int .i64 a0_4, .int .i64 a0_5] 25 (0, 0)) (by (with_reducible repeat (first | refine blk_drewN ?_ _ | refine blk_drew ?_ | refine blk_alloc ?_ _)); refine blk_put (cs := #[.int .i64 a0_0, .int .i64 a0_1, .int .i64 a0_2, .int .i64 a0_3, .int .i64 a0_4, .int .i64 a0_5]) ?_ 3 _ rfl; (with_reducible repeat (first | refine blk_drewN ?_ _ | refine blk_drew ?_ | refine blk_alloc ?_ _)); exact BK356.out) hb); have n1_ := Aside0.mk (below_step (by repeat (first | (with_reducible first | exact HB.out | apply below_alloc | apply pw_below_drewN | apply below_drew1 | refine below_set ?_ GE356.out) | exact HB.out)) hb); clear BK356; clear HB; have BK356 := n0_; have HB := n1_; clear n0_ n1_; (try clear hb); (try clear hb2); (try clear hk); (try clear hi)) | ((with_reducible refine gate_callee (f := 10) rfl ?_); refine goesL_ (some 18) rfl rfl Try.func10 (by kernel_rfl) rfl #[.agg #[.int .i64 t357, .int .i64 t358, .int .i64 t359, .int .i64 t360, .int .i64 t361, .int .i64 t362]] rfl (by (try simp only [List.map_toArray, List.map_cons, List.map_nil]); first | done | rfl | (simp only [List.length_drop, List.length_take]; rfl)) ?_; (with_reducible refine (celluloidref18_Right.calls k t357 t358 t359 t360 t361 t362 true _ A8.out).mono ?_); rintro e w17 ⟨rfl, hb⟩; refine ⟨_, rfl, ?_⟩; have n0_ := Aside0.mk (blk_below (g := gb356) (o := .cells #[.int .i64 a0_0, .int .i64 a0_1, .int .i64 a0_2, .int .i64 a0_1, .int .i64 a0_4, .int .i64 a0_5] 25 (0, 0)) (by (with_reducible repeat (first | refine blk_drewN ?_ _ | refine blk_drew ?_ | refine blk_alloc ?_ _)); exact BK356.out) hb); have n1_ := Aside0.mk (below_step (by repeat (first | (with_reducible first | exact HB.out | apply below_alloc | apply pw_below_drewN | apply below_drew1 | refine below_set ?_ GE356.out) | exact HB.out)) hb); clear BK356; clear HB; have BK356 := n0_; have HB := n1_; clear n0_ n1_; (try clear hb); (try clear hb2); (try clear hk); (try clear hi); have hcz18_0 : w17.cell? ⟨gb356, 0, none⟩ = some (.int .i64 a0_0) := (blk_cell BK356.out 0).trans rfl; have hcz18_1 : w17.cell? ⟨gb356, 1, none⟩ = some (.int .i64 a0_1) := (blk_cell BK356.out 1).trans rfl; have hcz18_2 : w17.cell? ⟨gb356, 2, none⟩ = some (.int .i64 a0_2) := (blk_cell BK356.out 2).trans rfl; have hcz18_3 : w17.cell? ⟨gb356, 3, none⟩ = some (.int .i64 a0_1) := (blk_cell BK356.out 3).trans rfl; have hcz18_4 : w17.cell? ⟨gb356, 4, none⟩ = some (.int .i64 a0_4) := (blk_cell BK356.out 4).trans rfl; have hcz18_5 : w17.cell? ⟨gb356, 5, none⟩ = some (.int .i64 a0_5) := (blk_cell BK356.out 5).trans rfl; have hfz18_0 := blk_frozen BK356.out 0; have hfz18_1 := blk_frozen BK356.out 1; have hfz18_2 := blk_frozen BK356.out 2; have hfz18_3 := blk_frozen BK356.out 3; have hfz18_4 := blk_frozen BK356.out 4; have hfz18_5 := blk_frozen BK356.out 5))
        go_meet
        case rel => exact ⟨_, (true), (by first | rfl | (simp; done) | (simp [*]; done)), H', ⟨by first | omega | exact Nat.le_refl _⟩, ⟨by (with_reducible repeat (first | refine blk_drewN ?_ _ | refine blk_drew ?_ | refine blk_alloc ?_ _)); exact BK356.out⟩, ⟨by repeat (first | (with_reducible first | exact HB.out | apply below_alloc | apply pw_below_drewN | apply below_drew1 | refine below_set ?_ GE356.out) | exact HB.out)⟩⟩
      · rw [if_neg c14] at H
        have c14b0 : decide (1048576 < (ji13)) = false := decide_eq_false c14
        clear c14
        (first | rw [c14b0] | (simp only [i64_w, i32_w]; rw [c14b0]) | skip)
        obtain ⟨ji19, hji19⟩ : ∃ j_ : Int, (mn a1 a2) = j_ := ⟨_, rfl⟩
        replace H : (celluloidlaw18_StrokeDots.j0 k a1 a2 (decide ((mn (mn (mn (ji19) a0_0) a0_2) a0_1) < (-1048576))) a0_0 a0_1 a0_2 a0_1 a0_4 a0_5) = some r := by first | (rw [hji19] at H; exact H) | (simp only [hji19] at H ⊢; exact H)
        (try rw [hji19] at A7)
        (try rw [hji19] at A8)
        have hji19_ : (if a2 < a1 then a2 else a1) = ji19 := hji19
        obtain ⟨ji20, hji20⟩ : ∃ j_ : Int, (mn (ji19) a0_0) = j_ := ⟨_, rfl⟩
        replace H : (celluloidlaw18_StrokeDots.j0 k a1 a2 (decide ((mn (mn (ji20) a0_2) a0_1) < (-1048576))) a0_0 a0_1 a0_2 a0_1 a0_4 a0_5) = some r := by first | (rw [hji20] at H; exact H) | (simp only [hji20] at H ⊢; exact H)
        (try rw [hji20] at A7)
        (try rw [hji20] at A8)
        have hji20_ : (if a0_0 < (ji19) then a0_0 else (ji19)) = ji20 := hji20
        obtain ⟨ji21, hji21⟩ : ∃ j_ : Int, (mn (ji20) a0_2) = j_ := ⟨_, rfl⟩
        replace H : (celluloidlaw18_StrokeDots.j0 k a1 a2 (decide ((mn (ji21) a0_1) < (-1048576))) a0_0 a0_1 a0_2 a0_1 a0_4 a0_5) = some r := by first | (rw [hji21] at H; exact H) | (simp only [hji21] at H ⊢; exact H)
        (try rw [hji21] at A7)
        (try rw [hji21] at A8)
        have hji21_ : (if a0_2 < (ji20) then a0_2 else (ji20)) = ji21 := hji21
        obtain ⟨ji22, hji22⟩ : ∃ j_ : Int, (mn (ji21) a0_1) = j_ := ⟨_, rfl⟩
        replace H : (celluloidlaw18_StrokeDots.j0 k a1 a2 (decide ((ji22) < (-1048576))) a0_0 a0_1 a0_2 a0_1 a0_4 a0_5) = some r := by first | (rw [hji22] at H; exact H) | (simp only [hji22] at H ⊢; exact H)
        (try rw [hji22] at A7)
        (try rw [hji22] at A8)
        have hji22_ : (if a0_1 < (ji21) then a0_1 else (ji21)) = ji22 := hji22
        have H' := Aside0.mk H
        clear H
        have hcz23_0 : w5.cell? ⟨gb356, 0, none⟩ = some (.int .i64 a0_0) := (blk_cell BK356.out 0).trans rfl
        have hcz23_1 : w5.cell? ⟨gb356, 1, none⟩ = some (.int .i64 a0_1) := (blk_cell BK356.out 1).trans rfl
        have hcz23_2 : w5.cell? ⟨gb356, 2, none⟩ = some (.int .i64 a0_2) := (blk_cell BK356.out 2).trans rfl
        have hcz23_3 : w5.cell? ⟨gb356, 3, none⟩ = some (.int .i64 a0_3) := (blk_cell BK356.out 3).trans rfl
        have hcz23_4 : w5.cell? ⟨gb356, 4, none⟩ = some (.int .i64 a0_4) := (blk_cell BK356.out 4).trans rfl
        have hcz23_5 : w5.cell? ⟨gb356, 5, none⟩ = some (.int .i64 a0_5) := (blk_cell BK356.out 5).trans rfl
        have hfz23_0 := blk_frozen BK356.out 0
        have hfz23_1 := blk_frozen BK356.out 1
        have hfz23_2 := blk_frozen BK356.out 2
        have hfz23_3 := blk_frozen BK356.out 3
        have hfz23_4 := blk_frozen BK356.out 4
        have hfz23_5 := blk_frozen BK356.out 5
        go_wp2_with (first | ((with_reducible refine gate_callee (f := 11) rfl ?_); refine goesL_ (some 17) rfl rfl Try.func11 (by kernel_rfl) rfl #[.agg #[.int .i64 a0_0, .int .i64 a0_1, .int .i64 a0_2, .int .i64 a0_1, .int .i64 a0_4, .int .i64 a0_5]] rfl (by (try simp only [List.map_toArray, List.map_cons, List.map_nil]); first | done | rfl | (simp only [List.length_drop, List.length_take]; rfl)) ?_; (with_reducible refine (celluloidlaw18_ref.calls a0_0 a0_1 a0_2 a0_1 a0_4 a0_5 t357 t358 t359 t360 t361 t362 _ A7.out).mono ?_); rintro e w24 ⟨rfl, hb⟩; refine ⟨_, rfl, ?_⟩; have n0_ := Aside0.mk (blk_below (g := gb356) (o := .cells #[.int .i64 a0_0, .int .i64 a0_1, .int .i64 a0_2, .int .i64 a0_1, .int .i64 a0_4, .int .i64 a0_5] 25 (0, 0)) (by (with_reducible repeat (first | refine blk_drewN ?_ _ | refine blk_drew ?_ | refine blk_alloc ?_ _)); refine blk_put (cs := #[.int .i64 a0_0, .int .i64 a0_1, .int .i64 a0_2, .int .i64 a0_3, .int .i64 a0_4, .int .i64 a0_5]) ?_ 3 _ rfl; (with_reducible repeat (first | refine blk_drewN ?_ _ | refine blk_drew ?_ | refine blk_alloc ?_ _)); exact BK356.out) hb); have n1_ := Aside0.mk (below_step (by repeat (first | (with_reducible first | exact HB.out | apply below_alloc | apply pw_below_drewN | apply below_drew1 | refine below_set ?_ GE356.out) | exact HB.out)) hb); clear BK356; clear HB; have BK356 := n0_; have HB := n1_; clear n0_ n1_; (try clear hb); (try clear hb2); (try clear hk); (try clear hi)) | ((with_reducible refine gate_callee (f := 10) rfl ?_); refine goesL_ (some 18) rfl rfl Try.func10 (by kernel_rfl) rfl #[.agg #[.int .i64 t357, .int .i64 t358, .int .i64 t359, .int .i64 t360, .int .i64 t361, .int .i64 t362]] rfl (by (try simp only [List.map_toArray, List.map_cons, List.map_nil]); first | done | rfl | (simp only [List.length_drop, List.length_take]; rfl)) ?_; (with_reducible refine (celluloidref18_Right.calls k t357 t358 t359 t360 t361 t362 true _ A8.out).mono ?_); rintro e w25 ⟨rfl, hb⟩; refine ⟨_, rfl, ?_⟩; have n0_ := Aside0.mk (blk_below (g := gb356) (o := .cells #[.int .i64 a0_0, .int .i64 a0_1, .int .i64 a0_2, .int .i64 a0_1, .int .i64 a0_4, .int .i64 a0_5] 25 (0, 0)) (by (with_reducible repeat (first | refine blk_drewN ?_ _ | refine blk_drew ?_ | refine blk_alloc ?_ _)); exact BK356.out) hb); have n1_ := Aside0.mk (below_step (by repeat (first | (with_reducible first | exact HB.out | apply below_alloc | apply pw_below_drewN | apply below_drew1 | refine below_set ?_ GE356.out) | exact HB.out)) hb); clear BK356; clear HB; have BK356 := n0_; have HB := n1_; clear n0_ n1_; (try clear hb); (try clear hb2); (try clear hk); (try clear hi); have hcz26_0 : w25.cell? ⟨gb356, 0, none⟩ = some (.int .i64 a0_0) := (blk_cell BK356.out 0).trans rfl; have hcz26_1 : w25.cell? ⟨gb356, 1, none⟩ = some (.int .i64 a0_1) := (blk_cell BK356.out 1).trans rfl; have hcz26_2 : w25.cell? ⟨gb356, 2, none⟩ = some (.int .i64 a0_2) := (blk_cell BK356.out 2).trans rfl; have hcz26_3 : w25.cell? ⟨gb356, 3, none⟩ = some (.int .i64 a0_1) := (blk_cell BK356.out 3).trans rfl; have hcz26_4 : w25.cell? ⟨gb356, 4, none⟩ = some (.int .i64 a0_4) := (blk_cell BK356.out 4).trans rfl; have hcz26_5 : w25.cell? ⟨gb356, 5, none⟩ = some (.int .i64 a0_5) := (blk_cell BK356.out 5).trans rfl; have hfz26_0 := blk_frozen BK356.out 0; have hfz26_1 := blk_frozen BK356.out 1; have hfz26_2 := blk_frozen BK356.out 2; have hfz26_3 := blk_frozen BK356.out 3; have hfz26_4 := blk_frozen BK356.out 4; have hfz26_5 := blk_frozen BK356.out 5))
        go_meet
        case rel => exact ⟨_, (decide ((ji22) < (-1048576))), (by first | rfl | (simp; done) | (simp only [← hji22] <;> (first | rfl | simp)) | (simp [*]; done)), H', ⟨by first | omega | exact Nat.le_refl _⟩, ⟨by (with_reducible repeat (first | refine blk_drewN ?_ _ | refine blk_drew ?_ | refine blk_alloc ?_ _)); exact BK356.out⟩, ⟨by repeat (first | (with_reducible first | exact HB.out | apply below_alloc | apply pw_below_drewN | apply below_drew1 | refine below_set ?_ GE356.out) | exact HB.out)⟩⟩
    · replace c9 := Bool.eq_false_iff.mpr c9
      subst c9
      have H1 : (celluloidlaw18_StrokeDots.j0 k a1 a2 true a0_0 a0_1 a0_2 a0_1 a0_4 a0_5) = some r := by rw [if_neg (show ¬ (false = true) by decide)] at H; exact H
      clear H
      have H := H1
      clear H1
      have H' := Aside0.mk H
      clear H
      have hcz27_0 : w5.cell? ⟨gb356, 0, none⟩ = some (.int .i64 a0_0) := (blk_cell BK356.out 0).trans rfl
      have hcz27_1 : w5.cell? ⟨gb356, 1, none⟩ = some (.int .i64 a0_1) := (blk_cell BK356.out 1).trans rfl
      have hcz27_2 : w5.cell? ⟨gb356, 2, none⟩ = some (.int .i64 a0_2) := (blk_cell BK356.out 2).trans rfl
      have hcz27_3 : w5.cell? ⟨gb356, 3, none⟩ = some (.int .i64 a0_3) := (blk_cell BK356.out 3).trans rfl
      have hcz27_4 : w5.cell? ⟨gb356, 4, none⟩ = some (.int .i64 a0_4) := (blk_cell BK356.out 4).trans rfl
      have hcz27_5 : w5.cell? ⟨gb356, 5, none⟩ = some (.int .i64 a0_5) := (blk_cell BK356.out 5).trans rfl
      have hfz27_0 := blk_frozen BK356.out 0
      have hfz27_1 := blk_frozen BK356.out 1
      have hfz27_2 := blk_frozen BK356.out 2
      have hfz27_3 := blk_frozen BK356.out 3
      have hfz27_4 := blk_frozen BK356.out 4
      have hfz27_5 := blk_frozen BK356.out 5
      go_wp2_with (first | ((with_reducible refine gate_callee (f := 11) rfl ?_); refine goesL_ (some 17) rfl rfl Try.func11 (by kernel_rfl) rfl #[.agg #[.int .i64 a0_0, .int .i64 a0_1, .int .i64 a0_2, .int .i64 a0_1, .int .i64 a0_4, .int .i64 a0_5]] rfl (by (try simp only [List.map_toArray, List.map_cons, List.map_nil]); first | done | rfl | (simp only [List.length_drop, List.length_take]; rfl)) ?_; (with_reducible refine (celluloidlaw18_ref.calls a0_0 a0_1 a0_2 a0_1 a0_4 a0_5 t357 t358 t359 t360 t361 t362 _ A7.out).mono ?_); rintro e w28 ⟨rfl, hb⟩; refine ⟨_, rfl, ?_⟩; have n0_ := Aside0.mk (blk_below (g := gb356) (o := .cells #[.int .i64 a0_0, .int .i64 a0_1, .int .i64 a0_2, .int .i64 a0_1, .int .i64 a0_4, .int .i64 a0_5] 25 (0, 0)) (by (with_reducible repeat (first | refine blk_drewN ?_ _ | refine blk_drew ?_ | refine blk_alloc ?_ _)); refine blk_put (cs := #[.int .i64 a0_0, .int .i64 a0_1, .int .i64 a0_2, .int .i64 a0_3, .int .i64 a0_4, .int .i64 a0_5]) ?_ 3 _ rfl; (with_reducible repeat (first | refine blk_drewN ?_ _ | refine blk_drew ?_ | refine blk_alloc ?_ _)); exact BK356.out) hb); have n1_ := Aside0.mk (below_step (by repeat (first | (with_reducible first | exact HB.out | apply below_alloc | apply pw_below_drewN | apply below_drew1 | refine below_set ?_ GE356.out) | exact HB.out)) hb); clear BK356; clear HB; have BK356 := n0_; have HB := n1_; clear n0_ n1_; (try clear hb); (try clear hb2); (try clear hk); (try clear hi)) | ((with_reducible refine gate_callee (f := 10) rfl ?_); refine goesL_ (some 18) rfl rfl Try.func10 (by kernel_rfl) rfl #[.agg #[.int .i64 t357, .int .i64 t358, .int .i64 t359, .int .i64 t360, .int .i64 t361, .int .i64 t362]] rfl (by (try simp only [List.map_toArray, List.map_cons, List.map_nil]); first | done | rfl | (simp only [List.length_drop, List.length_take]; rfl)) ?_; (with_reducible refine (celluloidref18_Right.calls k t357 t358 t359 t360 t361 t362 false _ A8.out).mono ?_); rintro e w29 ⟨rfl, hb⟩; refine ⟨_, rfl, ?_⟩; have n0_ := Aside0.mk (blk_below (g := gb356) (o := .cells #[.int .i64 a0_0, .int .i64 a0_1, .int .i64 a0_2, .int .i64 a0_1, .int .i64 a0_4, .int .i64 a0_5] 25 (0, 0)) (by (with_reducible repeat (first | refine blk_drewN ?_ _ | refine blk_drew ?_ | refine blk_alloc ?_ _)); exact BK356.out) hb); have n1_ := Aside0.mk (below_step (by repeat (first | (with_reducible first | exact HB.out | apply below_alloc | apply pw_below_drewN | apply below_drew1 | refine below_set ?_ GE356.out) | exact HB.out)) hb); clear BK356; clear HB; have BK356 := n0_; have HB := n1_; clear n0_ n1_; (try clear hb); (try clear hb2); (try clear hk); (try clear hi)))
      go_meet
      case rel => exact ⟨_, (true), (by first | rfl | (simp; done) | (simp [*]; done)), H', ⟨by first | omega | exact Nat.le_refl _⟩, ⟨by (with_reducible repeat (first | refine blk_drewN ?_ _ | refine blk_drew ?_ | refine blk_alloc ?_ _)); exact BK356.out⟩, ⟨by repeat (first | (with_reducible first | exact HB.out | apply below_alloc | apply pw_below_drewN | apply below_drew1 | refine below_set ?_ GE356.out) | exact HB.out)⟩⟩
  case rest =>
    clear HC4
    try clear c1
    try clear p2
    try clear c8
    try clear c9
    try clear c10
    try clear c11
    try clear c14
    try clear c14b0
    try clear hcz15_0
    try clear hcz15_1
    try clear hcz15_2
    try clear hcz15_3
    try clear hcz15_4
    try clear hcz15_5
    try clear hcz18_0
    try clear hcz18_1
    try clear hcz18_2
    try clear hcz18_3
    try clear hcz18_4
    try clear hcz18_5
    try clear hcz23_0
    try clear hcz23_1
    try clear hcz23_2
    try clear hcz23_3
    try clear hcz23_4
    try clear hcz23_5
    try clear hcz26_0
    try clear hcz26_1
    try clear hcz26_2
    try clear hcz26_3
    try clear hcz26_4
    try clear hcz26_5
    try clear hcz27_0
    try clear hcz27_1
    try clear hcz27_2
    try clear hcz27_3
    try clear hcz27_4
    try clear hcz27_5
    try clear hcz6_0
    try clear hcz6_1
    try clear hcz6_2
    try clear hcz6_3
    try clear hcz6_4
    try clear hcz6_5
    try clear hfz15_0
    try clear hfz15_1
    try clear hfz15_2
    try clear hfz15_3
    try clear hfz15_4
    try clear hfz15_5
    try clear hfz18_0
    try clear hfz18_1
    try clear hfz18_2
    try clear hfz18_3
    try clear hfz18_4
    try clear hfz18_5
    try clear hfz23_0
    try clear hfz23_1
    try clear hfz23_2
    try clear hfz23_3
    try clear hfz23_4
    try clear hfz23_5
    try clear hfz26_0
    try clear hfz26_1
    try clear hfz26_2
    try clear hfz26_3
    try clear hfz26_4
    try clear hfz26_5
    try clear hfz27_0
    try clear hfz27_1
    try clear hfz27_2
    try clear hfz27_3
    try clear hfz27_4
    try clear hfz27_5
    try clear hfz6_0
    try clear hfz6_1
    try clear hfz6_2
    try clear hfz6_3
    try clear hfz6_4
    try clear hfz6_5
    obtain ⟨kq, x49_3, rfl, HA, HJ3, BK356, HB⟩ := hcut
    cases kq with
    | zero => exact absurd HA.out (by simp [celluloidlaw18_StrokeDots.j0])
    | succ kj3 =>
      have H := HA.out
      clear HA
      simp only [celluloidlaw18_StrokeDots.j0] at H
      by_cases c30 : x49_3 = true
      · subst c30
        have H1 : ((celluloidlaw18_awake.f kj3).bind fun t364 => (some t364)) = some r := by rw [if_pos rfl] at H; exact H
        clear H
        have H := H1
        clear H1
        replace H := Option.bind_eq_some_iff.mp H
        obtain ⟨t364, A310, H⟩ := H
        replace H : (some t364) = some r := H
        have A31 := Aside0.mk A310
        clear A310
        obtain rfl := Option.some.inj H
        go_wp2_with (first | ((with_reducible refine gate_callee (f := 16) rfl ?_); refine goesL_ (some 50) rfl rfl Try.func16 (by kernel_rfl) rfl #[] rfl (by (try simp only [List.map_toArray, List.map_cons, List.map_nil]); first | done | rfl | (simp only [List.length_drop, List.length_take]; rfl)) ?_; (with_reducible refine (celluloidlaw18_awake.calls kj3  t364 _ A31.out).mono ?_); rintro e w32 ⟨rfl, hb⟩; refine ⟨_, rfl, ?_⟩; have n0_ := Aside0.mk (blk_below (g := gb356) (o := .cells #[.int .i64 a0_0, .int .i64 a0_1, .int .i64 a0_2, .int .i64 a0_1, .int .i64 a0_4, .int .i64 a0_5] 25 (0, 0)) (by (with_reducible repeat (first | refine blk_drewN ?_ _ | refine blk_drew ?_ | refine blk_alloc ?_ _)); exact BK356.out) hb); have n1_ := Aside0.mk (below_step (by repeat (first | (with_reducible first | exact HB.out | apply below_alloc | apply pw_below_drewN | apply below_drew1 | refine below_set ?_ GE356.out) | exact HB.out)) hb); clear BK356; clear HB; have BK356 := n0_; have HB := n1_; clear n0_ n1_; (try clear hb); (try clear hb2); (try clear hk); (try clear hi)))
        go_ret
        exact ⟨by first | rfl | (simp [errW_none, errW_some] <;> rfl) | (simp [*, errW_none, errW_some] <;> rfl), by repeat (first | (with_reducible first | exact HB.out | apply below_alloc | apply pw_below_drewN | apply below_drew1 | refine below_set ?_ GE356.out) | exact HB.out)⟩
      · replace c30 := Bool.eq_false_iff.mpr c30
        subst c30
        have H1 : ((stroke_Near.f a0_0 a0_1 a0_2 a0_1 a0_4 a0_5 a1 a2).bind fun t365 => (if (t365 == (decide ((wrap64 (4 * (wrap64 ((wrap64 ((mx (mx (wrap64 ((mn a0_0 a0_2) - a1)) (wrap64 (a1 - (mx a0_0 a0_2)))) 0) * (mx (mx (wrap64 ((mn a0_0 a0_2) - a1)) (wrap64 (a1 - (mx a0_0 a0_2)))) 0))) + (wrap64 ((wrap64 (a2 - a0_1)) * (wrap64 (a2 - a0_1)))))))) ≤ (wrap64 (a0_5 * a0_5))))) = true then ((celluloidlaw18_awake.f kj3).bind fun t366 => (some t366)) else (some false))) = some r := by rw [if_neg (show ¬ (false = true) by decide)] at H; exact H
        clear H
        have H := H1
        clear H1
        obtain ⟨ji33, hji33⟩ : ∃ j_ : Int, (mn a0_0 a0_2) = j_ := ⟨_, rfl⟩
        replace H : ((stroke_Near.f a0_0 a0_1 a0_2 a0_1 a0_4 a0_5 a1 a2).bind fun t365 => (if (t365 == (decide ((wrap64 (4 * (wrap64 ((wrap64 ((mx (mx (wrap64 ((ji33) - a1)) (wrap64 (a1 - (mx a0_0 a0_2)))) 0) * (mx (mx (wrap64 ((ji33) - a1)) (wrap64 (a1 - (mx a0_0 a0_2)))) 0))) + (wrap64 ((wrap64 (a2 - a0_1)) * (wrap64 (a2 - a0_1)))))))) ≤ (wrap64 (a0_5 * a0_5))))) = true then ((celluloidlaw18_awake.f kj3).bind fun t366 => (some t366)) else (some false))) = some r := by first | (rw [hji33] at H; exact H) | (simp only [hji33] at H ⊢; exact H)
        have hji33_ : (if a0_2 < a0_0 then a0_2 else a0_0) = ji33 := hji33
        obtain ⟨ji34, hji34⟩ : ∃ j_ : Int, (mx a0_0 a0_2) = j_ := ⟨_, rfl⟩
        replace H : ((stroke_Near.f a0_0 a0_1 a0_2 a0_1 a0_4 a0_5 a1 a2).bind fun t365 => (if (t365 == (decide ((wrap64 (4 * (wrap64 ((wrap64 ((mx (mx (wrap64 ((ji33) - a1)) (wrap64 (a1 - (ji34)))) 0) * (mx (mx (wrap64 ((ji33) - a1)) (wrap64 (a1 - (ji34)))) 0))) + (wrap64 ((wrap64 (a2 - a0_1)) * (wrap64 (a2 - a0_1)))))))) ≤ (wrap64 (a0_5 * a0_5))))) = true then ((celluloidlaw18_awake.f kj3).bind fun t366 => (some t366)) else (some false))) = some r := by first | (rw [hji34] at H; exact H) | (simp only [hji34] at H ⊢; exact H)
        have hji34_ : (if a0_0 < a0_2 then a0_2 else a0_0) = ji34 := hji34
        obtain ⟨ji35, hji35⟩ : ∃ j_ : Int, (mx (wrap64 ((ji33) - a1)) (wrap64 (a1 - (ji34)))) = j_ := ⟨_, rfl⟩
        replace H : ((stroke_Near.f a0_0 a0_1 a0_2 a0_1 a0_4 a0_5 a1 a2).bind fun t365 => (if (t365 == (decide ((wrap64 (4 * (wrap64 ((wrap64 ((mx (ji35) 0) * (mx (ji35) 0))) + (wrap64 ((wrap64 (a2 - a0_1)) * (wrap64 (a2 - a0_1)))))))) ≤ (wrap64 (a0_5 * a0_5))))) = true then ((celluloidlaw18_awake.f kj3).bind fun t366 => (some t366)) else (some false))) = some r := by first | (rw [hji35] at H; exact H) | (simp only [hji35] at H ⊢; exact H)
        have hji35_ : (if (wrap64 ((ji33) - a1)) < (wrap64 (a1 - (ji34))) then (wrap64 (a1 - (ji34))) else (wrap64 ((ji33) - a1))) = ji35 := hji35
        obtain ⟨ji36, hji36⟩ : ∃ j_ : Int, (mx (ji35) 0) = j_ := ⟨_, rfl⟩
        replace H : ((stroke_Near.f a0_0 a0_1 a0_2 a0_1 a0_4 a0_5 a1 a2).bind fun t365 => (if (t365 == (decide ((wrap64 (4 * (wrap64 ((wrap64 ((ji36) * (ji36))) + (wrap64 ((wrap64 (a2 - a0_1)) * (wrap64 (a2 - a0_1)))))))) ≤ (wrap64 (a0_5 * a0_5))))) = true then ((celluloidlaw18_awake.f kj3).bind fun t366 => (some t366)) else (some false))) = some r := by first | (rw [hji36] at H; exact H) | (simp only [hji36] at H ⊢; exact H)
        have hji36_ : (if (ji35) < 0 then 0 else (ji35)) = ji36 := hji36
        replace H := Option.bind_eq_some_iff.mp H
        obtain ⟨t365, A370, H⟩ := H
        replace H : (if (t365 == (decide ((wrap64 (4 * (wrap64 ((wrap64 ((ji36) * (ji36))) + (wrap64 ((wrap64 (a2 - a0_1)) * (wrap64 (a2 - a0_1)))))))) ≤ (wrap64 (a0_5 * a0_5))))) = true then ((celluloidlaw18_awake.f kj3).bind fun t366 => (some t366)) else (some false)) = some r := H
        have A37 := Aside0.mk A370
        clear A370
        by_cases c38 : (t365 == (decide ((wrap64 (4 * (wrap64 ((wrap64 ((ji36) * (ji36))) + (wrap64 ((wrap64 (a2 - a0_1)) * (wrap64 (a2 - a0_1)))))))) ≤ (wrap64 (a0_5 * a0_5))))) = true
        · rw [if_pos c38] at H
          have c38b0 : (t365 == (decide ((wrap64 (4 * (wrap64 ((wrap64 ((ji36) * (ji36))) + (wrap64 ((wrap64 (a2 - a0_1)) * (wrap64 (a2 - a0_1)))))))) ≤ (wrap64 (a0_5 * a0_5))))) = true := c38
          (try (have c38b1 : decide (t365 = (decide ((wrap64 (4 * (wrap64 ((wrap64 ((ji36) * (ji36))) + (wrap64 ((wrap64 (a2 - a0_1)) * (wrap64 (a2 - a0_1)))))))) ≤ (wrap64 (a0_5 * a0_5))))) = true := by simpa using c38))
          (try (have c38b2 : (t365 == (decide ((wrap64 (4 * (wrap64 ((wrap64 ((ji36) * (ji36))) + (wrap64 ((wrap64 (a2 - a0_1)) * (wrap64 (a2 - a0_1)))))))) ≤ (wrap64 (a0_5 * a0_5))))) = true := by simpa using c38))
          clear c38
          replace H := Option.bind_eq_some_iff.mp H
          obtain ⟨t366, A390, H⟩ := H
          replace H : (some t366) = some r := H
          have A39 := Aside0.mk A390
          clear A390
          obtain rfl := Option.some.inj H
          try go_wp2
          have n0_ := Aside0.mk (blk_drew BK356.out)
          have n1_ := Aside0.mk (below_drew1 HB.out)
          clear BK356
          clear HB
          have BK356 := n0_
          have HB := n1_
          clear n0_ n1_
          refine start_ (n := 16) (S := fun w' => w'.cell? ⟨gb356, 0, none⟩ = some (.int .i64 a0_0) ∧ w'.cell? ⟨gb356, 1, none⟩ = some (.int .i64 a0_1) ∧ w'.cell? ⟨gb356, 2, none⟩ = some (.int .i64 a0_2) ∧ w'.cell? ⟨gb356, 3, none⟩ = some (.int .i64 a0_1) ∧ w'.cell? ⟨gb356, 4, none⟩ = some (.int .i64 a0_4) ∧ w'.cell? ⟨gb356, 5, none⟩ = some (.int .i64 a0_5)) (ds := []) #[false, false, false, false, false, false, false, false, false, false, false, false, false, false, false, false] (by kernel_rfl) rfl rfl ⟨(blk_cell BK356.out 0).trans rfl, (blk_cell BK356.out 1).trans rfl, (blk_cell BK356.out 2).trans rfl, (blk_cell BK356.out 3).trans rfl, (blk_cell BK356.out 4).trans rfl, (blk_cell BK356.out 5).trans rfl⟩ (fun hHeld => ?_); refine with_tabW celluloidlaw18_StrokeDots.tab4 celluloidlaw18_StrokeDots.bits4 (fun HT_ HW_ => ?_)
          generalize wc.drew = w40 at BK356 HB hHeld ⊢
          refine pure_ (i := 0) (N := some 51) (v := ?_) (a' := ?_) #[true, false, false, false, false, false, false, false, false, false, false, false, false, false, false, false] rfl rfl (any_of HT_.out (by kernel_rfl)) (fun _ _ _ h => h) (Or.inl ⟨by rfl, ?_⟩) ?_ ?_
          rotate_left
          · intro w'
            go_simp
            with_reducible rfl
          rotate_left
          · simp only [Act.put, List.setIfInBounds_toArray, List.set_cons_zero, List.set_cons_succ, i64_w, i32_w]
            rfl
          refine pure_ (i := 1) (N := some 52) (v := ?_) (a' := ?_) #[true, true, false, false, false, false, false, false, false, false, false, false, false, false, false, false] rfl rfl (any_of HT_.out (by kernel_rfl)) (fun _ _ _ h => h) (Or.inl ⟨by rfl, ?_⟩) ?_ ?_
          rotate_left
          · intro w'
            go_simp
            with_reducible rfl
          rotate_left
          · simp only [Act.put, List.setIfInBounds_toArray, List.set_cons_zero, List.set_cons_succ, i64_w, i32_w]
            rfl
          refine pure_ (i := 3) (N := some 54) (v := ?_) (a' := ?_) #[true, true, false, true, false, false, false, false, false, false, false, false, false, false, false, false] rfl rfl (any_of HT_.out (by kernel_rfl)) (fun _ _ _ h => h) (Or.inl ⟨by rfl, ?_⟩) ?_ ?_
          rotate_left
          · intro w'
            go_simp
            with_reducible rfl
          rotate_left
          · simp only [Act.put, List.setIfInBounds_toArray, List.set_cons_zero, List.set_cons_succ, i64_w, i32_w]
            rfl
          refine pure_ (i := 4) (N := some 55) (v := ?_) (a' := ?_) #[true, true, false, true, true, false, false, false, false, false, false, false, false, false, false, false] rfl rfl (any_of HT_.out (by kernel_rfl)) (fun _ _ _ h => h) (Or.inl ⟨by rfl, ?_⟩) ?_ ?_
          rotate_left
          · intro w'
            go_simp
            with_reducible rfl
          rotate_left
          · simp only [Act.put, List.setIfInBounds_toArray, List.set_cons_zero, List.set_cons_succ, i64_w, i32_w]
            rfl
          refine pure_ (i := 7) (N := some 58) (v := ?_) (a' := ?_) #[true, true, false, true, true, false, false, true, false, false, false, false, false, false, false, false] rfl rfl (any_of HT_.out (by kernel_rfl)) (fun _ _ _ h => h) (Or.inl ⟨by rfl, ?_⟩) ?_ ?_
          rotate_left
          · intro w'
            go_simp
            with_reducible rfl
          rotate_left
          · simp only [Act.put, List.setIfInBounds_toArray, List.set_cons_zero, List.set_cons_succ, i64_w, i32_w]
            rfl
          refine pure_ (i := 8) (N := some 59) (v := ?_) (a' := ?_) #[true, true, false, true, true, false, false, true, true, false, false, false, false, false, false, false] rfl rfl (any_of HT_.out (by kernel_rfl)) (fun _ _ _ h => h) (Or.inl ⟨by rfl, ?_⟩) ?_ ?_
          rotate_left
          · intro w'
            go_simp
            with_reducible rfl
          rotate_left
          · simp only [Act.put, List.setIfInBounds_toArray, List.set_cons_zero, List.set_cons_succ, i64_w, i32_w]
            rfl
          refine pure_ (i := 10) (N := some 61) (v := ?_) (a' := ?_) #[true, true, false, true, true, false, false, true, true, false, true, false, false, false, false, false] rfl rfl (any_of HT_.out (by kernel_rfl)) (fun _ _ _ h => h) (Or.inl ⟨by rfl, ?_⟩) ?_ ?_
          rotate_left
          · intro w'
            go_simp
            with_reducible rfl
          rotate_left
          · simp only [Act.put, List.setIfInBounds_toArray, List.set_cons_zero, List.set_cons_succ, i64_w, i32_w]
            rfl
          refine pure_ (i := 11) (N := some 62) (v := ?_) (a' := ?_) #[true, true, false, true, true, false, false, true, true, false, true, true, false, false, false, false] rfl rfl (any_of HT_.out (by kernel_rfl)) (fun _ _ _ h => h) (Or.inl ⟨by rfl, ?_⟩) ?_ ?_
          rotate_left
          · intro w'
            go_simp
            with_reducible rfl
          rotate_left
          · simp only [Act.put, List.setIfInBounds_toArray, List.set_cons_zero, List.set_cons_succ, i64_w, i32_w]
            rfl
          refine take_ (i := 2) (N := some 53) (v := ?_) (a' := ?_) #[true, true, true, true, true, false, false, true, true, false, true, true, false, false, false, false] rfl rfl (take_ofW HT_.out HW_.out (by kernel_rfl)) (fun _ _ _ h => h) (Or.inl ⟨by rfl, ?_⟩) hHeld ?_ ?_
          rotate_left
          · rintro w' ⟨s0, s1, s2, s3, s4, s5⟩
            go_simp
            with_reducible rfl
          rotate_left
          · simp only [Act.put, List.setIfInBounds_toArray, List.set_cons_zero, List.set_cons_succ, i64_w, i32_w]
            rfl
          refine take_ (i := 5) (N := some 56) (v := ?_) (a' := ?_) #[true, true, true, true, true, true, false, true, true, false, true, true, false, false, false, false] rfl rfl (take_ofW HT_.out HW_.out (by kernel_rfl)) (fun _ _ _ h => h) (Or.inl ⟨by rfl, ?_⟩) hHeld ?_ ?_
          rotate_left
          · rintro w' ⟨s0, s1, s2, s3, s4, s5⟩
            go_simp
            with_reducible rfl
          rotate_left
          · simp only [Act.put, List.setIfInBounds_toArray, List.set_cons_zero, List.set_cons_succ, i64_w, i32_w]
            rfl
          refine pure_ (i := 6) (N := some 57) (v := ?_) (a' := ?_) #[true, true, true, true, true, true, true, true, true, false, true, true, false, false, false, false] rfl rfl (any_of HT_.out (by kernel_rfl)) (fun _ _ _ h => h) (Or.inl ⟨by rfl, ?_⟩) ?_ ?_
          rotate_left
          · intro w'
            go_simp
            with_reducible rfl
          rotate_left
          · simp only [Act.put, List.setIfInBounds_toArray, List.set_cons_zero, List.set_cons_succ, i64_w, i32_w]
            rfl
          refine pure_ (i := 14) (N := some 7) (v := ?_) (a' := ?_) #[true, true, true, true, true, true, true, true, true, false, true, true, false, false, true, false] rfl rfl (any_of HT_.out (by kernel_rfl)) (fun _ _ _ h => h) (Or.inl ⟨by rfl, ?_⟩) ?_ ?_
          rotate_left
          · intro w'
            go_simp
            with_reducible rfl
          rotate_left
          · simp only [Act.put, List.setIfInBounds_toArray, List.set_cons_zero, List.set_cons_succ, i64_w, i32_w]
            rfl
          refine take_ (i := 9) (N := some 60) (v := ?_) (a' := ?_) #[true, true, true, true, true, true, true, true, true, true, true, true, false, false, true, false] rfl rfl (take_ofW HT_.out HW_.out (by kernel_rfl)) (fun _ _ _ h => h) (Or.inl ⟨by rfl, ?_⟩) hHeld ?_ ?_
          rotate_left
          · rintro w' ⟨s0, s1, s2, s3, s4, s5⟩
            go_simp
            with_reducible rfl
          rotate_left
          · simp only [Act.put, List.setIfInBounds_toArray, List.set_cons_zero, List.set_cons_succ, i64_w, i32_w]
            rfl
          refine take_ (i := 12) (N := some 63) (v := ?_) (a' := ?_) #[true, true, true, true, true, true, true, true, true, true, true, true, true, false, true, false] rfl rfl (take_ofW HT_.out HW_.out (by kernel_rfl)) (fun _ _ _ h => h) (Or.inl ⟨by rfl, ?_⟩) hHeld ?_ ?_
          rotate_left
          · rintro w' ⟨s0, s1, s2, s3, s4, s5⟩
            go_simp
            with_reducible rfl
          rotate_left
          · simp only [Act.put, List.setIfInBounds_toArray, List.set_cons_zero, List.set_cons_succ, i64_w, i32_w]
            rfl
          refine pure_ (i := 13) (N := some 64) (v := ?_) (a' := ?_) #[true, true, true, true, true, true, true, true, true, true, true, true, true, true, true, false] rfl rfl (any_of HT_.out (by kernel_rfl)) (fun _ _ _ h => h) (Or.inl ⟨by rfl, ?_⟩) ?_ ?_
          rotate_left
          · intro w'
            go_simp
            with_reducible rfl
          rotate_left
          · simp only [Act.put, List.setIfInBounds_toArray, List.set_cons_zero, List.set_cons_succ, i64_w, i32_w]
            rfl
          refine pure_ (i := 15) (N := some 8) (v := ?_) (a' := ?_) #[true, true, true, true, true, true, true, true, true, true, true, true, true, true, true, true] rfl rfl (any_of HT_.out (by kernel_rfl)) (fun _ _ _ h => h) (Or.inl ⟨by rfl, ?_⟩) ?_ ?_
          rotate_left
          · intro w'
            go_simp
            with_reducible rfl
          rotate_left
          · simp only [Act.put, List.setIfInBounds_toArray, List.set_cons_zero, List.set_cons_succ, i64_w, i32_w]
            rfl
          refine done_ (done_of HT_.out (by kernel_rfl)) ?_
          have hcz41_0 : w40.cell? ⟨gb356, 0, none⟩ = some (.int .i64 a0_0) := (blk_cell BK356.out 0).trans rfl
          have hcz41_1 : w40.cell? ⟨gb356, 1, none⟩ = some (.int .i64 a0_1) := (blk_cell BK356.out 1).trans rfl
          have hcz41_2 : w40.cell? ⟨gb356, 2, none⟩ = some (.int .i64 a0_2) := (blk_cell BK356.out 2).trans rfl
          have hcz41_3 : w40.cell? ⟨gb356, 3, none⟩ = some (.int .i64 a0_1) := (blk_cell BK356.out 3).trans rfl
          have hcz41_4 : w40.cell? ⟨gb356, 4, none⟩ = some (.int .i64 a0_4) := (blk_cell BK356.out 4).trans rfl
          have hcz41_5 : w40.cell? ⟨gb356, 5, none⟩ = some (.int .i64 a0_5) := (blk_cell BK356.out 5).trans rfl
          have hfz41_0 := blk_frozen BK356.out 0
          have hfz41_1 := blk_frozen BK356.out 1
          have hfz41_2 := blk_frozen BK356.out 2
          have hfz41_3 := blk_frozen BK356.out 3
          have hfz41_4 := blk_frozen BK356.out 4
          have hfz41_5 := blk_frozen BK356.out 5
          try go_wp2
          have n0_ := Aside0.mk (blk_drew BK356.out)
          have n1_ := Aside0.mk (below_drew1 HB.out)
          clear BK356
          clear HB
          have BK356 := n0_
          have HB := n1_
          clear n0_ n1_
          refine start_ (n := 23) (S := fun w' => w'.cell? ⟨gb356, 0, none⟩ = some (.int .i64 a0_0) ∧ w'.cell? ⟨gb356, 1, none⟩ = some (.int .i64 a0_1) ∧ w'.cell? ⟨gb356, 2, none⟩ = some (.int .i64 a0_2) ∧ w'.cell? ⟨gb356, 3, none⟩ = some (.int .i64 a0_1) ∧ w'.cell? ⟨gb356, 4, none⟩ = some (.int .i64 a0_4) ∧ w'.cell? ⟨gb356, 5, none⟩ = some (.int .i64 a0_5)) (ds := []) #[false, false, false, false, false, false, false, false, false, false, false, false, false, false, false, false, false, false, false, false, false, false, false] (by kernel_rfl) rfl rfl ⟨(blk_cell BK356.out 0).trans rfl, (blk_cell BK356.out 1).trans rfl, (blk_cell BK356.out 2).trans rfl, (blk_cell BK356.out 3).trans rfl, (blk_cell BK356.out 4).trans rfl, (blk_cell BK356.out 5).trans rfl⟩ (fun hHeld => ?_); refine with_tabW celluloidlaw18_StrokeDots.tab7 celluloidlaw18_StrokeDots.bits7 (fun HT_ HW_ => ?_)
          generalize w40.drew = w42 at BK356 HB hHeld ⊢
          refine pure_ (i := 1) (N := some 78) (v := ?_) (a' := ?_) #[false, true, false, false, false, false, false, false, false, false, false, false, false, false, false, false, false, false, false, false, false, false, false] rfl rfl (any_of HT_.out (by kernel_rfl)) (fun _ _ _ h => h) (Or.inl ⟨by rfl, ?_⟩) ?_ ?_
          rotate_left
          · intro w'
            go_simp
            with_reducible rfl
          rotate_left
          · simp only [Act.put, List.setIfInBounds_toArray, List.set_cons_zero, List.set_cons_succ, i64_w, i32_w]
            rfl
          refine pure_ (i := 2) (N := some 79) (v := ?_) (a' := ?_) #[false, true, true, false, false, false, false, false, false, false, false, false, false, false, false, false, false, false, false, false, false, false, false] rfl rfl (any_of HT_.out (by kernel_rfl)) (fun _ _ _ h => h) (Or.inl ⟨by rfl, ?_⟩) ?_ ?_
          rotate_left
          · intro w'
            go_simp
            with_reducible rfl
          rotate_left
          · simp only [Act.put, List.setIfInBounds_toArray, List.set_cons_zero, List.set_cons_succ, i64_w, i32_w]
            rfl
          refine pure_ (i := 4) (N := some 81) (v := ?_) (a' := ?_) #[false, true, true, false, true, false, false, false, false, false, false, false, false, false, false, false, false, false, false, false, false, false, false] rfl rfl (any_of HT_.out (by kernel_rfl)) (fun _ _ _ h => h) (Or.inl ⟨by rfl, ?_⟩) ?_ ?_
          rotate_left
          · intro w'
            go_simp
            with_reducible rfl
          rotate_left
          · simp only [Act.put, List.setIfInBounds_toArray, List.set_cons_zero, List.set_cons_succ, i64_w, i32_w]
            rfl
          refine pure_ (i := 5) (N := some 82) (v := ?_) (a' := ?_) #[false, true, true, false, true, true, false, false, false, false, false, false, false, false, false, false, false, false, false, false, false, false, false] rfl rfl (any_of HT_.out (by kernel_rfl)) (fun _ _ _ h => h) (Or.inl ⟨by rfl, ?_⟩) ?_ ?_
          rotate_left
          · intro w'
            go_simp
            with_reducible rfl
          rotate_left
          · simp only [Act.put, List.setIfInBounds_toArray, List.set_cons_zero, List.set_cons_succ, i64_w, i32_w]
            rfl
          refine pure_ (i := 6) (N := some 83) (v := ?_) (a' := ?_) #[false, true, true, false, true, true, true, false, false, false, false, false, false, false, false, false, false, false, false, false, false, false, false] rfl rfl (any_of HT_.out (by kernel_rfl)) (fun _ _ _ h => h) (Or.inl ⟨by rfl, ?_⟩) ?_ ?_
          rotate_left
          · intro w'
            go_simp
            with_reducible rfl
          rotate_left
          · simp only [Act.put, List.setIfInBounds_toArray, List.set_cons_zero, List.set_cons_succ, i64_w, i32_w]
            rfl
          refine pure_ (i := 7) (N := some 84) (v := ?_) (a' := ?_) #[false, true, true, false, true, true, true, true, false, false, false, false, false, false, false, false, false, false, false, false, false, false, false] rfl rfl (any_of HT_.out (by kernel_rfl)) (fun _ _ _ h => h) (Or.inl ⟨by rfl, ?_⟩) ?_ ?_
          rotate_left
          · intro w'
            go_simp
            with_reducible rfl
          rotate_left
          · simp only [Act.put, List.setIfInBounds_toArray, List.set_cons_zero, List.set_cons_succ, i64_w, i32_w]
            rfl
          refine pure_ (i := 8) (N := some 85) (v := ?_) (a' := ?_) #[false, true, true, false, true, true, true, true, true, false, false, false, false, false, false, false, false, false, false, false, false, false, false] rfl rfl (any_of HT_.out (by kernel_rfl)) (fun _ _ _ h => h) (Or.inl ⟨by rfl, ?_⟩) ?_ ?_
          rotate_left
          · intro w'
            go_simp
            with_reducible rfl
          rotate_left
          · simp only [Act.put, List.setIfInBounds_toArray, List.set_cons_zero, List.set_cons_succ, i64_w, i32_w]
            rfl
          refine pure_ (i := 9) (N := some 86) (v := ?_) (a' := ?_) #[false, true, true, false, true, true, true, true, true, true, false, false, false, false, false, false, false, false, false, false, false, false, false] rfl rfl (any_of HT_.out (by kernel_rfl)) (fun _ _ _ h => h) (Or.inl ⟨by rfl, ?_⟩) ?_ ?_
          rotate_left
          · intro w'
            go_simp
            with_reducible rfl
          rotate_left
          · simp only [Act.put, List.setIfInBounds_toArray, List.set_cons_zero, List.set_cons_succ, i64_w, i32_w]
            rfl
          refine pure_ (i := 10) (N := some 87) (v := ?_) (a' := ?_) #[false, true, true, false, true, true, true, true, true, true, true, false, false, false, false, false, false, false, false, false, false, false, false] rfl rfl (any_of HT_.out (by kernel_rfl)) (fun _ _ _ h => h) (Or.inl ⟨by rfl, ?_⟩) ?_ ?_
          rotate_left
          · intro w'
            go_simp
            with_reducible rfl
          rotate_left
          · simp only [Act.put, List.setIfInBounds_toArray, List.set_cons_zero, List.set_cons_succ, i64_w, i32_w]
            rfl
          refine pure_ (i := 11) (N := some 88) (v := ?_) (a' := ?_) #[false, true, true, false, true, true, true, true, true, true, true, true, false, false, false, false, false, false, false, false, false, false, false] rfl rfl (any_of HT_.out (by kernel_rfl)) (fun _ _ _ h => h) (Or.inl ⟨by rfl, ?_⟩) ?_ ?_
          rotate_left
          · intro w'
            go_simp
            with_reducible rfl
          rotate_left
          · simp only [Act.put, List.setIfInBounds_toArray, List.set_cons_zero, List.set_cons_succ, i64_w, i32_w]
            rfl
          refine pure_ (i := 12) (N := some 89) (v := ?_) (a' := ?_) #[false, true, true, false, true, true, true, true, true, true, true, true, true, false, false, false, false, false, false, false, false, false, false] rfl rfl (any_of HT_.out (by kernel_rfl)) (fun _ _ _ h => h) (Or.inl ⟨by rfl, ?_⟩) ?_ ?_
          rotate_left
          · intro w'
            go_simp
            with_reducible rfl
          rotate_left
          · simp only [Act.put, List.setIfInBounds_toArray, List.set_cons_zero, List.set_cons_succ, i64_w, i32_w]
            rfl
          refine pure_ (i := 14) (N := some 91) (v := ?_) (a' := ?_) #[false, true, true, false, true, true, true, true, true, true, true, true, true, false, true, false, false, false, false, false, false, false, false] rfl rfl (any_of HT_.out (by kernel_rfl)) (fun _ _ _ h => h) (Or.inl ⟨by rfl, ?_⟩) ?_ ?_
          rotate_left
          · intro w'
            go_simp
            with_reducible rfl
          rotate_left
          · simp only [Act.put, List.setIfInBounds_toArray, List.set_cons_zero, List.set_cons_succ, i64_w, i32_w]
            rfl
          refine take_ (i := 0) (N := some 77) (v := ?_) (a' := ?_) #[true, true, true, false, true, true, true, true, true, true, true, true, true, false, true, false, false, false, false, false, false, false, false] rfl rfl (take_ofW HT_.out HW_.out (by kernel_rfl)) (fun _ _ _ h => h) (Or.inl ⟨by rfl, ?_⟩) hHeld ?_ ?_
          rotate_left
          · rintro w' ⟨s0, s1, s2, s3, s4, s5⟩
            go_simp
            with_reducible rfl
          rotate_left
          · simp only [Act.put, List.setIfInBounds_toArray, List.set_cons_zero, List.set_cons_succ, i64_w, i32_w]
            rfl
          refine take_ (i := 13) (N := some 90) (v := ?_) (a' := ?_) #[true, true, true, false, true, true, true, true, true, true, true, true, true, true, true, false, false, false, false, false, false, false, false] rfl rfl (take_ofW HT_.out HW_.out (by kernel_rfl)) (fun _ _ _ h => h) (Or.inl ⟨by rfl, ?_⟩) hHeld ?_ ?_
          rotate_left
          · rintro w' ⟨s0, s1, s2, s3, s4, s5⟩
            go_simp
            with_reducible rfl
          rotate_left
          · simp only [Act.put, List.setIfInBounds_toArray, List.set_cons_zero, List.set_cons_succ, i64_w, i32_w]
            rfl
          refine take_ (i := 15) (N := some 92) (v := ?_) (a' := ?_) #[true, true, true, false, true, true, true, true, true, true, true, true, true, true, true, true, false, false, false, false, false, false, false] rfl rfl (take_ofW HT_.out HW_.out (by kernel_rfl)) (fun _ _ _ h => h) (Or.inl ⟨by rfl, ?_⟩) hHeld ?_ ?_
          rotate_left
          · rintro w' ⟨s0, s1, s2, s3, s4, s5⟩
            go_simp
            with_reducible rfl
          rotate_left
          · simp only [Act.put, List.setIfInBounds_toArray, List.set_cons_zero, List.set_cons_succ, i64_w, i32_w]
            rfl
          refine pure_ (i := 16) (N := some 93) (v := ?_) (a' := ?_) #[true, true, true, false, true, true, true, true, true, true, true, true, true, true, true, true, true, false, false, false, false, false, false] rfl rfl (any_of HT_.out (by kernel_rfl)) (fun _ _ _ h => h) (Or.inl ⟨by rfl, ?_⟩) ?_ ?_
          rotate_left
          · intro w'
            go_simp
            with_reducible rfl
          rotate_left
          · simp only [Act.put, List.setIfInBounds_toArray, List.set_cons_zero, List.set_cons_succ, i64_w, i32_w]
            rfl
          refine pure_ (i := 17) (N := some 94) (v := ?_) (a' := ?_) #[true, true, true, false, true, true, true, true, true, true, true, true, true, true, true, true, true, true, false, false, false, false, false] rfl rfl (any_of HT_.out (by kernel_rfl)) (fun _ _ _ h => h) (Or.inl ⟨by rfl, ?_⟩) ?_ ?_
          rotate_left
          · intro w'
            go_simp
            with_reducible rfl
          rotate_left
          · simp only [Act.put, List.setIfInBounds_toArray, List.set_cons_zero, List.set_cons_succ, i64_w, i32_w]
            rfl
          refine one_ (i := 3) (N := some 80) #[true, true, true, true, true, true, true, true, true, true, true, true, true, true, true, true, true, true, false, false, false, false, false] rfl rfl (one_of HT_.out (by kernel_rfl)) (by decide) (fun K hK => ?_)
          refine goes_ Try.func15 (by kernel_rfl) rfl #[.agg #[.int .i64 a0_0, .int .i64 a0_1, .int .i64 a0_2, .int .i64 a0_1, .int .i64 a0_4, .int .i64 a0_5], .int .i64 a1, .int .i64 a2] (by rfl) rfl rfl (by (try simp only [List.map_toArray, List.map_cons, List.map_nil]); first | done | rfl | (simp only [List.length_drop, List.length_take]; rfl)) ?_
          with_reducible refine (stroke_Near.calls a0_0 a0_1 a0_2 a0_1 a0_4 a0_5 a1 a2 t365 _ A37.out).mono ?_
          rintro e w43 ⟨rfl, hb⟩
          refine ⟨_, rfl, ?_⟩
          have n0_ := Aside0.mk (blk_below (g := gb356) (o := .cells #[.int .i64 a0_0, .int .i64 a0_1, .int .i64 a0_2, .int .i64 a0_1, .int .i64 a0_4, .int .i64 a0_5] 25 (0, 0)) (by (with_reducible repeat (first | refine blk_drewN ?_ _ | refine blk_drew ?_ | refine blk_alloc ?_ _)); exact BK356.out) hb)
          have n1_ := Aside0.mk (below_step (by repeat (first | (with_reducible first | exact HB.out | apply below_alloc | apply pw_below_drewN | apply below_drew1 | refine below_set ?_ GE356.out) | exact HB.out)) hb)
          clear BK356
          clear HB
          have BK356 := n0_
          have HB := n1_
          clear n0_ n1_
          (try clear hb)
          (try clear hb2)
          (try clear hk)
          (try clear hi)
          refine hK.out _ _ ⟨(blk_cell BK356.out 0).trans rfl, (blk_cell BK356.out 1).trans rfl, (blk_cell BK356.out 2).trans rfl, (blk_cell BK356.out 3).trans rfl, (blk_cell BK356.out 4).trans rfl, (blk_cell BK356.out 5).trans rfl⟩ (fun hHeld => ?_)
          clear hK K
          refine norm_ (a' := ?_) ?_ ?_
          rotate_left
          · show Act.put _ (some 80) _ = _
            simp only [Act.put, List.setIfInBounds_toArray, List.set_cons_zero, List.set_cons_succ, i64_w, i32_w]
            rfl
          refine pure_ (i := 18) (N := some 95) (v := ?_) (a' := ?_) #[true, true, true, true, true, true, true, true, true, true, true, true, true, true, true, true, true, true, true, false, false, false, false] rfl rfl (any_of HT_.out (by kernel_rfl)) (fun _ _ _ h => h) (Or.inl ⟨by rfl, ?_⟩) ?_ ?_
          rotate_left
          · intro w'
            go_simp
            with_reducible rfl
          rotate_left
          · simp only [Act.put, List.setIfInBounds_toArray, List.set_cons_zero, List.set_cons_succ, i64_w, i32_w]
            rfl
          refine pure_ (i := 19) (N := some 96) (v := ?_) (a' := ?_) #[true, true, true, true, true, true, true, true, true, true, true, true, true, true, true, true, true, true, true, true, false, false, false] rfl rfl (any_of HT_.out (by kernel_rfl)) (fun _ _ _ h => h) (Or.inl ⟨by rfl, ?_⟩) ?_ ?_
          rotate_left
          · intro w'
            go_simp
            with_reducible rfl
          rotate_left
          · simp only [Act.put, List.setIfInBounds_toArray, List.set_cons_zero, List.set_cons_succ, i64_w, i32_w]
            rfl
          refine one_ (i := 20) (N := some 97) #[true, true, true, true, true, true, true, true, true, true, true, true, true, true, true, true, true, true, true, true, true, false, false] rfl rfl (one_of HT_.out (by kernel_rfl)) (by decide) (fun K hK => ?_)
          refine goes_ Try.func16 (by kernel_rfl) rfl #[] (by rfl) rfl rfl (by (try simp only [List.map_toArray, List.map_cons, List.map_nil]); first | done | rfl | (simp only [List.length_drop, List.length_take]; rfl)) ?_
          with_reducible refine (celluloidlaw18_awake.calls kj3  t366 _ A39.out).mono ?_
          rintro e w44 ⟨rfl, hb⟩
          refine ⟨_, rfl, ?_⟩
          have n0_ := Aside0.mk (blk_below (g := gb356) (o := .cells #[.int .i64 a0_0, .int .i64 a0_1, .int .i64 a0_2, .int .i64 a0_1, .int .i64 a0_4, .int .i64 a0_5] 25 (0, 0)) (by (with_reducible repeat (first | refine blk_drewN ?_ _ | refine blk_drew ?_ | refine blk_alloc ?_ _)); exact BK356.out) hb)
          have n1_ := Aside0.mk (below_step (by repeat (first | (with_reducible first | exact HB.out | apply below_alloc | apply pw_below_drewN | apply below_drew1 | refine below_set ?_ GE356.out) | exact HB.out)) hb)
          clear BK356
          clear HB
          have BK356 := n0_
          have HB := n1_
          clear n0_ n1_
          (try clear hb)
          (try clear hb2)
          (try clear hk)
          (try clear hi)
          refine hK.out _ _ ⟨(blk_cell BK356.out 0).trans rfl, (blk_cell BK356.out 1).trans rfl, (blk_cell BK356.out 2).trans rfl, (blk_cell BK356.out 3).trans rfl, (blk_cell BK356.out 4).trans rfl, (blk_cell BK356.out 5).trans rfl⟩ (fun hHeld => ?_)
          clear hK K
          refine norm_ (a' := ?_) ?_ ?_
          rotate_left
          · show Act.put _ (some 97) _ = _
            simp only [Act.put, List.setIfInBounds_toArray, List.set_cons_zero, List.set_cons_succ, i64_w, i32_w]
            rfl
          refine pure_ (i := 21) (N := some 98) (v := ?_) (a' := ?_) #[true, true, true, true, true, true, true, true, true, true, true, true, true, true, true, true, true, true, true, true, true, true, false] rfl rfl (any_of HT_.out (by kernel_rfl)) (fun _ _ _ h => h) (Or.inl ⟨by rfl, ?_⟩) ?_ ?_
          rotate_left
          · intro w'
            go_simp
            with_reducible rfl
          rotate_left
          · simp only [Act.put, List.setIfInBounds_toArray, List.set_cons_zero, List.set_cons_succ, i64_w, i32_w]
            rfl
          refine pure_ (i := 22) (N := some 6) (v := ?_) (a' := ?_) #[true, true, true, true, true, true, true, true, true, true, true, true, true, true, true, true, true, true, true, true, true, true, true] rfl rfl (any_of HT_.out (by kernel_rfl)) (fun _ _ _ h => h) (Or.inl ⟨by rfl, ?_⟩) ?_ ?_
          rotate_left
          · intro w'
            go_simp
            with_reducible rfl
          rotate_left
          · simp only [Act.put, List.setIfInBounds_toArray, List.set_cons_zero, List.set_cons_succ, i64_w, i32_w]
            rfl
          refine done_ (done_of HT_.out (by kernel_rfl)) ?_
          try go_wp2
          go_ret
          exact ⟨by first | rfl | (simp [errW_none, errW_some] <;> rfl) | (simp only [← hji33, ← hji34, ← hji35, ← hji36]; first | rfl | (simp [errW_none, errW_some] <;> rfl)) | (simp [*, errW_none, errW_some] <;> rfl), by repeat (first | (with_reducible first | exact HB.out | apply below_alloc | apply pw_below_drewN | apply below_drew1 | refine below_set ?_ GE356.out) | exact HB.out)⟩
        · rw [if_neg c38] at H
          have c38b0 : (t365 == (decide ((wrap64 (4 * (wrap64 ((wrap64 ((ji36) * (ji36))) + (wrap64 ((wrap64 (a2 - a0_1)) * (wrap64 (a2 - a0_1)))))))) ≤ (wrap64 (a0_5 * a0_5))))) = false := by simpa using c38
          (try (have c38b1 : decide (t365 = (decide ((wrap64 (4 * (wrap64 ((wrap64 ((ji36) * (ji36))) + (wrap64 ((wrap64 (a2 - a0_1)) * (wrap64 (a2 - a0_1)))))))) ≤ (wrap64 (a0_5 * a0_5))))) = false := by simpa using c38))
          (try (have c38b2 : (t365 == (decide ((wrap64 (4 * (wrap64 ((wrap64 ((ji36) * (ji36))) + (wrap64 ((wrap64 (a2 - a0_1)) * (wrap64 (a2 - a0_1)))))))) ≤ (wrap64 (a0_5 * a0_5))))) = false := by simpa using c38))
          (try (have c38b3 : ¬ (t365 = (decide ((wrap64 (4 * (wrap64 ((wrap64 ((ji36) * (ji36))) + (wrap64 ((wrap64 (a2 - a0_1)) * (wrap64 (a2 - a0_1)))))))) ≤ (wrap64 (a0_5 * a0_5))))) := by simpa using c38))
          clear c38
          obtain rfl := Option.some.inj H
          try go_wp2
          have n0_ := Aside0.mk (blk_drew BK356.out)
          have n1_ := Aside0.mk (below_drew1 HB.out)
          clear BK356
          clear HB
          have BK356 := n0_
          have HB := n1_
          clear n0_ n1_
          refine start_ (n := 16) (S := fun w' => w'.cell? ⟨gb356, 0, none⟩ = some (.int .i64 a0_0) ∧ w'.cell? ⟨gb356, 1, none⟩ = some (.int .i64 a0_1) ∧ w'.cell? ⟨gb356, 2, none⟩ = some (.int .i64 a0_2) ∧ w'.cell? ⟨gb356, 3, none⟩ = some (.int .i64 a0_1) ∧ w'.cell? ⟨gb356, 4, none⟩ = some (.int .i64 a0_4) ∧ w'.cell? ⟨gb356, 5, none⟩ = some (.int .i64 a0_5)) (ds := []) #[false, false, false, false, false, false, false, false, false, false, false, false, false, false, false, false] (by kernel_rfl) rfl rfl ⟨(blk_cell BK356.out 0).trans rfl, (blk_cell BK356.out 1).trans rfl, (blk_cell BK356.out 2).trans rfl, (blk_cell BK356.out 3).trans rfl, (blk_cell BK356.out 4).trans rfl, (blk_cell BK356.out 5).trans rfl⟩ (fun hHeld => ?_); refine with_tabW celluloidlaw18_StrokeDots.tab4 celluloidlaw18_StrokeDots.bits4 (fun HT_ HW_ => ?_)
          generalize wc.drew = w45 at BK356 HB hHeld ⊢
          refine pure_ (i := 0) (N := some 51) (v := ?_) (a' := ?_) #[true, false, false, false, false, false, false, false, false, false, false, false, false, false, false, false] rfl rfl (any_of HT_.out (by kernel_rfl)) (fun _ _ _ h => h) (Or.inl ⟨by rfl, ?_⟩) ?_ ?_
          rotate_left
          · intro w'
            go_simp
            with_reducible rfl
          rotate_left
          · simp only [Act.put, List.setIfInBounds_toArray, List.set_cons_zero, List.set_cons_succ, i64_w, i32_w]
            rfl
          refine pure_ (i := 1) (N := some 52) (v := ?_) (a' := ?_) #[true, true, false, false, false, false, false, false, false, false, false, false, false, false, false, false] rfl rfl (any_of HT_.out (by kernel_rfl)) (fun _ _ _ h => h) (Or.inl ⟨by rfl, ?_⟩) ?_ ?_
          rotate_left
          · intro w'
            go_simp
            with_reducible rfl
          rotate_left
          · simp only [Act.put, List.setIfInBounds_toArray, List.set_cons_zero, List.set_cons_succ, i64_w, i32_w]
            rfl
          refine pure_ (i := 3) (N := some 54) (v := ?_) (a' := ?_) #[true, true, false, true, false, false, false, false, false, false, false, false, false, false, false, false] rfl rfl (any_of HT_.out (by kernel_rfl)) (fun _ _ _ h => h) (Or.inl ⟨by rfl, ?_⟩) ?_ ?_
          rotate_left
          · intro w'
            go_simp
            with_reducible rfl
          rotate_left
          · simp only [Act.put, List.setIfInBounds_toArray, List.set_cons_zero, List.set_cons_succ, i64_w, i32_w]
            rfl
          refine pure_ (i := 4) (N := some 55) (v := ?_) (a' := ?_) #[true, true, false, true, true, false, false, false, false, false, false, false, false, false, false, false] rfl rfl (any_of HT_.out (by kernel_rfl)) (fun _ _ _ h => h) (Or.inl ⟨by rfl, ?_⟩) ?_ ?_
          rotate_left
          · intro w'
            go_simp
            with_reducible rfl
          rotate_left
          · simp only [Act.put, List.setIfInBounds_toArray, List.set_cons_zero, List.set_cons_succ, i64_w, i32_w]
            rfl
          refine pure_ (i := 7) (N := some 58) (v := ?_) (a' := ?_) #[true, true, false, true, true, false, false, true, false, false, false, false, false, false, false, false] rfl rfl (any_of HT_.out (by kernel_rfl)) (fun _ _ _ h => h) (Or.inl ⟨by rfl, ?_⟩) ?_ ?_
          rotate_left
          · intro w'
            go_simp
            with_reducible rfl
          rotate_left
          · simp only [Act.put, List.setIfInBounds_toArray, List.set_cons_zero, List.set_cons_succ, i64_w, i32_w]
            rfl
          refine pure_ (i := 8) (N := some 59) (v := ?_) (a' := ?_) #[true, true, false, true, true, false, false, true, true, false, false, false, false, false, false, false] rfl rfl (any_of HT_.out (by kernel_rfl)) (fun _ _ _ h => h) (Or.inl ⟨by rfl, ?_⟩) ?_ ?_
          rotate_left
          · intro w'
            go_simp
            with_reducible rfl
          rotate_left
          · simp only [Act.put, List.setIfInBounds_toArray, List.set_cons_zero, List.set_cons_succ, i64_w, i32_w]
            rfl
          refine pure_ (i := 10) (N := some 61) (v := ?_) (a' := ?_) #[true, true, false, true, true, false, false, true, true, false, true, false, false, false, false, false] rfl rfl (any_of HT_.out (by kernel_rfl)) (fun _ _ _ h => h) (Or.inl ⟨by rfl, ?_⟩) ?_ ?_
          rotate_left
          · intro w'
            go_simp
            with_reducible rfl
          rotate_left
          · simp only [Act.put, List.setIfInBounds_toArray, List.set_cons_zero, List.set_cons_succ, i64_w, i32_w]
            rfl
          refine pure_ (i := 11) (N := some 62) (v := ?_) (a' := ?_) #[true, true, false, true, true, false, false, true, true, false, true, true, false, false, false, false] rfl rfl (any_of HT_.out (by kernel_rfl)) (fun _ _ _ h => h) (Or.inl ⟨by rfl, ?_⟩) ?_ ?_
          rotate_left
          · intro w'
            go_simp
            with_reducible rfl
          rotate_left
          · simp only [Act.put, List.setIfInBounds_toArray, List.set_cons_zero, List.set_cons_succ, i64_w, i32_w]
            rfl
          refine take_ (i := 2) (N := some 53) (v := ?_) (a' := ?_) #[true, true, true, true, true, false, false, true, true, false, true, true, false, false, false, false] rfl rfl (take_ofW HT_.out HW_.out (by kernel_rfl)) (fun _ _ _ h => h) (Or.inl ⟨by rfl, ?_⟩) hHeld ?_ ?_
          rotate_left
          · rintro w' ⟨s0, s1, s2, s3, s4, s5⟩
            go_simp
            with_reducible rfl
          rotate_left
          · simp only [Act.put, List.setIfInBounds_toArray, List.set_cons_zero, List.set_cons_succ, i64_w, i32_w]
            rfl
          refine take_ (i := 5) (N := some 56) (v := ?_) (a' := ?_) #[true, true, true, true, true, true, false, true, true, false, true, true, false, false, false, false] rfl rfl (take_ofW HT_.out HW_.out (by kernel_rfl)) (fun _ _ _ h => h) (Or.inl ⟨by rfl, ?_⟩) hHeld ?_ ?_
          rotate_left
          · rintro w' ⟨s0, s1, s2, s3, s4, s5⟩
            go_simp
            with_reducible rfl
          rotate_left
          · simp only [Act.put, List.setIfInBounds_toArray, List.set_cons_zero, List.set_cons_succ, i64_w, i32_w]
            rfl
          refine pure_ (i := 6) (N := some 57) (v := ?_) (a' := ?_) #[true, true, true, true, true, true, true, true, true, false, true, true, false, false, false, false] rfl rfl (any_of HT_.out (by kernel_rfl)) (fun _ _ _ h => h) (Or.inl ⟨by rfl, ?_⟩) ?_ ?_
          rotate_left
          · intro w'
            go_simp
            with_reducible rfl
          rotate_left
          · simp only [Act.put, List.setIfInBounds_toArray, List.set_cons_zero, List.set_cons_succ, i64_w, i32_w]
            rfl
          refine pure_ (i := 14) (N := some 7) (v := ?_) (a' := ?_) #[true, true, true, true, true, true, true, true, true, false, true, true, false, false, true, false] rfl rfl (any_of HT_.out (by kernel_rfl)) (fun _ _ _ h => h) (Or.inl ⟨by rfl, ?_⟩) ?_ ?_
          rotate_left
          · intro w'
            go_simp
            with_reducible rfl
          rotate_left
          · simp only [Act.put, List.setIfInBounds_toArray, List.set_cons_zero, List.set_cons_succ, i64_w, i32_w]
            rfl
          refine take_ (i := 9) (N := some 60) (v := ?_) (a' := ?_) #[true, true, true, true, true, true, true, true, true, true, true, true, false, false, true, false] rfl rfl (take_ofW HT_.out HW_.out (by kernel_rfl)) (fun _ _ _ h => h) (Or.inl ⟨by rfl, ?_⟩) hHeld ?_ ?_
          rotate_left
          · rintro w' ⟨s0, s1, s2, s3, s4, s5⟩
            go_simp
            with_reducible rfl
          rotate_left
          · simp only [Act.put, List.setIfInBounds_toArray, List.set_cons_zero, List.set_cons_succ, i64_w, i32_w]
            rfl
          refine take_ (i := 12) (N := some 63) (v := ?_) (a' := ?_) #[true, true, true, true, true, true, true, true, true, true, true, true, true, false, true, false] rfl rfl (take_ofW HT_.out HW_.out (by kernel_rfl)) (fun _ _ _ h => h) (Or.inl ⟨by rfl, ?_⟩) hHeld ?_ ?_
          rotate_left
          · rintro w' ⟨s0, s1, s2, s3, s4, s5⟩
            go_simp
            with_reducible rfl
          rotate_left
          · simp only [Act.put, List.setIfInBounds_toArray, List.set_cons_zero, List.set_cons_succ, i64_w, i32_w]
            rfl
          refine pure_ (i := 13) (N := some 64) (v := ?_) (a' := ?_) #[true, true, true, true, true, true, true, true, true, true, true, true, true, true, true, false] rfl rfl (any_of HT_.out (by kernel_rfl)) (fun _ _ _ h => h) (Or.inl ⟨by rfl, ?_⟩) ?_ ?_
          rotate_left
          · intro w'
            go_simp
            with_reducible rfl
          rotate_left
          · simp only [Act.put, List.setIfInBounds_toArray, List.set_cons_zero, List.set_cons_succ, i64_w, i32_w]
            rfl
          refine pure_ (i := 15) (N := some 8) (v := ?_) (a' := ?_) #[true, true, true, true, true, true, true, true, true, true, true, true, true, true, true, true] rfl rfl (any_of HT_.out (by kernel_rfl)) (fun _ _ _ h => h) (Or.inl ⟨by rfl, ?_⟩) ?_ ?_
          rotate_left
          · intro w'
            go_simp
            with_reducible rfl
          rotate_left
          · simp only [Act.put, List.setIfInBounds_toArray, List.set_cons_zero, List.set_cons_succ, i64_w, i32_w]
            rfl
          refine done_ (done_of HT_.out (by kernel_rfl)) ?_
          have hcz46_0 : w45.cell? ⟨gb356, 0, none⟩ = some (.int .i64 a0_0) := (blk_cell BK356.out 0).trans rfl
          have hcz46_1 : w45.cell? ⟨gb356, 1, none⟩ = some (.int .i64 a0_1) := (blk_cell BK356.out 1).trans rfl
          have hcz46_2 : w45.cell? ⟨gb356, 2, none⟩ = some (.int .i64 a0_2) := (blk_cell BK356.out 2).trans rfl
          have hcz46_3 : w45.cell? ⟨gb356, 3, none⟩ = some (.int .i64 a0_1) := (blk_cell BK356.out 3).trans rfl
          have hcz46_4 : w45.cell? ⟨gb356, 4, none⟩ = some (.int .i64 a0_4) := (blk_cell BK356.out 4).trans rfl
          have hcz46_5 : w45.cell? ⟨gb356, 5, none⟩ = some (.int .i64 a0_5) := (blk_cell BK356.out 5).trans rfl
          have hfz46_0 := blk_frozen BK356.out 0
          have hfz46_1 := blk_frozen BK356.out 1
          have hfz46_2 := blk_frozen BK356.out 2
          have hfz46_3 := blk_frozen BK356.out 3
          have hfz46_4 := blk_frozen BK356.out 4
          have hfz46_5 := blk_frozen BK356.out 5
          try go_wp2
          have n0_ := Aside0.mk (blk_drew BK356.out)
          have n1_ := Aside0.mk (below_drew1 HB.out)
          clear BK356
          clear HB
          have BK356 := n0_
          have HB := n1_
          clear n0_ n1_
          refine start_ (n := 23) (S := fun w' => w'.cell? ⟨gb356, 0, none⟩ = some (.int .i64 a0_0) ∧ w'.cell? ⟨gb356, 1, none⟩ = some (.int .i64 a0_1) ∧ w'.cell? ⟨gb356, 2, none⟩ = some (.int .i64 a0_2) ∧ w'.cell? ⟨gb356, 3, none⟩ = some (.int .i64 a0_1) ∧ w'.cell? ⟨gb356, 4, none⟩ = some (.int .i64 a0_4) ∧ w'.cell? ⟨gb356, 5, none⟩ = some (.int .i64 a0_5)) (ds := []) #[false, false, false, false, false, false, false, false, false, false, false, false, false, false, false, false, false, false, false, false, false, false, false] (by kernel_rfl) rfl rfl ⟨(blk_cell BK356.out 0).trans rfl, (blk_cell BK356.out 1).trans rfl, (blk_cell BK356.out 2).trans rfl, (blk_cell BK356.out 3).trans rfl, (blk_cell BK356.out 4).trans rfl, (blk_cell BK356.out 5).trans rfl⟩ (fun hHeld => ?_); refine with_tabW celluloidlaw18_StrokeDots.tab7 celluloidlaw18_StrokeDots.bits7 (fun HT_ HW_ => ?_)
          generalize w45.drew = w47 at BK356 HB hHeld ⊢
          refine pure_ (i := 1) (N := some 78) (v := ?_) (a' := ?_) #[false, true, false, false, false, false, false, false, false, false, false, false, false, false, false, false, false, false, false, false, false, false, false] rfl rfl (any_of HT_.out (by kernel_rfl)) (fun _ _ _ h => h) (Or.inl ⟨by rfl, ?_⟩) ?_ ?_
          rotate_left
          · intro w'
            go_simp
            with_reducible rfl
          rotate_left
          · simp only [Act.put, List.setIfInBounds_toArray, List.set_cons_zero, List.set_cons_succ, i64_w, i32_w]
            rfl
          refine pure_ (i := 2) (N := some 79) (v := ?_) (a' := ?_) #[false, true, true, false, false, false, false, false, false, false, false, false, false, false, false, false, false, false, false, false, false, false, false] rfl rfl (any_of HT_.out (by kernel_rfl)) (fun _ _ _ h => h) (Or.inl ⟨by rfl, ?_⟩) ?_ ?_
          rotate_left
          · intro w'
            go_simp
            with_reducible rfl
          rotate_left
          · simp only [Act.put, List.setIfInBounds_toArray, List.set_cons_zero, List.set_cons_succ, i64_w, i32_w]
            rfl
          refine pure_ (i := 4) (N := some 81) (v := ?_) (a' := ?_) #[false, true, true, false, true, false, false, false, false, false, false, false, false, false, false, false, false, false, false, false, false, false, false] rfl rfl (any_of HT_.out (by kernel_rfl)) (fun _ _ _ h => h) (Or.inl ⟨by rfl, ?_⟩) ?_ ?_
          rotate_left
          · intro w'
            go_simp
            with_reducible rfl
          rotate_left
          · simp only [Act.put, List.setIfInBounds_toArray, List.set_cons_zero, List.set_cons_succ, i64_w, i32_w]
            rfl
          refine pure_ (i := 5) (N := some 82) (v := ?_) (a' := ?_) #[false, true, true, false, true, true, false, false, false, false, false, false, false, false, false, false, false, false, false, false, false, false, false] rfl rfl (any_of HT_.out (by kernel_rfl)) (fun _ _ _ h => h) (Or.inl ⟨by rfl, ?_⟩) ?_ ?_
          rotate_left
          · intro w'
            go_simp
            with_reducible rfl
          rotate_left
          · simp only [Act.put, List.setIfInBounds_toArray, List.set_cons_zero, List.set_cons_succ, i64_w, i32_w]
            rfl
          refine pure_ (i := 6) (N := some 83) (v := ?_) (a' := ?_) #[false, true, true, false, true, true, true, false, false, false, false, false, false, false, false, false, false, false, false, false, false, false, false] rfl rfl (any_of HT_.out (by kernel_rfl)) (fun _ _ _ h => h) (Or.inl ⟨by rfl, ?_⟩) ?_ ?_
          rotate_left
          · intro w'
            go_simp
            with_reducible rfl
          rotate_left
          · simp only [Act.put, List.setIfInBounds_toArray, List.set_cons_zero, List.set_cons_succ, i64_w, i32_w]
            rfl
          refine pure_ (i := 7) (N := some 84) (v := ?_) (a' := ?_) #[false, true, true, false, true, true, true, true, false, false, false, false, false, false, false, false, false, false, false, false, false, false, false] rfl rfl (any_of HT_.out (by kernel_rfl)) (fun _ _ _ h => h) (Or.inl ⟨by rfl, ?_⟩) ?_ ?_
          rotate_left
          · intro w'
            go_simp
            with_reducible rfl
          rotate_left
          · simp only [Act.put, List.setIfInBounds_toArray, List.set_cons_zero, List.set_cons_succ, i64_w, i32_w]
            rfl
          refine pure_ (i := 8) (N := some 85) (v := ?_) (a' := ?_) #[false, true, true, false, true, true, true, true, true, false, false, false, false, false, false, false, false, false, false, false, false, false, false] rfl rfl (any_of HT_.out (by kernel_rfl)) (fun _ _ _ h => h) (Or.inl ⟨by rfl, ?_⟩) ?_ ?_
          rotate_left
          · intro w'
            go_simp
            with_reducible rfl
          rotate_left
          · simp only [Act.put, List.setIfInBounds_toArray, List.set_cons_zero, List.set_cons_succ, i64_w, i32_w]
            rfl
          refine pure_ (i := 9) (N := some 86) (v := ?_) (a' := ?_) #[false, true, true, false, true, true, true, true, true, true, false, false, false, false, false, false, false, false, false, false, false, false, false] rfl rfl (any_of HT_.out (by kernel_rfl)) (fun _ _ _ h => h) (Or.inl ⟨by rfl, ?_⟩) ?_ ?_
          rotate_left
          · intro w'
            go_simp
            with_reducible rfl
          rotate_left
          · simp only [Act.put, List.setIfInBounds_toArray, List.set_cons_zero, List.set_cons_succ, i64_w, i32_w]
            rfl
          refine pure_ (i := 10) (N := some 87) (v := ?_) (a' := ?_) #[false, true, true, false, true, true, true, true, true, true, true, false, false, false, false, false, false, false, false, false, false, false, false] rfl rfl (any_of HT_.out (by kernel_rfl)) (fun _ _ _ h => h) (Or.inl ⟨by rfl, ?_⟩) ?_ ?_
          rotate_left
          · intro w'
            go_simp
            with_reducible rfl
          rotate_left
          · simp only [Act.put, List.setIfInBounds_toArray, List.set_cons_zero, List.set_cons_succ, i64_w, i32_w]
            rfl
          refine pure_ (i := 11) (N := some 88) (v := ?_) (a' := ?_) #[false, true, true, false, true, true, true, true, true, true, true, true, false, false, false, false, false, false, false, false, false, false, false] rfl rfl (any_of HT_.out (by kernel_rfl)) (fun _ _ _ h => h) (Or.inl ⟨by rfl, ?_⟩) ?_ ?_
          rotate_left
          · intro w'
            go_simp
            with_reducible rfl
          rotate_left
          · simp only [Act.put, List.setIfInBounds_toArray, List.set_cons_zero, List.set_cons_succ, i64_w, i32_w]
            rfl
          refine pure_ (i := 12) (N := some 89) (v := ?_) (a' := ?_) #[false, true, true, false, true, true, true, true, true, true, true, true, true, false, false, false, false, false, false, false, false, false, false] rfl rfl (any_of HT_.out (by kernel_rfl)) (fun _ _ _ h => h) (Or.inl ⟨by rfl, ?_⟩) ?_ ?_
          rotate_left
          · intro w'
            go_simp
            with_reducible rfl
          rotate_left
          · simp only [Act.put, List.setIfInBounds_toArray, List.set_cons_zero, List.set_cons_succ, i64_w, i32_w]
            rfl
          refine pure_ (i := 14) (N := some 91) (v := ?_) (a' := ?_) #[false, true, true, false, true, true, true, true, true, true, true, true, true, false, true, false, false, false, false, false, false, false, false] rfl rfl (any_of HT_.out (by kernel_rfl)) (fun _ _ _ h => h) (Or.inl ⟨by rfl, ?_⟩) ?_ ?_
          rotate_left
          · intro w'
            go_simp
            with_reducible rfl
          rotate_left
          · simp only [Act.put, List.setIfInBounds_toArray, List.set_cons_zero, List.set_cons_succ, i64_w, i32_w]
            rfl
          refine take_ (i := 0) (N := some 77) (v := ?_) (a' := ?_) #[true, true, true, false, true, true, true, true, true, true, true, true, true, false, true, false, false, false, false, false, false, false, false] rfl rfl (take_ofW HT_.out HW_.out (by kernel_rfl)) (fun _ _ _ h => h) (Or.inl ⟨by rfl, ?_⟩) hHeld ?_ ?_
          rotate_left
          · rintro w' ⟨s0, s1, s2, s3, s4, s5⟩
            go_simp
            with_reducible rfl
          rotate_left
          · simp only [Act.put, List.setIfInBounds_toArray, List.set_cons_zero, List.set_cons_succ, i64_w, i32_w]
            rfl
          refine take_ (i := 13) (N := some 90) (v := ?_) (a' := ?_) #[true, true, true, false, true, true, true, true, true, true, true, true, true, true, true, false, false, false, false, false, false, false, false] rfl rfl (take_ofW HT_.out HW_.out (by kernel_rfl)) (fun _ _ _ h => h) (Or.inl ⟨by rfl, ?_⟩) hHeld ?_ ?_
          rotate_left
          · rintro w' ⟨s0, s1, s2, s3, s4, s5⟩
            go_simp
            with_reducible rfl
          rotate_left
          · simp only [Act.put, List.setIfInBounds_toArray, List.set_cons_zero, List.set_cons_succ, i64_w, i32_w]
            rfl
          refine take_ (i := 15) (N := some 92) (v := ?_) (a' := ?_) #[true, true, true, false, true, true, true, true, true, true, true, true, true, true, true, true, false, false, false, false, false, false, false] rfl rfl (take_ofW HT_.out HW_.out (by kernel_rfl)) (fun _ _ _ h => h) (Or.inl ⟨by rfl, ?_⟩) hHeld ?_ ?_
          rotate_left
          · rintro w' ⟨s0, s1, s2, s3, s4, s5⟩
            go_simp
            with_reducible rfl
          rotate_left
          · simp only [Act.put, List.setIfInBounds_toArray, List.set_cons_zero, List.set_cons_succ, i64_w, i32_w]
            rfl
          refine pure_ (i := 16) (N := some 93) (v := ?_) (a' := ?_) #[true, true, true, false, true, true, true, true, true, true, true, true, true, true, true, true, true, false, false, false, false, false, false] rfl rfl (any_of HT_.out (by kernel_rfl)) (fun _ _ _ h => h) (Or.inl ⟨by rfl, ?_⟩) ?_ ?_
          rotate_left
          · intro w'
            go_simp
            with_reducible rfl
          rotate_left
          · simp only [Act.put, List.setIfInBounds_toArray, List.set_cons_zero, List.set_cons_succ, i64_w, i32_w]
            rfl
          refine pure_ (i := 17) (N := some 94) (v := ?_) (a' := ?_) #[true, true, true, false, true, true, true, true, true, true, true, true, true, true, true, true, true, true, false, false, false, false, false] rfl rfl (any_of HT_.out (by kernel_rfl)) (fun _ _ _ h => h) (Or.inl ⟨by rfl, ?_⟩) ?_ ?_
          rotate_left
          · intro w'
            go_simp
            with_reducible rfl
          rotate_left
          · simp only [Act.put, List.setIfInBounds_toArray, List.set_cons_zero, List.set_cons_succ, i64_w, i32_w]
            rfl
          refine one_ (i := 3) (N := some 80) #[true, true, true, true, true, true, true, true, true, true, true, true, true, true, true, true, true, true, false, false, false, false, false] rfl rfl (one_of HT_.out (by kernel_rfl)) (by decide) (fun K hK => ?_)
          refine goes_ Try.func15 (by kernel_rfl) rfl #[.agg #[.int .i64 a0_0, .int .i64 a0_1, .int .i64 a0_2, .int .i64 a0_1, .int .i64 a0_4, .int .i64 a0_5], .int .i64 a1, .int .i64 a2] (by rfl) rfl rfl (by (try simp only [List.map_toArray, List.map_cons, List.map_nil]); first | done | rfl | (simp only [List.length_drop, List.length_take]; rfl)) ?_
          with_reducible refine (stroke_Near.calls a0_0 a0_1 a0_2 a0_1 a0_4 a0_5 a1 a2 t365 _ A37.out).mono ?_
          rintro e w48 ⟨rfl, hb⟩
          refine ⟨_, rfl, ?_⟩
          have n0_ := Aside0.mk (blk_below (g := gb356) (o := .cells #[.int .i64 a0_0, .int .i64 a0_1, .int .i64 a0_2, .int .i64 a0_1, .int .i64 a0_4, .int .i64 a0_5] 25 (0, 0)) (by (with_reducible repeat (first | refine blk_drewN ?_ _ | refine blk_drew ?_ | refine blk_alloc ?_ _)); exact BK356.out) hb)
          have n1_ := Aside0.mk (below_step (by repeat (first | (with_reducible first | exact HB.out | apply below_alloc | apply pw_below_drewN | apply below_drew1 | refine below_set ?_ GE356.out) | exact HB.out)) hb)
          clear BK356
          clear HB
          have BK356 := n0_
          have HB := n1_
          clear n0_ n1_
          (try clear hb)
          (try clear hb2)
          (try clear hk)
          (try clear hi)
          refine hK.out _ _ ⟨(blk_cell BK356.out 0).trans rfl, (blk_cell BK356.out 1).trans rfl, (blk_cell BK356.out 2).trans rfl, (blk_cell BK356.out 3).trans rfl, (blk_cell BK356.out 4).trans rfl, (blk_cell BK356.out 5).trans rfl⟩ (fun hHeld => ?_)
          clear hK K
          refine norm_ (a' := ?_) ?_ ?_
          rotate_left
          · show Act.put _ (some 80) _ = _
            simp only [Act.put, List.setIfInBounds_toArray, List.set_cons_zero, List.set_cons_succ, i64_w, i32_w]
            rfl
          refine pure_ (i := 18) (N := some 95) (v := ?_) (a' := ?_) #[true, true, true, true, true, true, true, true, true, true, true, true, true, true, true, true, true, true, true, false, false, false, false] rfl rfl (any_of HT_.out (by kernel_rfl)) (fun _ _ _ h => h) (Or.inl ⟨by rfl, ?_⟩) ?_ ?_
          rotate_left
          · intro w'
            go_simp
            with_reducible rfl
          rotate_left
          · simp only [Act.put, List.setIfInBounds_toArray, List.set_cons_zero, List.set_cons_succ, i64_w, i32_w]
            rfl
          refine pure_ (i := 19) (N := some 96) (v := ?_) (a' := ?_) #[true, true, true, true, true, true, true, true, true, true, true, true, true, true, true, true, true, true, true, true, false, false, false] rfl rfl (any_of HT_.out (by kernel_rfl)) (fun _ _ _ h => h) (Or.inl ⟨by rfl, ?_⟩) ?_ ?_
          rotate_left
          · intro w'
            go_simp
            with_reducible rfl
          rotate_left
          · simp only [Act.put, List.setIfInBounds_toArray, List.set_cons_zero, List.set_cons_succ, i64_w, i32_w]
            rfl
          refine pure_ (i := 20) (N := some 97) (v := undef) (a' := ?_) #[true, true, true, true, true, true, true, true, true, true, true, true, true, true, true, true, true, true, true, true, true, false, false] rfl rfl (any_of HT_.out (by kernel_rfl)) (fun _ _ _ h => h) (Or.inr ⟨by rfl, rfl⟩) ?_ ?_
          rotate_left
          · simp only [Act.put, List.setIfInBounds_toArray, List.set_cons_zero, List.set_cons_succ, i64_w, i32_w]
            rfl
          refine pure_ (i := 21) (N := some 98) (v := ?_) (a' := ?_) #[true, true, true, true, true, true, true, true, true, true, true, true, true, true, true, true, true, true, true, true, true, true, false] rfl rfl (any_of HT_.out (by kernel_rfl)) (fun _ _ _ h => h) (Or.inl ⟨by rfl, ?_⟩) ?_ ?_
          rotate_left
          · intro w'
            go_simp
            with_reducible rfl
          rotate_left
          · simp only [Act.put, List.setIfInBounds_toArray, List.set_cons_zero, List.set_cons_succ, i64_w, i32_w]
            rfl
          refine pure_ (i := 22) (N := some 6) (v := ?_) (a' := ?_) #[true, true, true, true, true, true, true, true, true, true, true, true, true, true, true, true, true, true, true, true, true, true, true] rfl rfl (any_of HT_.out (by kernel_rfl)) (fun _ _ _ h => h) (Or.inl ⟨by rfl, ?_⟩) ?_ ?_
          rotate_left
          · intro w'
            go_simp
            with_reducible rfl
          rotate_left
          · simp only [Act.put, List.setIfInBounds_toArray, List.set_cons_zero, List.set_cons_succ, i64_w, i32_w]
            rfl
          refine done_ (done_of HT_.out (by kernel_rfl)) ?_
          try go_wp2
          go_ret
          exact ⟨by first | rfl | (simp [errW_none, errW_some] <;> rfl) | (simp only [← hji33, ← hji34, ← hji35, ← hji36]; first | rfl | (simp [errW_none, errW_some] <;> rfl)) | (simp [*, errW_none, errW_some] <;> rfl), by repeat (first | (with_reducible first | exact HB.out | apply below_alloc | apply pw_below_drewN | apply below_drew1 | refine below_set ?_ GE356.out) | exact HB.out)⟩

end Go.Proofs.Ytnofihkmgedbfaa.P
