/- Printed by printx.py (wip/tool) out of the translation: plain functions that tell what the program answers, and the proofs that the program comes to these answers, for all arguments of their kinds. Lean checks it. -/
import Derived.Test.YtnofihkmgedbfaaPx0
import Derived.Test.YtnofihkmgedbfaaPx1
import Derived.Test.YtnofihkmgedbfaaPx2
import Derived.Test.YtnofihkmgedbfaaPx3
import Derived.Test.YtnofihkmgedbfaaPx4
import Derived.Test.YtnofihkmgedbfaaPx6
namespace Go.Proofs.Ytnofihkmgedbfaa.P
open Go.RowKit Go.Proofs.YtnofihkmgedbfaaW.PrintWords Go.Proofs.YtnofihkmgedbfaaW.PrintLast Go.Proofs.YtnofihkmgedbfaaW.PrintMore
attribute [local go_sem] max2_int min2_int max_two min_two max_three min_three max_four min_four max_five min_five max_six min_six   -- for this text's walks alone
set_option linter.unusedVariables false
set_option linter.unusedSimpArgs false

/-! ### celluloidlaw18_awake: function 16 -/
def celluloidlaw18_awake.f (k : Nat)  : Option (Bool) := (stroke_Owners.f k (([(⟨(⟨0, 32⟩ : S23), (⟨128, 32⟩ : S23), 1, 64⟩ : S25)] : List (S25))) 1 1).bind fun bt247 => ((stroke_Near.f 0 32 128 32 1 64 7 7).bind fun t251 => (if t251 = true then ((stroke_Near.f 0 32 128 32 1 64 7 71).bind fun t252 => (if t252 = true then (some false) else (if bt247.2 = 0 then (if (bt247.1.length : Int) = 16 then (if 0 < (bt247.1.length : Int) then (if (rd bt247.1 0) = 1 then ((stroke_Width.f k 40 65536 0 0 65536 0 0).bind fun t254 => (some (t254 == 128))) else (some false)) else (none)) else (some false)) else (some false)))) else (some false)))
theorem celluloidlaw18_awake.mono : ∀ k, LeO (celluloidlaw18_awake.f k ) (celluloidlaw18_awake.f (k + 1) ) := by
  intro  k
  unfold celluloidlaw18_awake.f
  repeat' first
      | (with_reducible exact stroke_Owners.mono _ _ _ _)
      | (with_reducible exact stroke_Width.mono _ _ _ _ _ _ _ _)
      | (with_reducible exact LeO.refl _)
      | (with_reducible exact LeO.none _)
      | (with_reducible refine LeO.ite ?_ ?_)
      | (with_reducible refine LeO.bind ?_ (fun _ => ?_))
      | exact stroke_Owners.mono _ _ _ _
      | exact stroke_Width.mono _ _ _ _ _ _ _ _
      | exact LeO.none _
      | refine LeO.ite ?_ ?_
      | refine LeO.bind ?_ (fun _ => ?_)
set_option maxHeartbeats 8000000 in
set_option maxRecDepth 100000 in
theorem celluloidlaw18_awake.calls (k : Nat)  (r : Bool) (w : World) (h : celluloidlaw18_awake.f k  = some r) :
    Calls Try.prog 16 #[] w fun e w' => e = .returned (.bool r) ∧ Below w.heap.size w w' := by
  have hu23 := Try.underlying23
  have hu25 := Try.underlying25
  have hu43 := Try.underlying43
  have HB := Aside0.mk (Below.refl w.heap.size w)
  have H : ((stroke_Owners.f k (([(⟨(⟨0, 32⟩ : S23), (⟨128, 32⟩ : S23), 1, 64⟩ : S25)] : List (S25))) 1 1).bind fun bt247 => ((stroke_Near.f 0 32 128 32 1 64 7 7).bind fun t251 => (if t251 = true then ((stroke_Near.f 0 32 128 32 1 64 7 71).bind fun t252 => (if t252 = true then (some false) else (if bt247.2 = 0 then (if (bt247.1.length : Int) = 16 then (if 0 < (bt247.1.length : Int) then (if (rd bt247.1 0) = 1 then ((stroke_Width.f k 40 65536 0 0 65536 0 0).bind fun t254 => (some (t254 == 128))) else (some false)) else (none)) else (some false)) else (some false)))) else (some false)))) = some r := h
  clear h
  obtain ⟨y244, hy244⟩ : ∃ y_ : List (S25), y_ = (([(⟨(⟨0, 32⟩ : S23), (⟨128, 32⟩ : S23), 1, 64⟩ : S25)] : List (S25))) := ⟨_, rfl⟩
  replace H : ((stroke_Owners.f k y244 1 1).bind fun bt247 => ((stroke_Near.f 0 32 128 32 1 64 7 7).bind fun t251 => (if t251 = true then ((stroke_Near.f 0 32 128 32 1 64 7 71).bind fun t252 => (if t252 = true then (some false) else (if bt247.2 = 0 then (if (bt247.1.length : Int) = 16 then (if 0 < (bt247.1.length : Int) then (if (rd bt247.1 0) = 1 then ((stroke_Width.f k 40 65536 0 0 65536 0 0).bind fun t254 => (some (t254 == 128))) else (some false)) else (none)) else (some false)) else (some false)))) else (some false)))) = some r := by first | (rw [hy244]; with_reducible exact H) | (have H2_ := (Option.bind_some _ _).symm.trans H; rw [hy244]; with_reducible exact H2_) | (have H2_ := (Option.bind_some _ _).symm.trans H; with_reducible exact H2_) | with_reducible exact H | (rw [hy244]; exact H) | exact H
  have Ny244 := Aside0.mk hy244
  clear hy244
  replace H := Option.bind_eq_some_iff.mp H
  obtain ⟨⟨t247, t248⟩, A10, H⟩ := H
  replace H : ((stroke_Near.f 0 32 128 32 1 64 7 7).bind fun t251 => (if t251 = true then ((stroke_Near.f 0 32 128 32 1 64 7 71).bind fun t252 => (if t252 = true then (some false) else (if t248 = 0 then (if (t247.length : Int) = 16 then (if 0 < (t247.length : Int) then (if (rd t247 0) = 1 then ((stroke_Width.f k 40 65536 0 0 65536 0 0).bind fun t254 => (some (t254 == 128))) else (some false)) else (none)) else (some false)) else (some false)))) else (some false))) = some r := H
  have A1 := Aside0.mk A10
  clear A10
  replace H := Option.bind_eq_some_iff.mp H
  obtain ⟨t251, A20, H⟩ := H
  replace H : (if t251 = true then ((stroke_Near.f 0 32 128 32 1 64 7 71).bind fun t252 => (if t252 = true then (some false) else (if t248 = 0 then (if (t247.length : Int) = 16 then (if 0 < (t247.length : Int) then (if (rd t247 0) = 1 then ((stroke_Width.f k 40 65536 0 0 65536 0 0).bind fun t254 => (some (t254 == 128))) else (some false)) else (none)) else (some false)) else (some false)))) else (some false)) = some r := H
  have A2 := Aside0.mk A20
  clear A20
  by_cases c3 : t251 = true
  focus
    subst c3
    have H1 : ((stroke_Near.f 0 32 128 32 1 64 7 71).bind fun t252 => (if t252 = true then (some false) else (if t248 = 0 then (if (t247.length : Int) = 16 then (if 0 < (t247.length : Int) then (if (rd t247 0) = 1 then ((stroke_Width.f k 40 65536 0 0 65536 0 0).bind fun t254 => (some (t254 == 128))) else (some false)) else (none)) else (some false)) else (some false)))) = some r := by rw [if_pos rfl] at H; exact H
    clear H
    have H := H1
    clear H1
    replace H := Option.bind_eq_some_iff.mp H
    obtain ⟨t252, A40, H⟩ := H
    replace H : (if t252 = true then (some false) else (if t248 = 0 then (if (t247.length : Int) = 16 then (if 0 < (t247.length : Int) then (if (rd t247 0) = 1 then ((stroke_Width.f k 40 65536 0 0 65536 0 0).bind fun t254 => (some (t254 == 128))) else (some false)) else (none)) else (some false)) else (some false))) = some r := H
    have A4 := Aside0.mk A40
    clear A40
    by_cases c5 : t252 = true
    focus
      subst c5
      have H1 : (some false) = some r := by rw [if_pos rfl] at H; exact H
      clear H
      have H := H1
      clear H1
      obtain rfl := Option.some.inj H
    rotate_left
    focus
      replace c5 := Bool.eq_false_iff.mpr c5
      subst c5
      have H1 : (if t248 = 0 then (if (t247.length : Int) = 16 then (if 0 < (t247.length : Int) then (if (rd t247 0) = 1 then ((stroke_Width.f k 40 65536 0 0 65536 0 0).bind fun t254 => (some (t254 == 128))) else (some false)) else (none)) else (some false)) else (some false)) = some r := by rw [if_neg (show ¬ (false = true) by decide)] at H; exact H
      clear H
      have H := H1
      clear H1
      by_cases c16 : t248 = 0
      focus
        rw [if_pos c16] at H
        have c16b0 : (t248 == 0) = true := beq_iff_eq.mpr c16
        have c16b1 : (t248 != 0) = false := bne_eq_false_iff_eq.mpr c16
        clear c16
        by_cases c17 : (t247.length : Int) = 16
        focus
          rw [if_pos c17] at H
          have c17b0 : ((t247.length : Int) == 16) = true := beq_iff_eq.mpr c17
          have c17b1 : ((t247.length : Int) != 16) = false := bne_eq_false_iff_eq.mpr c17
          clear c17
          by_cases c18 : 0 < (t247.length : Int)
          focus
            rw [if_pos c18] at H
            have c18b0 : decide (0 < (t247.length : Int)) = true := decide_eq_true c18
            have c18b1 : decide (0 < t247.length) = true := decide_eq_true (by omega)
            clear c18
            by_cases c19 : (rd t247 0) = 1
            focus
              rw [if_pos c19] at H
              have c19b0 : ((rd t247 0) == 1) = true := beq_iff_eq.mpr c19
              have c19b1 : ((rd t247 0) != 1) = false := bne_eq_false_iff_eq.mpr c19
              clear c19
              replace H := Option.bind_eq_some_iff.mp H
              obtain ⟨t254, A200, H⟩ := H
              replace H : (some (t254 == 128)) = some r := H
              have A20 := Aside0.mk A200
              clear A200
              obtain rfl := Option.some.inj H
            rotate_left
            focus
              rw [if_neg c19] at H
              have c19b0 : ((rd t247 0) == 1) = false := beq_eq_false_iff_ne.mpr c19
              have c19b1 : ((rd t247 0) != 1) = true := bne_iff_ne.mpr c19
              obtain rfl := Option.some.inj H
          rotate_left 2
          focus
            rw [if_neg c18] at H
            exact absurd H (by simp)
        rotate_left 2
        focus
          rw [if_neg c17] at H
          have c17b0 : ((t247.length : Int) == 16) = false := beq_eq_false_iff_ne.mpr c17
          have c17b1 : ((t247.length : Int) != 16) = true := bne_iff_ne.mpr c17
          obtain rfl := Option.some.inj H
      rotate_left 3
      focus
        rw [if_neg c16] at H
        have c16b0 : (t248 == 0) = false := beq_eq_false_iff_ne.mpr c16
        have c16b1 : (t248 != 0) = true := bne_iff_ne.mpr c16
        obtain rfl := Option.some.inj H
  rotate_left 5
  focus
    replace c3 := Bool.eq_false_iff.mpr c3
    subst c3
    have H1 : (some false) = some r := by rw [if_neg (show ¬ (false = true) by decide)] at H; exact H
    clear H
    have H := H1
    clear H1
    obtain rfl := Option.some.inj H
  all_goals
    go_enter Try.func16, Try.ntmps16
    go_wp2_with (first | ((with_reducible refine gate_dst (N := 1) rfl ?_); (try (refine gate_guard (by rfl) ?_; dsimp only)); refine box_event ?hg (N := 1) ?hd (cs := #[.int .i64 0, .int .i64 0, .int .i64 0, .int .i64 0, .int .i64 0, .int .i64 0]) (t := 25) ?hr ?_; (case hd => rfl); (case hg => rfl); (case hr => first | (go_simp; done) | (go_simp; rfl)); intro gbz1 hg wz1 hbox hb; have nz1_ := Aside0.mk (below_step (by repeat (first | (with_reducible first | exact HB.out | apply below_alloc | apply pw_below_drewN | apply below_drew1) | exact HB.out)) hb); have nz2_ := Aside0.mk (hbox); have nz3_ := Aside0.mk ((by rw [hg]; exact (below_size (by repeat (first | (with_reducible first | exact HB.out | apply below_alloc | apply pw_below_drewN | apply below_drew1) | exact HB.out))) : w.heap.size ≤ gbz1)); have nz4_ := Aside0.mk ((by rw [hg]; exact (below_size (by repeat (first | (with_reducible first | exact HB.out | apply below_alloc | apply pw_below_drewN | apply below_drew1) | exact HB.out))) : w.heap.size ≤ gbz1)); clear HB; have HB := nz1_; have BKz1 := nz2_; have GWz1 := nz3_; have GEz1 := nz4_; clear nz1_ nz2_ nz3_ nz4_; clear hb hbox hg; have hczz1_0 : wz1.cell? ⟨gbz1, 0, none⟩ = some (.int .i64 0) := (blk_cell BKz1.out 0).trans rfl; have hczz1_1 : wz1.cell? ⟨gbz1, 1, none⟩ = some (.int .i64 0) := (blk_cell BKz1.out 1).trans rfl; have hczz1_2 : wz1.cell? ⟨gbz1, 2, none⟩ = some (.int .i64 0) := (blk_cell BKz1.out 2).trans rfl; have hczz1_3 : wz1.cell? ⟨gbz1, 3, none⟩ = some (.int .i64 0) := (blk_cell BKz1.out 3).trans rfl; have hczz1_4 : wz1.cell? ⟨gbz1, 4, none⟩ = some (.int .i64 0) := (blk_cell BKz1.out 4).trans rfl; have hczz1_5 : wz1.cell? ⟨gbz1, 5, none⟩ = some (.int .i64 0) := (blk_cell BKz1.out 5).trans rfl; have hfzz1_0 := blk_frozen BKz1.out 0; have hfzz1_1 := blk_frozen BKz1.out 1; have hfzz1_2 := blk_frozen BKz1.out 2; have hfzz1_3 := blk_frozen BKz1.out 3; have hfzz1_4 := blk_frozen BKz1.out 4; have hfzz1_5 := blk_frozen BKz1.out 5) | ((with_reducible refine gate_dst (N := 9) rfl ?_); (try (refine gate_guard (by rfl) ?_; dsimp only)); refine Kd.R_lit k25 _ 25 ?hg (N := 9) ?hd (xs := ([(⟨(⟨0, 32⟩ : S23), (⟨128, 32⟩ : S23), 1, 64⟩ : S25)] : List (S25))) (inner := [.int .i64 0, .int .i64 32, .int .i64 128, .int .i64 32, .int .i64 1, .int .i64 64]) (ok := fun _ => True) (okp := fun _ => True) ?hr ?hp (fun _ hk => hk) trivial (Below.refl _ _) (Nat.le_refl _) (by simp) ?_; (case hd => rfl); (case hg => rfl); (case hr => first | (go_simp; done) | (go_simp; rfl)); (case hp => exact (Reps.c6 (show Kd.M k25 _ _ _ (⟨(⟨0, 32⟩ : S23), (⟨128, 32⟩ : S23), 1, 64⟩ : S25) [.int .i64 0, .int .i64 32, .int .i64 128, .int .i64 32, .int .i64 1, .int .i64 64] from (k25_mkM _ _ _ (⟨(⟨0, 32⟩ : S23), (⟨128, 32⟩ : S23), 1, 64⟩ : S25) )) (Reps.none _ _))); intro vz1 wz2 hoz1 hb hg_ hnew_; clear hg_ hnew_; (first | rw [← Ny244.out] at hoz1 | (simp only [Int.reduceToNat] at hoz1; rw [← Ny244.out] at hoz1)); have nz1_ := Aside0.mk (Kd.R_lower (Kd.R_newB hoz1 (g := gbz1) (o := .cells #[.int .i64 0, .int .i64 32, .int .i64 128, .int .i64 32, .int .i64 1, .int .i64 64] 25 (0, 0)) (by (with_reducible repeat (first | refine blk_drewN ?_ _ | refine blk_drew ?_ | refine blk_alloc ?_ _)); refine blk_put (cs := #[.int .i64 0, .int .i64 32, .int .i64 128, .int .i64 32, .int .i64 1, .int .i64 0]) ?_ 5 _ rfl; (with_reducible repeat (first | refine blk_drewN ?_ _ | refine blk_drew ?_ | refine blk_alloc ?_ _)); refine blk_put (cs := #[.int .i64 0, .int .i64 32, .int .i64 128, .int .i64 32, .int .i64 0, .int .i64 0]) ?_ 4 _ rfl; (with_reducible repeat (first | refine blk_drewN ?_ _ | refine blk_drew ?_ | refine blk_alloc ?_ _)); refine blk_put (cs := #[.int .i64 0, .int .i64 32, .int .i64 128, .int .i64 0, .int .i64 0, .int .i64 0]) ?_ 3 _ rfl; (with_reducible repeat (first | refine blk_drewN ?_ _ | refine blk_drew ?_ | refine blk_alloc ?_ _)); refine blk_put (cs := #[.int .i64 0, .int .i64 32, .int .i64 0, .int .i64 0, .int .i64 0, .int .i64 0]) ?_ 2 _ rfl; (with_reducible repeat (first | refine blk_drewN ?_ _ | refine blk_drew ?_ | refine blk_alloc ?_ _)); refine blk_put (cs := #[.int .i64 0, .int .i64 0, .int .i64 0, .int .i64 0, .int .i64 0, .int .i64 0]) ?_ 1 _ rfl; (with_reducible repeat (first | refine blk_drewN ?_ _ | refine blk_drew ?_ | refine blk_alloc ?_ _)); refine blk_put (cs := #[.int .i64 0, .int .i64 0, .int .i64 0, .int .i64 0, .int .i64 0, .int .i64 0]) ?_ 0 _ rfl; (with_reducible repeat (first | refine blk_drewN ?_ _ | refine blk_drew ?_ | refine blk_alloc ?_ _)); exact BKz1.out)) (below_size (by repeat (first | (with_reducible first | exact HB.out | apply below_alloc | apply pw_below_drewN | apply below_drew1 | refine below_set ?_ GEz1.out) | exact HB.out)))); have nz2_ := Aside0.mk (blk_below (g := gbz1) (o := .cells #[.int .i64 0, .int .i64 32, .int .i64 128, .int .i64 32, .int .i64 1, .int .i64 64] 25 (0, 0)) (by (with_reducible repeat (first | refine blk_drewN ?_ _ | refine blk_drew ?_ | refine blk_alloc ?_ _)); refine blk_put (cs := #[.int .i64 0, .int .i64 32, .int .i64 128, .int .i64 32, .int .i64 1, .int .i64 0]) ?_ 5 _ rfl; (with_reducible repeat (first | refine blk_drewN ?_ _ | refine blk_drew ?_ | refine blk_alloc ?_ _)); refine blk_put (cs := #[.int .i64 0, .int .i64 32, .int .i64 128, .int .i64 32, .int .i64 0, .int .i64 0]) ?_ 4 _ rfl; (with_reducible repeat (first | refine blk_drewN ?_ _ | refine blk_drew ?_ | refine blk_alloc ?_ _)); refine blk_put (cs := #[.int .i64 0, .int .i64 32, .int .i64 128, .int .i64 0, .int .i64 0, .int .i64 0]) ?_ 3 _ rfl; (with_reducible repeat (first | refine blk_drewN ?_ _ | refine blk_drew ?_ | refine blk_alloc ?_ _)); refine blk_put (cs := #[.int .i64 0, .int .i64 32, .int .i64 0, .int .i64 0, .int .i64 0, .int .i64 0]) ?_ 2 _ rfl; (with_reducible repeat (first | refine blk_drewN ?_ _ | refine blk_drew ?_ | refine blk_alloc ?_ _)); refine blk_put (cs := #[.int .i64 0, .int .i64 0, .int .i64 0, .int .i64 0, .int .i64 0, .int .i64 0]) ?_ 1 _ rfl; (with_reducible repeat (first | refine blk_drewN ?_ _ | refine blk_drew ?_ | refine blk_alloc ?_ _)); refine blk_put (cs := #[.int .i64 0, .int .i64 0, .int .i64 0, .int .i64 0, .int .i64 0, .int .i64 0]) ?_ 0 _ rfl; (with_reducible repeat (first | refine blk_drewN ?_ _ | refine blk_drew ?_ | refine blk_alloc ?_ _)); exact BKz1.out) hb); have nz3_ := Aside0.mk (below_step (by repeat (first | (with_reducible first | exact HB.out | apply below_alloc | apply pw_below_drewN | apply below_drew1 | refine below_set ?_ GEz1.out) | exact HB.out)) hb); clear BKz1; clear HB; have HOz1 := nz1_; have BKz1 := nz2_; have HB := nz3_; clear nz1_ nz2_ nz3_; clear hb hoz1; obtain ⟨Aoz1, coz1, eoz1⟩ := Kd.R_slice HOz1.out; subst eoz1) | ((with_reducible refine gate_callee (f := 17) rfl ?_); refine goesL_ (some 10) rfl rfl Try.func17 (by kernel_rfl) rfl #[.slice Aoz1 y244.length coz1, .int .i64 1, .int .i64 1] rfl (by (try simp only [List.map_toArray, List.map_cons, List.map_nil]); first | done | rfl | (simp only [List.length_drop, List.length_take]; rfl)) ?_; (with_reducible refine (stroke_Owners.calls k _ _ y244 1 1 t247 t248 _ ?side1 ?side2 A1.out).mono ?_); (case side1 => repeat (first | exact (Kd.R_reads' HOz1.out).2.2 | (with_reducible refine Kd.C_alloc ?_ _) | (with_reducible refine Kd.C_drewN ?_ _) | (with_reducible refine Kd.C_drew ?_))); (case side2 => exact (Kd.R_reads' HOz1.out).2.1); rintro e wz3 ⟨vz2, rfl, hoz2, hb⟩; refine ⟨_, rfl, ?_⟩; have nz1_ := Aside0.mk (Kd.R_below (by (with_reducible repeat (first | apply Kd.R_alloc | apply Kd.R_drewN | apply Kd.R_drew)); exact HOz1.out) hb); have nz2_ := Aside0.mk (Kd.R_lower hoz2 (below_size (by repeat (first | (with_reducible first | exact HB.out | apply below_alloc | apply pw_below_drewN | apply below_drew1 | refine below_set ?_ GEz1.out) | exact HB.out)))); have nz3_ := Aside0.mk (blk_below (g := gbz1) (o := .cells #[.int .i64 0, .int .i64 32, .int .i64 128, .int .i64 32, .int .i64 1, .int .i64 64] 25 (0, 0)) (by (with_reducible repeat (first | refine blk_drewN ?_ _ | refine blk_drew ?_ | refine blk_alloc ?_ _)); exact BKz1.out) hb); have nz4_ := Aside0.mk (below_step (by repeat (first | (with_reducible first | exact HB.out | apply below_alloc | apply pw_below_drewN | apply below_drew1 | refine below_set ?_ GEz1.out) | exact HB.out)) hb); clear HOz1; clear BKz1; clear HB; have HOz1 := nz1_; have HOz2 := nz2_; have BKz1 := nz3_; have HB := nz4_; clear nz1_ nz2_ nz3_ nz4_; (try clear hb); (try clear hb2); (try clear hk); (try clear hi); (try clear hoz2); have hczz2_0 : wz3.cell? ⟨gbz1, 0, none⟩ = some (.int .i64 0) := (blk_cell BKz1.out 0).trans rfl; have hczz2_1 : wz3.cell? ⟨gbz1, 1, none⟩ = some (.int .i64 32) := (blk_cell BKz1.out 1).trans rfl; have hczz2_2 : wz3.cell? ⟨gbz1, 2, none⟩ = some (.int .i64 128) := (blk_cell BKz1.out 2).trans rfl; have hczz2_3 : wz3.cell? ⟨gbz1, 3, none⟩ = some (.int .i64 32) := (blk_cell BKz1.out 3).trans rfl; have hczz2_4 : wz3.cell? ⟨gbz1, 4, none⟩ = some (.int .i64 1) := (blk_cell BKz1.out 4).trans rfl; have hczz2_5 : wz3.cell? ⟨gbz1, 5, none⟩ = some (.int .i64 64) := (blk_cell BKz1.out 5).trans rfl; have hfzz2_0 := blk_frozen BKz1.out 0; have hfzz2_1 := blk_frozen BKz1.out 1; have hfzz2_2 := blk_frozen BKz1.out 2; have hfzz2_3 := blk_frozen BKz1.out 3; have hfzz2_4 := blk_frozen BKz1.out 4; have hfzz2_5 := blk_frozen BKz1.out 5) | ((with_reducible refine gate_callee (f := 15) rfl ?_); refine goesL_ (some 14) rfl rfl Try.func15 (by kernel_rfl) rfl #[.agg #[.int .i64 0, .int .i64 32, .int .i64 128, .int .i64 32, .int .i64 1, .int .i64 64], .int .i64 7, .int .i64 7] rfl (by (try simp only [List.map_toArray, List.map_cons, List.map_nil]); first | done | rfl | (simp only [List.length_drop, List.length_take]; rfl)) ?_; (with_reducible refine (stroke_Near.calls 0 32 128 32 1 64 7 7 true _ A2.out).mono ?_); rintro e wz4 ⟨rfl, hb⟩; refine ⟨_, rfl, ?_⟩; have nz1_ := Aside0.mk (Kd.R_below (by (with_reducible repeat (first | apply Kd.R_alloc | apply Kd.R_drewN | apply Kd.R_drew)); exact HOz1.out) hb); have nz2_ := Aside0.mk (Kd.R_below (by (with_reducible repeat (first | apply Kd.R_alloc | apply Kd.R_drewN | apply Kd.R_drew)); exact HOz2.out) hb); have nz3_ := Aside0.mk (blk_below (g := gbz1) (o := .cells #[.int .i64 0, .int .i64 32, .int .i64 128, .int .i64 32, .int .i64 1, .int .i64 64] 25 (0, 0)) (by (with_reducible repeat (first | refine blk_drewN ?_ _ | refine blk_drew ?_ | refine blk_alloc ?_ _)); exact BKz1.out) hb); have nz4_ := Aside0.mk (below_step (by repeat (first | (with_reducible first | exact HB.out | apply below_alloc | apply pw_below_drewN | apply below_drew1 | refine below_set ?_ GEz1.out) | exact HB.out)) hb); clear HOz1; clear HOz2; clear BKz1; clear HB; have HOz1 := nz1_; have HOz2 := nz2_; have BKz1 := nz3_; have HB := nz4_; clear nz1_ nz2_ nz3_ nz4_; (try clear hb); (try clear hb2); (try clear hk); (try clear hi); have hczz3_0 : wz4.cell? ⟨gbz1, 0, none⟩ = some (.int .i64 0) := (blk_cell BKz1.out 0).trans rfl; have hczz3_1 : wz4.cell? ⟨gbz1, 1, none⟩ = some (.int .i64 32) := (blk_cell BKz1.out 1).trans rfl; have hczz3_2 : wz4.cell? ⟨gbz1, 2, none⟩ = some (.int .i64 128) := (blk_cell BKz1.out 2).trans rfl; have hczz3_3 : wz4.cell? ⟨gbz1, 3, none⟩ = some (.int .i64 32) := (blk_cell BKz1.out 3).trans rfl; have hczz3_4 : wz4.cell? ⟨gbz1, 4, none⟩ = some (.int .i64 1) := (blk_cell BKz1.out 4).trans rfl; have hczz3_5 : wz4.cell? ⟨gbz1, 5, none⟩ = some (.int .i64 64) := (blk_cell BKz1.out 5).trans rfl; have hfzz3_0 := blk_frozen BKz1.out 0; have hfzz3_1 := blk_frozen BKz1.out 1; have hfzz3_2 := blk_frozen BKz1.out 2; have hfzz3_3 := blk_frozen BKz1.out 3; have hfzz3_4 := blk_frozen BKz1.out 4; have hfzz3_5 := blk_frozen BKz1.out 5) | (go_at_call 15; (with_reducible refine (stroke_Near.calls 0 32 128 32 1 64 7 71 true _ A4.out).mono ?_); rintro e wz5 ⟨rfl, hb⟩; have nz1_ := Aside0.mk (Kd.R_below (by (with_reducible repeat (first | apply Kd.R_alloc | apply Kd.R_drewN | apply Kd.R_drew)); exact HOz1.out) hb); have nz2_ := Aside0.mk (Kd.R_below (by (with_reducible repeat (first | apply Kd.R_alloc | apply Kd.R_drewN | apply Kd.R_drew)); exact HOz2.out) hb); have nz3_ := Aside0.mk (blk_below (g := gbz1) (o := .cells #[.int .i64 0, .int .i64 32, .int .i64 128, .int .i64 32, .int .i64 1, .int .i64 64] 25 (0, 0)) (by (with_reducible repeat (first | refine blk_drewN ?_ _ | refine blk_drew ?_ | refine blk_alloc ?_ _)); exact BKz1.out) hb); have nz4_ := Aside0.mk (below_step (by repeat (first | (with_reducible first | exact HB.out | apply below_alloc | apply pw_below_drewN | apply below_drew1 | refine below_set ?_ GEz1.out) | exact HB.out)) hb); clear HOz1; clear HOz2; clear BKz1; clear HB; have HOz1 := nz1_; have HOz2 := nz2_; have BKz1 := nz3_; have HB := nz4_; clear nz1_ nz2_ nz3_ nz4_; (try clear hb); (try clear hb2); (try clear hk); (try clear hi)) | (go_at_call 15; (with_reducible refine (stroke_Near.calls 0 32 128 32 1 64 7 71 false _ A4.out).mono ?_); rintro e wz5 ⟨rfl, hb⟩; have nz1_ := Aside0.mk (Kd.R_below (by (with_reducible repeat (first | apply Kd.R_alloc | apply Kd.R_drewN | apply Kd.R_drew)); exact HOz1.out) hb); have nz2_ := Aside0.mk (Kd.R_below (by (with_reducible repeat (first | apply Kd.R_alloc | apply Kd.R_drewN | apply Kd.R_drew)); exact HOz2.out) hb); have nz3_ := Aside0.mk (blk_below (g := gbz1) (o := .cells #[.int .i64 0, .int .i64 32, .int .i64 128, .int .i64 32, .int .i64 1, .int .i64 64] 25 (0, 0)) (by (with_reducible repeat (first | refine blk_drewN ?_ _ | refine blk_drew ?_ | refine blk_alloc ?_ _)); exact BKz1.out) hb); have nz4_ := Aside0.mk (below_step (by repeat (first | (with_reducible first | exact HB.out | apply below_alloc | apply pw_below_drewN | apply below_drew1 | refine below_set ?_ GEz1.out) | exact HB.out)) hb); clear HOz1; clear HOz2; clear BKz1; clear HB; have HOz1 := nz1_; have HOz2 := nz2_; have BKz1 := nz3_; have HB := nz4_; clear nz1_ nz2_ nz3_ nz4_; (try clear hb); (try clear hb2); (try clear hk); (try clear hi); obtain ⟨Aoz2, coz2, eoz2⟩ := Kd.R_slice HOz2.out; subst eoz2; have pz1 : 0 ≤ (0 : Int) := (by omega); have qz1 : 0 < (t247.length : Int) := of_decide_eq_true (by first | (with_reducible assumption) | assumption); obtain ⟨adz1, ez1, hxz1_0⟩ := Kd.at_int (Kd.R_reads' HOz2.out).2.2 0 pz1 qz1; cases ez1; have qiz1 : (0 < t247.length) = True := eq_true (by omega); (try rw [show ((0 : Int)).toNat = 0 from rfl] at hxz1_0); (try rw [Addr.add_zero'] at hxz1_0); replace pz1 := eq_true pz1; replace qz1 := eq_true qz1) | (go_at_call 19; (with_reducible refine (stroke_Width.calls k 40 65536 0 0 65536 0 0 t254 _ A20.out).mono ?_); rintro e wz6 ⟨rfl, hb⟩; have nz1_ := Aside0.mk (Kd.R_below (by (with_reducible repeat (first | apply Kd.R_alloc | apply Kd.R_drewN | apply Kd.R_drew)); exact HOz1.out) hb); have nz2_ := Aside0.mk (Kd.R_below (by (with_reducible repeat (first | apply Kd.R_alloc | apply Kd.R_drewN | apply Kd.R_drew)); exact HOz2.out) hb); have nz3_ := Aside0.mk (blk_below (g := gbz1) (o := .cells #[.int .i64 0, .int .i64 32, .int .i64 128, .int .i64 32, .int .i64 1, .int .i64 64] 25 (0, 0)) (by (with_reducible repeat (first | refine blk_drewN ?_ _ | refine blk_drew ?_ | refine blk_alloc ?_ _)); exact BKz1.out) hb); have nz4_ := Aside0.mk (below_step (by repeat (first | (with_reducible first | exact HB.out | apply below_alloc | apply pw_below_drewN | apply below_drew1 | refine below_set ?_ GEz1.out) | exact HB.out)) hb); clear HOz1; clear HOz2; clear BKz1; clear HB; have HOz1 := nz1_; have HOz2 := nz2_; have BKz1 := nz3_; have HB := nz4_; clear nz1_ nz2_ nz3_ nz4_; (try clear hb); (try clear hb2); (try clear hk); (try clear hi)) | (go_at_call 15; (with_reducible refine (stroke_Near.calls 0 32 128 32 1 64 7 71 false _ A4.out).mono ?_); rintro e wz5 ⟨rfl, hb⟩; have nz1_ := Aside0.mk (Kd.R_below (by (with_reducible repeat (first | apply Kd.R_alloc | apply Kd.R_drewN | apply Kd.R_drew)); exact HOz1.out) hb); have nz2_ := Aside0.mk (Kd.R_below (by (with_reducible repeat (first | apply Kd.R_alloc | apply Kd.R_drewN | apply Kd.R_drew)); exact HOz2.out) hb); have nz3_ := Aside0.mk (blk_below (g := gbz1) (o := .cells #[.int .i64 0, .int .i64 32, .int .i64 128, .int .i64 32, .int .i64 1, .int .i64 64] 25 (0, 0)) (by (with_reducible repeat (first | refine blk_drewN ?_ _ | refine blk_drew ?_ | refine blk_alloc ?_ _)); exact BKz1.out) hb); have nz4_ := Aside0.mk (below_step (by repeat (first | (with_reducible first | exact HB.out | apply below_alloc | apply pw_below_drewN | apply below_drew1 | refine below_set ?_ GEz1.out) | exact HB.out)) hb); clear HOz1; clear HOz2; clear BKz1; clear HB; have HOz1 := nz1_; have HOz2 := nz2_; have BKz1 := nz3_; have HB := nz4_; clear nz1_ nz2_ nz3_ nz4_; (try clear hb); (try clear hb2); (try clear hk); (try clear hi); obtain ⟨Aoz2, coz2, eoz2⟩ := Kd.R_slice HOz2.out; subst eoz2) | (go_at_call 15; (with_reducible refine (stroke_Near.calls 0 32 128 32 1 64 7 71 false _ A4.out).mono ?_); rintro e wz5 ⟨rfl, hb⟩; have nz1_ := Aside0.mk (Kd.R_below (by (with_reducible repeat (first | apply Kd.R_alloc | apply Kd.R_drewN | apply Kd.R_drew)); exact HOz1.out) hb); have nz2_ := Aside0.mk (Kd.R_below (by (with_reducible repeat (first | apply Kd.R_alloc | apply Kd.R_drewN | apply Kd.R_drew)); exact HOz2.out) hb); have nz3_ := Aside0.mk (blk_below (g := gbz1) (o := .cells #[.int .i64 0, .int .i64 32, .int .i64 128, .int .i64 32, .int .i64 1, .int .i64 64] 25 (0, 0)) (by (with_reducible repeat (first | refine blk_drewN ?_ _ | refine blk_drew ?_ | refine blk_alloc ?_ _)); exact BKz1.out) hb); have nz4_ := Aside0.mk (below_step (by repeat (first | (with_reducible first | exact HB.out | apply below_alloc | apply pw_below_drewN | apply below_drew1 | refine below_set ?_ GEz1.out) | exact HB.out)) hb); clear HOz1; clear HOz2; clear BKz1; clear HB; have HOz1 := nz1_; have HOz2 := nz2_; have BKz1 := nz3_; have HB := nz4_; clear nz1_ nz2_ nz3_ nz4_; (try clear hb); (try clear hb2); (try clear hk); (try clear hi)) | ((with_reducible refine gate_callee (f := 15) rfl ?_); refine goesL_ (some 14) rfl rfl Try.func15 (by kernel_rfl) rfl #[.agg #[.int .i64 0, .int .i64 32, .int .i64 128, .int .i64 32, .int .i64 1, .int .i64 64], .int .i64 7, .int .i64 7] rfl (by (try simp only [List.map_toArray, List.map_cons, List.map_nil]); first | done | rfl | (simp only [List.length_drop, List.length_take]; rfl)) ?_; (with_reducible refine (stroke_Near.calls 0 32 128 32 1 64 7 7 false _ A2.out).mono ?_); rintro e wz4 ⟨rfl, hb⟩; refine ⟨_, rfl, ?_⟩; have nz1_ := Aside0.mk (Kd.R_below (by (with_reducible repeat (first | apply Kd.R_alloc | apply Kd.R_drewN | apply Kd.R_drew)); exact HOz1.out) hb); have nz2_ := Aside0.mk (Kd.R_below (by (with_reducible repeat (first | apply Kd.R_alloc | apply Kd.R_drewN | apply Kd.R_drew)); exact HOz2.out) hb); have nz3_ := Aside0.mk (blk_below (g := gbz1) (o := .cells #[.int .i64 0, .int .i64 32, .int .i64 128, .int .i64 32, .int .i64 1, .int .i64 64] 25 (0, 0)) (by (with_reducible repeat (first | refine blk_drewN ?_ _ | refine blk_drew ?_ | refine blk_alloc ?_ _)); exact BKz1.out) hb); have nz4_ := Aside0.mk (below_step (by repeat (first | (with_reducible first | exact HB.out | apply below_alloc | apply pw_below_drewN | apply below_drew1 | refine below_set ?_ GEz1.out) | exact HB.out)) hb); clear HOz1; clear HOz2; clear BKz1; clear HB; have HOz1 := nz1_; have HOz2 := nz2_; have BKz1 := nz3_; have HB := nz4_; clear nz1_ nz2_ nz3_ nz4_; (try clear hb); (try clear hb2); (try clear hk); (try clear hi)))
    go_ret
    exact ⟨by first | rfl | (simp [errW_none, errW_some] <;> rfl) | (simp [*, errW_none, errW_some] <;> rfl), by repeat (first | (with_reducible first | exact HB.out | apply below_alloc | apply pw_below_drewN | apply below_drew1 | refine below_set ?_ GEz1.out) | exact HB.out)⟩

/-! ### celluloidlaw18_StrokeNears: function 3 -/
def celluloidlaw18_StrokeNears.f (k : Nat) (a0_0 : Int) (a0_1 : Int) (a0_2 : Int) (a0_3 : Int) (a0_4 : Int) (a0_5 : Int) (a1 : Int) (a2 : Int) : Option (Bool) := (celluloidlaw18_ref.f a0_0 a0_1 a0_2 a0_3 a0_4 a0_5).bind fun bt256 => ((celluloidref18_Right.f k bt256.1 bt256.2.1 bt256.2.2.1 bt256.2.2.2.1 bt256.2.2.2.2.1 bt256.2.2.2.2.2).bind fun t262 => (if t262 = true then ((celluloidlaw18_far.f a1 a2).bind fun t263 => (if t263 = true then ((stroke_RightPiece.f a0_0 a0_1 a0_2 a0_3 a0_4 a0_5).bind fun t264 => (if (t264 == t262) = true then ((stroke_Near.f a0_0 a0_1 a0_2 a0_3 a0_4 a0_5 a1 a2).bind fun t265 => (if (t265 == false) = true then ((celluloidlaw18_awake.f k).bind fun t266 => (some t266)) else (some false))) else (some false))) else ((celluloidlaw18_ref.f a0_0 a0_1 a0_2 a0_3 a0_4 a0_5).bind fun bt267 => ((celluloidref18_Near.f k bt267.1 bt267.2.1 bt267.2.2.1 bt267.2.2.2.1 bt267.2.2.2.2.1 bt267.2.2.2.2.2 a1 a2).bind fun t273 => ((stroke_RightPiece.f a0_0 a0_1 a0_2 a0_3 a0_4 a0_5).bind fun t274 => (if (t274 == t262) = true then ((stroke_Near.f a0_0 a0_1 a0_2 a0_3 a0_4 a0_5 a1 a2).bind fun t275 => (if (t275 == t273) = true then ((celluloidlaw18_awake.f k).bind fun t276 => (some t276)) else (some false))) else (some false))))))) else ((stroke_RightPiece.f a0_0 a0_1 a0_2 a0_3 a0_4 a0_5).bind fun t277 => (if (t277 == t262) = true then ((stroke_Near.f a0_0 a0_1 a0_2 a0_3 a0_4 a0_5 a1 a2).bind fun t278 => (if (t278 == false) = true then ((celluloidlaw18_awake.f k).bind fun t279 => (some t279)) else (some false))) else (some false)))))
theorem celluloidlaw18_StrokeNears.mono : ∀ a0 a1 a2 a3 a4 a5 a6 a7 k, LeO (celluloidlaw18_StrokeNears.f k a0 a1 a2 a3 a4 a5 a6 a7) (celluloidlaw18_StrokeNears.f (k + 1) a0 a1 a2 a3 a4 a5 a6 a7) := by
  intro a0 a1 a2 a3 a4 a5 a6 a7 k
  unfold celluloidlaw18_StrokeNears.f
  repeat' first
      | (with_reducible exact celluloidlaw18_awake.mono _)
      | (with_reducible exact celluloidref18_Near.mono _ _ _ _ _ _ _ _ _)
      | (with_reducible exact celluloidref18_Right.mono _ _ _ _ _ _ _)
      | (with_reducible exact LeO.refl _)
      | (with_reducible exact LeO.none _)
      | (with_reducible refine LeO.ite ?_ ?_)
      | (with_reducible refine LeO.bind ?_ (fun _ => ?_))
      | exact celluloidlaw18_awake.mono _
      | exact celluloidref18_Near.mono _ _ _ _ _ _ _ _ _
      | exact celluloidref18_Right.mono _ _ _ _ _ _ _
      | exact LeO.none _
      | refine LeO.ite ?_ ?_
      | refine LeO.bind ?_ (fun _ => ?_)
set_option maxHeartbeats 8000000 in
set_option maxRecDepth 100000 in
theorem celluloidlaw18_StrokeNears.calls (k : Nat) (a0_0 : Int) (a0_1 : Int) (a0_2 : Int) (a0_3 : Int) (a0_4 : Int) (a0_5 : Int) (a1 : Int) (a2 : Int) (r : Bool) (w : World) (h : celluloidlaw18_StrokeNears.f k a0_0 a0_1 a0_2 a0_3 a0_4 a0_5 a1 a2 = some r) :
    Calls Try.prog 3 #[.agg #[.int .i64 a0_0, .int .i64 a0_1, .int .i64 a0_2, .int .i64 a0_3, .int .i64 a0_4, .int .i64 a0_5], .int .i64 a1, .int .i64 a2] w fun e w' => e = .returned (.bool r) ∧ Below w.heap.size w w' := by
  have hu25 := Try.underlying25
  have HB := Aside0.mk (Below.refl w.heap.size w)
  have H : ((celluloidlaw18_ref.f a0_0 a0_1 a0_2 a0_3 a0_4 a0_5).bind fun bt256 => ((celluloidref18_Right.f k bt256.1 bt256.2.1 bt256.2.2.1 bt256.2.2.2.1 bt256.2.2.2.2.1 bt256.2.2.2.2.2).bind fun t262 => (if t262 = true then ((celluloidlaw18_far.f a1 a2).bind fun t263 => (if t263 = true then ((stroke_RightPiece.f a0_0 a0_1 a0_2 a0_3 a0_4 a0_5).bind fun t264 => (if (t264 == t262) = true then ((stroke_Near.f a0_0 a0_1 a0_2 a0_3 a0_4 a0_5 a1 a2).bind fun t265 => (if (t265 == false) = true then ((celluloidlaw18_awake.f k).bind fun t266 => (some t266)) else (some false))) else (some false))) else ((celluloidlaw18_ref.f a0_0 a0_1 a0_2 a0_3 a0_4 a0_5).bind fun bt267 => ((celluloidref18_Near.f k bt267.1 bt267.2.1 bt267.2.2.1 bt267.2.2.2.1 bt267.2.2.2.2.1 bt267.2.2.2.2.2 a1 a2).bind fun t273 => ((stroke_RightPiece.f a0_0 a0_1 a0_2 a0_3 a0_4 a0_5).bind fun t274 => (if (t274 == t262) = true then ((stroke_Near.f a0_0 a0_1 a0_2 a0_3 a0_4 a0_5 a1 a2).bind fun t275 => (if (t275 == t273) = true then ((celluloidlaw18_awake.f k).bind fun t276 => (some t276)) else (some false))) else (some false))))))) else ((stroke_RightPiece.f a0_0 a0_1 a0_2 a0_3 a0_4 a0_5).bind fun t277 => (if (t277 == t262) = true then ((stroke_Near.f a0_0 a0_1 a0_2 a0_3 a0_4 a0_5 a1 a2).bind fun t278 => (if (t278 == false) = true then ((celluloidlaw18_awake.f k).bind fun t279 => (some t279)) else (some false))) else (some false)))))) = some r := h
  clear h
  replace H := Option.bind_eq_some_iff.mp H
  obtain ⟨⟨t256, t257, t258, t259, t260, t261⟩, A40, H⟩ := H
  replace H : ((celluloidref18_Right.f k t256 t257 t258 t259 t260 t261).bind fun t262 => (if t262 = true then ((celluloidlaw18_far.f a1 a2).bind fun t263 => (if t263 = true then ((stroke_RightPiece.f a0_0 a0_1 a0_2 a0_3 a0_4 a0_5).bind fun t264 => (if (t264 == t262) = true then ((stroke_Near.f a0_0 a0_1 a0_2 a0_3 a0_4 a0_5 a1 a2).bind fun t265 => (if (t265 == false) = true then ((celluloidlaw18_awake.f k).bind fun t266 => (some t266)) else (some false))) else (some false))) else ((celluloidlaw18_ref.f a0_0 a0_1 a0_2 a0_3 a0_4 a0_5).bind fun bt267 => ((celluloidref18_Near.f k bt267.1 bt267.2.1 bt267.2.2.1 bt267.2.2.2.1 bt267.2.2.2.2.1 bt267.2.2.2.2.2 a1 a2).bind fun t273 => ((stroke_RightPiece.f a0_0 a0_1 a0_2 a0_3 a0_4 a0_5).bind fun t274 => (if (t274 == t262) = true then ((stroke_Near.f a0_0 a0_1 a0_2 a0_3 a0_4 a0_5 a1 a2).bind fun t275 => (if (t275 == t273) = true then ((celluloidlaw18_awake.f k).bind fun t276 => (some t276)) else (some false))) else (some false))))))) else ((stroke_RightPiece.f a0_0 a0_1 a0_2 a0_3 a0_4 a0_5).bind fun t277 => (if (t277 == t262) = true then ((stroke_Near.f a0_0 a0_1 a0_2 a0_3 a0_4 a0_5 a1 a2).bind fun t278 => (if (t278 == false) = true then ((celluloidlaw18_awake.f k).bind fun t279 => (some t279)) else (some false))) else (some false))))) = some r := H
  have A4 := Aside0.mk A40
  clear A40
  replace H := Option.bind_eq_some_iff.mp H
  obtain ⟨t262, A50, H⟩ := H
  replace H : (if t262 = true then ((celluloidlaw18_far.f a1 a2).bind fun t263 => (if t263 = true then ((stroke_RightPiece.f a0_0 a0_1 a0_2 a0_3 a0_4 a0_5).bind fun t264 => (if (t264 == t262) = true then ((stroke_Near.f a0_0 a0_1 a0_2 a0_3 a0_4 a0_5 a1 a2).bind fun t265 => (if (t265 == false) = true then ((celluloidlaw18_awake.f k).bind fun t266 => (some t266)) else (some false))) else (some false))) else ((celluloidlaw18_ref.f a0_0 a0_1 a0_2 a0_3 a0_4 a0_5).bind fun bt267 => ((celluloidref18_Near.f k bt267.1 bt267.2.1 bt267.2.2.1 bt267.2.2.2.1 bt267.2.2.2.2.1 bt267.2.2.2.2.2 a1 a2).bind fun t273 => ((stroke_RightPiece.f a0_0 a0_1 a0_2 a0_3 a0_4 a0_5).bind fun t274 => (if (t274 == t262) = true then ((stroke_Near.f a0_0 a0_1 a0_2 a0_3 a0_4 a0_5 a1 a2).bind fun t275 => (if (t275 == t273) = true then ((celluloidlaw18_awake.f k).bind fun t276 => (some t276)) else (some false))) else (some false))))))) else ((stroke_RightPiece.f a0_0 a0_1 a0_2 a0_3 a0_4 a0_5).bind fun t277 => (if (t277 == t262) = true then ((stroke_Near.f a0_0 a0_1 a0_2 a0_3 a0_4 a0_5 a1 a2).bind fun t278 => (if (t278 == false) = true then ((celluloidlaw18_awake.f k).bind fun t279 => (some t279)) else (some false))) else (some false)))) = some r := H
  have A5 := Aside0.mk A50
  clear A50
  by_cases c6 : t262 = true
  focus
    subst c6
    have H1 : ((celluloidlaw18_far.f a1 a2).bind fun t263 => (if t263 = true then ((stroke_RightPiece.f a0_0 a0_1 a0_2 a0_3 a0_4 a0_5).bind fun t264 => (if (t264 == true) = true then ((stroke_Near.f a0_0 a0_1 a0_2 a0_3 a0_4 a0_5 a1 a2).bind fun t265 => (if (t265 == false) = true then ((celluloidlaw18_awake.f k).bind fun t266 => (some t266)) else (some false))) else (some false))) else ((celluloidlaw18_ref.f a0_0 a0_1 a0_2 a0_3 a0_4 a0_5).bind fun bt267 => ((celluloidref18_Near.f k bt267.1 bt267.2.1 bt267.2.2.1 bt267.2.2.2.1 bt267.2.2.2.2.1 bt267.2.2.2.2.2 a1 a2).bind fun t273 => ((stroke_RightPiece.f a0_0 a0_1 a0_2 a0_3 a0_4 a0_5).bind fun t274 => (if (t274 == true) = true then ((stroke_Near.f a0_0 a0_1 a0_2 a0_3 a0_4 a0_5 a1 a2).bind fun t275 => (if (t275 == t273) = true then ((celluloidlaw18_awake.f k).bind fun t276 => (some t276)) else (some false))) else (some false))))))) = some r := by rw [if_pos rfl] at H; exact H
    clear H
    have H := H1
    clear H1
    replace H := Option.bind_eq_some_iff.mp H
    obtain ⟨t263, A70, H⟩ := H
    replace H : (if t263 = true then ((stroke_RightPiece.f a0_0 a0_1 a0_2 a0_3 a0_4 a0_5).bind fun t264 => (if (t264 == true) = true then ((stroke_Near.f a0_0 a0_1 a0_2 a0_3 a0_4 a0_5 a1 a2).bind fun t265 => (if (t265 == false) = true then ((celluloidlaw18_awake.f k).bind fun t266 => (some t266)) else (some false))) else (some false))) else ((celluloidlaw18_ref.f a0_0 a0_1 a0_2 a0_3 a0_4 a0_5).bind fun bt267 => ((celluloidref18_Near.f k bt267.1 bt267.2.1 bt267.2.2.1 bt267.2.2.2.1 bt267.2.2.2.2.1 bt267.2.2.2.2.2 a1 a2).bind fun t273 => ((stroke_RightPiece.f a0_0 a0_1 a0_2 a0_3 a0_4 a0_5).bind fun t274 => (if (t274 == true) = true then ((stroke_Near.f a0_0 a0_1 a0_2 a0_3 a0_4 a0_5 a1 a2).bind fun t275 => (if (t275 == t273) = true then ((celluloidlaw18_awake.f k).bind fun t276 => (some t276)) else (some false))) else (some false)))))) = some r := H
    have A7 := Aside0.mk A70
    clear A70
    by_cases c8 : t263 = true
    focus
      subst c8
      have H1 : ((stroke_RightPiece.f a0_0 a0_1 a0_2 a0_3 a0_4 a0_5).bind fun t264 => (if (t264 == true) = true then ((stroke_Near.f a0_0 a0_1 a0_2 a0_3 a0_4 a0_5 a1 a2).bind fun t265 => (if (t265 == false) = true then ((celluloidlaw18_awake.f k).bind fun t266 => (some t266)) else (some false))) else (some false))) = some r := by rw [if_pos rfl] at H; exact H
      clear H
      have H := H1
      clear H1
      replace H := Option.bind_eq_some_iff.mp H
      obtain ⟨t264, A90, H⟩ := H
      replace H : (if (t264 == true) = true then ((stroke_Near.f a0_0 a0_1 a0_2 a0_3 a0_4 a0_5 a1 a2).bind fun t265 => (if (t265 == false) = true then ((celluloidlaw18_awake.f k).bind fun t266 => (some t266)) else (some false))) else (some false)) = some r := H
      have A9 := Aside0.mk A90
      clear A90
      by_cases c10 : (t264 == true) = true
      focus
        rw [if_pos c10] at H
        have c10b0 : (t264 == true) = true := c10
        (try (have c10b1 : decide (t264 = true) = true := by simpa using c10))
        (try (have c10b2 : (t264 == true) = true := by simpa using c10))
        clear c10
        replace H := Option.bind_eq_some_iff.mp H
        obtain ⟨t265, A110, H⟩ := H
        replace H : (if (t265 == false) = true then ((celluloidlaw18_awake.f k).bind fun t266 => (some t266)) else (some false)) = some r := H
        have A11 := Aside0.mk A110
        clear A110
        by_cases c12 : (t265 == false) = true
        focus
          rw [if_pos c12] at H
          have c12b0 : (t265 == false) = true := c12
          (try (have c12b1 : decide (t265 = false) = true := by simpa using c12))
          (try (have c12b2 : (t265 == false) = true := by simpa using c12))
          clear c12
          replace H := Option.bind_eq_some_iff.mp H
          obtain ⟨t266, A130, H⟩ := H
          replace H : (some t266) = some r := H
          have A13 := Aside0.mk A130
          clear A130
          obtain rfl := Option.some.inj H
        rotate_left
        focus
          rw [if_neg c12] at H
          have c12b0 : (t265 == false) = false := by simpa using c12
          (try (have c12b1 : decide (t265 = false) = false := by simpa using c12))
          (try (have c12b2 : (t265 == false) = false := by simpa using c12))
          (try (have c12b3 : ¬ (t265 = false) := by simpa using c12))
          clear c12
          obtain rfl := Option.some.inj H
      rotate_left 2
      focus
        rw [if_neg c10] at H
        have c10b0 : (t264 == true) = false := by simpa using c10
        (try (have c10b1 : decide (t264 = true) = false := by simpa using c10))
        (try (have c10b2 : (t264 == true) = false := by simpa using c10))
        (try (have c10b3 : ¬ (t264 = true) := by simpa using c10))
        clear c10
        obtain rfl := Option.some.inj H
    rotate_left 3
    focus
      replace c8 := Bool.eq_false_iff.mpr c8
      subst c8
      have H1 : ((celluloidlaw18_ref.f a0_0 a0_1 a0_2 a0_3 a0_4 a0_5).bind fun bt267 => ((celluloidref18_Near.f k bt267.1 bt267.2.1 bt267.2.2.1 bt267.2.2.2.1 bt267.2.2.2.2.1 bt267.2.2.2.2.2 a1 a2).bind fun t273 => ((stroke_RightPiece.f a0_0 a0_1 a0_2 a0_3 a0_4 a0_5).bind fun t274 => (if (t274 == true) = true then ((stroke_Near.f a0_0 a0_1 a0_2 a0_3 a0_4 a0_5 a1 a2).bind fun t275 => (if (t275 == t273) = true then ((celluloidlaw18_awake.f k).bind fun t276 => (some t276)) else (some false))) else (some false))))) = some r := by rw [if_neg (show ¬ (false = true) by decide)] at H; exact H
      clear H
      have H := H1
      clear H1
      replace H := Option.bind_eq_some_iff.mp H
      obtain ⟨⟨t267, t268, t269, t270, t271, t272⟩, A400, H⟩ := H
      replace H : ((celluloidref18_Near.f k t267 t268 t269 t270 t271 t272 a1 a2).bind fun t273 => ((stroke_RightPiece.f a0_0 a0_1 a0_2 a0_3 a0_4 a0_5).bind fun t274 => (if (t274 == true) = true then ((stroke_Near.f a0_0 a0_1 a0_2 a0_3 a0_4 a0_5 a1 a2).bind fun t275 => (if (t275 == t273) = true then ((celluloidlaw18_awake.f k).bind fun t276 => (some t276)) else (some false))) else (some false)))) = some r := H
      have A40 := Aside0.mk A400
      clear A400
      replace H := Option.bind_eq_some_iff.mp H
      obtain ⟨t273, A410, H⟩ := H
      replace H : ((stroke_RightPiece.f a0_0 a0_1 a0_2 a0_3 a0_4 a0_5).bind fun t274 => (if (t274 == true) = true then ((stroke_Near.f a0_0 a0_1 a0_2 a0_3 a0_4 a0_5 a1 a2).bind fun t275 => (if (t275 == t273) = true then ((celluloidlaw18_awake.f k).bind fun t276 => (some t276)) else (some false))) else (some false))) = some r := H
      have A41 := Aside0.mk A410
      clear A410
      replace H := Option.bind_eq_some_iff.mp H
      obtain ⟨t274, A420, H⟩ := H
      replace H : (if (t274 == true) = true then ((stroke_Near.f a0_0 a0_1 a0_2 a0_3 a0_4 a0_5 a1 a2).bind fun t275 => (if (t275 == t273) = true then ((celluloidlaw18_awake.f k).bind fun t276 => (some t276)) else (some false))) else (some false)) = some r := H
      have A42 := Aside0.mk A420
      clear A420
      by_cases c43 : (t274 == true) = true
      focus
        rw [if_pos c43] at H
        have c43b0 : (t274 == true) = true := c43
        (try (have c43b1 : decide (t274 = true) = true := by simpa using c43))
        (try (have c43b2 : (t274 == true) = true := by simpa using c43))
        clear c43
        replace H := Option.bind_eq_some_iff.mp H
        obtain ⟨t275, A440, H⟩ := H
        replace H : (if (t275 == t273) = true then ((celluloidlaw18_awake.f k).bind fun t276 => (some t276)) else (some false)) = some r := H
        have A44 := Aside0.mk A440
        clear A440
        by_cases c45 : (t275 == t273) = true
        focus
          rw [if_pos c45] at H
          have c45b0 : (t275 == t273) = true := c45
          (try (have c45b1 : decide (t275 = t273) = true := by simpa using c45))
          (try (have c45b2 : (t275 == t273) = true := by simpa using c45))
          clear c45
          replace H := Option.bind_eq_some_iff.mp H
          obtain ⟨t276, A460, H⟩ := H
          replace H : (some t276) = some r := H
          have A46 := Aside0.mk A460
          clear A460
          obtain rfl := Option.some.inj H
        rotate_left
        focus
          rw [if_neg c45] at H
          have c45b0 : (t275 == t273) = false := by simpa using c45
          (try (have c45b1 : decide (t275 = t273) = false := by simpa using c45))
          (try (have c45b2 : (t275 == t273) = false := by simpa using c45))
          (try (have c45b3 : ¬ (t275 = t273) := by simpa using c45))
          clear c45
          obtain rfl := Option.some.inj H
      rotate_left 2
      focus
        rw [if_neg c43] at H
        have c43b0 : (t274 == true) = false := by simpa using c43
        (try (have c43b1 : decide (t274 = true) = false := by simpa using c43))
        (try (have c43b2 : (t274 == true) = false := by simpa using c43))
        (try (have c43b3 : ¬ (t274 = true) := by simpa using c43))
        clear c43
        obtain rfl := Option.some.inj H
  rotate_left 6
  focus
    replace c6 := Bool.eq_false_iff.mpr c6
    subst c6
    have H1 : ((stroke_RightPiece.f a0_0 a0_1 a0_2 a0_3 a0_4 a0_5).bind fun t277 => (if (t277 == false) = true then ((stroke_Near.f a0_0 a0_1 a0_2 a0_3 a0_4 a0_5 a1 a2).bind fun t278 => (if (t278 == false) = true then ((celluloidlaw18_awake.f k).bind fun t279 => (some t279)) else (some false))) else (some false))) = some r := by rw [if_neg (show ¬ (false = true) by decide)] at H; exact H
    clear H
    have H := H1
    clear H1
    replace H := Option.bind_eq_some_iff.mp H
    obtain ⟨t277, A820, H⟩ := H
    replace H : (if (t277 == false) = true then ((stroke_Near.f a0_0 a0_1 a0_2 a0_3 a0_4 a0_5 a1 a2).bind fun t278 => (if (t278 == false) = true then ((celluloidlaw18_awake.f k).bind fun t279 => (some t279)) else (some false))) else (some false)) = some r := H
    have A82 := Aside0.mk A820
    clear A820
    by_cases c83 : (t277 == false) = true
    focus
      rw [if_pos c83] at H
      have c83b0 : (t277 == false) = true := c83
      (try (have c83b1 : decide (t277 = false) = true := by simpa using c83))
      (try (have c83b2 : (t277 == false) = true := by simpa using c83))
      clear c83
      replace H := Option.bind_eq_some_iff.mp H
      obtain ⟨t278, A840, H⟩ := H
      replace H : (if (t278 == false) = true then ((celluloidlaw18_awake.f k).bind fun t279 => (some t279)) else (some false)) = some r := H
      have A84 := Aside0.mk A840
      clear A840
      by_cases c85 : (t278 == false) = true
      focus
        rw [if_pos c85] at H
        have c85b0 : (t278 == false) = true := c85
        (try (have c85b1 : decide (t278 = false) = true := by simpa using c85))
        (try (have c85b2 : (t278 == false) = true := by simpa using c85))
        clear c85
        replace H := Option.bind_eq_some_iff.mp H
        obtain ⟨t279, A860, H⟩ := H
        replace H : (some t279) = some r := H
        have A86 := Aside0.mk A860
        clear A860
        obtain rfl := Option.some.inj H
      rotate_left
      focus
        rw [if_neg c85] at H
        have c85b0 : (t278 == false) = false := by simpa using c85
        (try (have c85b1 : decide (t278 = false) = false := by simpa using c85))
        (try (have c85b2 : (t278 == false) = false := by simpa using c85))
        (try (have c85b3 : ¬ (t278 = false) := by simpa using c85))
        clear c85
        obtain rfl := Option.some.inj H
    rotate_left 2
    focus
      rw [if_neg c83] at H
      have c83b0 : (t277 == false) = false := by simpa using c83
      (try (have c83b1 : decide (t277 = false) = false := by simpa using c83))
      (try (have c83b2 : (t277 == false) = false := by simpa using c83))
      (try (have c83b3 : ¬ (t277 = false) := by simpa using c83))
      clear c83
      obtain rfl := Option.some.inj H
  all_goals
    go_enter Try.func3, Try.ntmps3
    go_wp2_with (first | ((with_reducible refine gate_dst (N := 3) rfl ?_); refine box_event ?hg (N := 3) ?hd (cs := #[.int .i64 a0_0, .int .i64 a0_1, .int .i64 a0_2, .int .i64 a0_3, .int .i64 a0_4, .int .i64 a0_5]) (t := 25) ?hr ?_; (case hd => rfl); (case hg => rfl); (case hr => first | (go_simp; done) | (go_simp; rfl)); intro gbz1 hg wz1 hbox hb; have nz1_ := Aside0.mk (below_step (by repeat (first | (with_reducible first | exact HB.out | apply below_alloc | apply pw_below_drewN | apply below_drew1) | exact HB.out)) hb); have nz2_ := Aside0.mk (hbox); have nz3_ := Aside0.mk ((by rw [hg]; exact (below_size (by repeat (first | (with_reducible first | exact HB.out | apply below_alloc | apply pw_below_drewN | apply below_drew1) | exact HB.out))) : w.heap.size ≤ gbz1)); have nz4_ := Aside0.mk ((by rw [hg]; exact (below_size (by repeat (first | (with_reducible first | exact HB.out | apply below_alloc | apply pw_below_drewN | apply below_drew1) | exact HB.out))) : w.heap.size ≤ gbz1)); clear HB; have HB := nz1_; have BKz1 := nz2_; have GWz1 := nz3_; have GEz1 := nz4_; clear nz1_ nz2_ nz3_ nz4_; clear hb hbox hg; have hczz1_0 : wz1.cell? ⟨gbz1, 0, none⟩ = some (.int .i64 a0_0) := (blk_cell BKz1.out 0).trans rfl; have hczz1_1 : wz1.cell? ⟨gbz1, 1, none⟩ = some (.int .i64 a0_1) := (blk_cell BKz1.out 1).trans rfl; have hczz1_2 : wz1.cell? ⟨gbz1, 2, none⟩ = some (.int .i64 a0_2) := (blk_cell BKz1.out 2).trans rfl; have hczz1_3 : wz1.cell? ⟨gbz1, 3, none⟩ = some (.int .i64 a0_3) := (blk_cell BKz1.out 3).trans rfl; have hczz1_4 : wz1.cell? ⟨gbz1, 4, none⟩ = some (.int .i64 a0_4) := (blk_cell BKz1.out 4).trans rfl; have hczz1_5 : wz1.cell? ⟨gbz1, 5, none⟩ = some (.int .i64 a0_5) := (blk_cell BKz1.out 5).trans rfl; have hfzz1_0 := blk_frozen BKz1.out 0; have hfzz1_1 := blk_frozen BKz1.out 1; have hfzz1_2 := blk_frozen BKz1.out 2; have hfzz1_3 := blk_frozen BKz1.out 3; have hfzz1_4 := blk_frozen BKz1.out 4; have hfzz1_5 := blk_frozen BKz1.out 5) | ((with_reducible refine gate_callee (f := 11) rfl ?_); refine goesL_ (some 10) rfl rfl Try.func11 (by kernel_rfl) rfl #[.agg #[.int .i64 a0_0, .int .i64 a0_1, .int .i64 a0_2, .int .i64 a0_3, .int .i64 a0_4, .int .i64 a0_5]] rfl (by (try simp only [List.map_toArray, List.map_cons, List.map_nil]); first | done | rfl | (simp only [List.length_drop, List.length_take]; rfl)) ?_; (with_reducible refine (celluloidlaw18_ref.calls a0_0 a0_1 a0_2 a0_3 a0_4 a0_5 t256 t257 t258 t259 t260 t261 _ A4.out).mono ?_); rintro e wz2 ⟨rfl, hb⟩; refine ⟨_, rfl, ?_⟩; have nz1_ := Aside0.mk (blk_below (g := gbz1) (o := .cells #[.int .i64 a0_0, .int .i64 a0_1, .int .i64 a0_2, .int .i64 a0_3, .int .i64 a0_4, .int .i64 a0_5] 25 (0, 0)) (by (with_reducible repeat (first | refine blk_drewN ?_ _ | refine blk_drew ?_ | refine blk_alloc ?_ _)); exact BKz1.out) hb); have nz2_ := Aside0.mk (below_step (by repeat (first | (with_reducible first | exact HB.out | apply below_alloc | apply pw_below_drewN | apply below_drew1 | refine below_set ?_ GEz1.out) | exact HB.out)) hb); clear BKz1; clear HB; have BKz1 := nz1_; have HB := nz2_; clear nz1_ nz2_; (try clear hb); (try clear hb2); (try clear hk); (try clear hi)) | ((with_reducible refine gate_callee (f := 10) rfl ?_); refine goesL_ (some 11) rfl rfl Try.func10 (by kernel_rfl) rfl #[.agg #[.int .i64 t256, .int .i64 t257, .int .i64 t258, .int .i64 t259, .int .i64 t260, .int .i64 t261]] rfl (by (try simp only [List.map_toArray, List.map_cons, List.map_nil]); first | done | rfl | (simp only [List.length_drop, List.length_take]; rfl)) ?_; (with_reducible refine (celluloidref18_Right.calls k t256 t257 t258 t259 t260 t261 true _ A5.out).mono ?_); rintro e wz3 ⟨rfl, hb⟩; refine ⟨_, rfl, ?_⟩; have nz1_ := Aside0.mk (blk_below (g := gbz1) (o := .cells #[.int .i64 a0_0, .int .i64 a0_1, .int .i64 a0_2, .int .i64 a0_3, .int .i64 a0_4, .int .i64 a0_5] 25 (0, 0)) (by (with_reducible repeat (first | refine blk_drewN ?_ _ | refine blk_drew ?_ | refine blk_alloc ?_ _)); exact BKz1.out) hb); have nz2_ := Aside0.mk (below_step (by repeat (first | (with_reducible first | exact HB.out | apply below_alloc | apply pw_below_drewN | apply below_drew1 | refine below_set ?_ GEz1.out) | exact HB.out)) hb); clear BKz1; clear HB; have BKz1 := nz1_; have HB := nz2_; clear nz1_ nz2_; (try clear hb); (try clear hb2); (try clear hk); (try clear hi)) | (go_at_call 12; (with_reducible refine (celluloidlaw18_far.calls a1 a2 true _ A7.out).mono ?_); rintro e wz4 ⟨rfl, hb⟩; have nz1_ := Aside0.mk (blk_below (g := gbz1) (o := .cells #[.int .i64 a0_0, .int .i64 a0_1, .int .i64 a0_2, .int .i64 a0_3, .int .i64 a0_4, .int .i64 a0_5] 25 (0, 0)) (by (with_reducible repeat (first | refine blk_drewN ?_ _ | refine blk_drew ?_ | refine blk_alloc ?_ _)); exact BKz1.out) hb); have nz2_ := Aside0.mk (below_step (by repeat (first | (with_reducible first | exact HB.out | apply below_alloc | apply pw_below_drewN | apply below_drew1 | refine below_set ?_ GEz1.out) | exact HB.out)) hb); clear BKz1; clear HB; have BKz1 := nz1_; have HB := nz2_; clear nz1_ nz2_; (try clear hb); (try clear hb2); (try clear hk); (try clear hi); have hczz2_0 : wz4.cell? ⟨gbz1, 0, none⟩ = some (.int .i64 a0_0) := (blk_cell BKz1.out 0).trans rfl; have hczz2_1 : wz4.cell? ⟨gbz1, 1, none⟩ = some (.int .i64 a0_1) := (blk_cell BKz1.out 1).trans rfl; have hczz2_2 : wz4.cell? ⟨gbz1, 2, none⟩ = some (.int .i64 a0_2) := (blk_cell BKz1.out 2).trans rfl; have hczz2_3 : wz4.cell? ⟨gbz1, 3, none⟩ = some (.int .i64 a0_3) := (blk_cell BKz1.out 3).trans rfl; have hczz2_4 : wz4.cell? ⟨gbz1, 4, none⟩ = some (.int .i64 a0_4) := (blk_cell BKz1.out 4).trans rfl; have hczz2_5 : wz4.cell? ⟨gbz1, 5, none⟩ = some (.int .i64 a0_5) := (blk_cell BKz1.out 5).trans rfl; have hfzz2_0 := blk_frozen BKz1.out 0; have hfzz2_1 := blk_frozen BKz1.out 1; have hfzz2_2 := blk_frozen BKz1.out 2; have hfzz2_3 := blk_frozen BKz1.out 3; have hfzz2_4 := blk_frozen BKz1.out 4; have hfzz2_5 := blk_frozen BKz1.out 5) | ((with_reducible refine gate_callee (f := 14) rfl ?_); refine goesL_ (some 27) rfl rfl Try.func14 (by kernel_rfl) rfl #[.agg #[.int .i64 a0_0, .int .i64 a0_1, .int .i64 a0_2, .int .i64 a0_3, .int .i64 a0_4, .int .i64 a0_5]] rfl (by (try simp only [List.map_toArray, List.map_cons, List.map_nil]); first | done | rfl | (simp only [List.length_drop, List.length_take]; rfl)) ?_; (with_reducible refine (stroke_RightPiece.calls a0_0 a0_1 a0_2 a0_3 a0_4 a0_5 t264 _ A9.out).mono ?_); rintro e wz5 ⟨rfl, hb⟩; refine ⟨_, rfl, ?_⟩; have nz1_ := Aside0.mk (blk_below (g := gbz1) (o := .cells #[.int .i64 a0_0, .int .i64 a0_1, .int .i64 a0_2, .int .i64 a0_3, .int .i64 a0_4, .int .i64 a0_5] 25 (0, 0)) (by (with_reducible repeat (first | refine blk_drewN ?_ _ | refine blk_drew ?_ | refine blk_alloc ?_ _)); exact BKz1.out) hb); have nz2_ := Aside0.mk (below_step (by repeat (first | (with_reducible first | exact HB.out | apply below_alloc | apply pw_below_drewN | apply below_drew1 | refine below_set ?_ GEz1.out) | exact HB.out)) hb); clear BKz1; clear HB; have BKz1 := nz1_; have HB := nz2_; clear nz1_ nz2_; (try clear hb); (try clear hb2); (try clear hk); (try clear hi); have hczz3_0 : wz5.cell? ⟨gbz1, 0, none⟩ = some (.int .i64 a0_0) := (blk_cell BKz1.out 0).trans rfl; have hczz3_1 : wz5.cell? ⟨gbz1, 1, none⟩ = some (.int .i64 a0_1) := (blk_cell BKz1.out 1).trans rfl; have hczz3_2 : wz5.cell? ⟨gbz1, 2, none⟩ = some (.int .i64 a0_2) := (blk_cell BKz1.out 2).trans rfl; have hczz3_3 : wz5.cell? ⟨gbz1, 3, none⟩ = some (.int .i64 a0_3) := (blk_cell BKz1.out 3).trans rfl; have hczz3_4 : wz5.cell? ⟨gbz1, 4, none⟩ = some (.int .i64 a0_4) := (blk_cell BKz1.out 4).trans rfl; have hczz3_5 : wz5.cell? ⟨gbz1, 5, none⟩ = some (.int .i64 a0_5) := (blk_cell BKz1.out 5).trans rfl; have hfzz3_0 := blk_frozen BKz1.out 0; have hfzz3_1 := blk_frozen BKz1.out 1; have hfzz3_2 := blk_frozen BKz1.out 2; have hfzz3_3 := blk_frozen BKz1.out 3; have hfzz3_4 := blk_frozen BKz1.out 4; have hfzz3_5 := blk_frozen BKz1.out 5) | (go_at_call 15; (with_reducible refine (stroke_Near.calls a0_0 a0_1 a0_2 a0_3 a0_4 a0_5 a1 a2 t265 _ A11.out).mono ?_); rintro e wz6 ⟨rfl, hb⟩; have nz1_ := Aside0.mk (blk_below (g := gbz1) (o := .cells #[.int .i64 a0_0, .int .i64 a0_1, .int .i64 a0_2, .int .i64 a0_3, .int .i64 a0_4, .int .i64 a0_5] 25 (0, 0)) (by (with_reducible repeat (first | refine blk_drewN ?_ _ | refine blk_drew ?_ | refine blk_alloc ?_ _)); exact BKz1.out) hb); have nz2_ := Aside0.mk (below_step (by repeat (first | (with_reducible first | exact HB.out | apply below_alloc | apply pw_below_drewN | apply below_drew1 | refine below_set ?_ GEz1.out) | exact HB.out)) hb); clear BKz1; clear HB; have BKz1 := nz1_; have HB := nz2_; clear nz1_ nz2_; (try clear hb); (try clear hb2); (try clear hk); (try clear hi)) | (go_at_call 16; (with_reducible refine (celluloidlaw18_awake.calls k  t266 _ A13.out).mono ?_); rintro e wz7 ⟨rfl, hb⟩; have nz1_ := Aside0.mk (blk_below (g := gbz1) (o := .cells #[.int .i64 a0_0, .int .i64 a0_1, .int .i64 a0_2, .int .i64 a0_3, .int .i64 a0_4, .int .i64 a0_5] 25 (0, 0)) (by (with_reducible repeat (first | refine blk_drewN ?_ _ | refine blk_drew ?_ | refine blk_alloc ?_ _)); exact BKz1.out) hb); have nz2_ := Aside0.mk (below_step (by repeat (first | (with_reducible first | exact HB.out | apply below_alloc | apply pw_below_drewN | apply below_drew1 | refine below_set ?_ GEz1.out) | exact HB.out)) hb); clear BKz1; clear HB; have BKz1 := nz1_; have HB := nz2_; clear nz1_ nz2_; (try clear hb); (try clear hb2); (try clear hk); (try clear hi)) | ((with_reducible refine gate_callee (f := 14) rfl ?_); refine goesL_ (some 27) rfl rfl Try.func14 (by kernel_rfl) rfl #[.agg #[.int .i64 a0_0, .int .i64 a0_1, .int .i64 a0_2, .int .i64 a0_3, .int .i64 a0_4, .int .i64 a0_5]] rfl (by (try simp only [List.map_toArray, List.map_cons, List.map_nil]); first | done | rfl | (simp only [List.length_drop, List.length_take]; rfl)) ?_; (with_reducible refine (stroke_RightPiece.calls a0_0 a0_1 a0_2 a0_3 a0_4 a0_5 t264 _ A9.out).mono ?_); rintro e wz5 ⟨rfl, hb⟩; refine ⟨_, rfl, ?_⟩; have nz1_ := Aside0.mk (blk_below (g := gbz1) (o := .cells #[.int .i64 a0_0, .int .i64 a0_1, .int .i64 a0_2, .int .i64 a0_3, .int .i64 a0_4, .int .i64 a0_5] 25 (0, 0)) (by (with_reducible repeat (first | refine blk_drewN ?_ _ | refine blk_drew ?_ | refine blk_alloc ?_ _)); exact BKz1.out) hb); have nz2_ := Aside0.mk (below_step (by repeat (first | (with_reducible first | exact HB.out | apply below_alloc | apply pw_below_drewN | apply below_drew1 | refine below_set ?_ GEz1.out) | exact HB.out)) hb); clear BKz1; clear HB; have BKz1 := nz1_; have HB := nz2_; clear nz1_ nz2_; (try clear hb); (try clear hb2); (try clear hk); (try clear hi)) | (go_at_call 12; (with_reducible refine (celluloidlaw18_far.calls a1 a2 false _ A7.out).mono ?_); rintro e wz4 ⟨rfl, hb⟩; have nz1_ := Aside0.mk (blk_below (g := gbz1) (o := .cells #[.int .i64 a0_0, .int .i64 a0_1, .int .i64 a0_2, .int .i64 a0_3, .int .i64 a0_4, .int .i64 a0_5] 25 (0, 0)) (by (with_reducible repeat (first | refine blk_drewN ?_ _ | refine blk_drew ?_ | refine blk_alloc ?_ _)); exact BKz1.out) hb); have nz2_ := Aside0.mk (below_step (by repeat (first | (with_reducible first | exact HB.out | apply below_alloc | apply pw_below_drewN | apply below_drew1 | refine below_set ?_ GEz1.out) | exact HB.out)) hb); clear BKz1; clear HB; have BKz1 := nz1_; have HB := nz2_; clear nz1_ nz2_; (try clear hb); (try clear hb2); (try clear hk); (try clear hi); have hczz2_0 : wz4.cell? ⟨gbz1, 0, none⟩ = some (.int .i64 a0_0) := (blk_cell BKz1.out 0).trans rfl; have hczz2_1 : wz4.cell? ⟨gbz1, 1, none⟩ = some (.int .i64 a0_1) := (blk_cell BKz1.out 1).trans rfl; have hczz2_2 : wz4.cell? ⟨gbz1, 2, none⟩ = some (.int .i64 a0_2) := (blk_cell BKz1.out 2).trans rfl; have hczz2_3 : wz4.cell? ⟨gbz1, 3, none⟩ = some (.int .i64 a0_3) := (blk_cell BKz1.out 3).trans rfl; have hczz2_4 : wz4.cell? ⟨gbz1, 4, none⟩ = some (.int .i64 a0_4) := (blk_cell BKz1.out 4).trans rfl; have hczz2_5 : wz4.cell? ⟨gbz1, 5, none⟩ = some (.int .i64 a0_5) := (blk_cell BKz1.out 5).trans rfl; have hfzz2_0 := blk_frozen BKz1.out 0; have hfzz2_1 := blk_frozen BKz1.out 1; have hfzz2_2 := blk_frozen BKz1.out 2; have hfzz2_3 := blk_frozen BKz1.out 3; have hfzz2_4 := blk_frozen BKz1.out 4; have hfzz2_5 := blk_frozen BKz1.out 5) | (go_at_call 11; (with_reducible refine (celluloidlaw18_ref.calls a0_0 a0_1 a0_2 a0_3 a0_4 a0_5 t267 t268 t269 t270 t271 t272 _ A40.out).mono ?_); rintro e wz5 ⟨rfl, hb⟩; have nz1_ := Aside0.mk (blk_below (g := gbz1) (o := .cells #[.int .i64 a0_0, .int .i64 a0_1, .int .i64 a0_2, .int .i64 a0_3, .int .i64 a0_4, .int .i64 a0_5] 25 (0, 0)) (by (with_reducible repeat (first | refine blk_drewN ?_ _ | refine blk_drew ?_ | refine blk_alloc ?_ _)); exact BKz1.out) hb); have nz2_ := Aside0.mk (below_step (by repeat (first | (with_reducible first | exact HB.out | apply below_alloc | apply pw_below_drewN | apply below_drew1 | refine below_set ?_ GEz1.out) | exact HB.out)) hb); clear BKz1; clear HB; have BKz1 := nz1_; have HB := nz2_; clear nz1_ nz2_; (try clear hb); (try clear hb2); (try clear hk); (try clear hi)) | (go_at_call 13; (with_reducible refine (celluloidref18_Near.calls k t267 t268 t269 t270 t271 t272 a1 a2 t273 _ A41.out).mono ?_); rintro e wz6 ⟨rfl, hb⟩; have nz1_ := Aside0.mk (blk_below (g := gbz1) (o := .cells #[.int .i64 a0_0, .int .i64 a0_1, .int .i64 a0_2, .int .i64 a0_3, .int .i64 a0_4, .int .i64 a0_5] 25 (0, 0)) (by (with_reducible repeat (first | refine blk_drewN ?_ _ | refine blk_drew ?_ | refine blk_alloc ?_ _)); exact BKz1.out) hb); have nz2_ := Aside0.mk (below_step (by repeat (first | (with_reducible first | exact HB.out | apply below_alloc | apply pw_below_drewN | apply below_drew1 | refine below_set ?_ GEz1.out) | exact HB.out)) hb); clear BKz1; clear HB; have BKz1 := nz1_; have HB := nz2_; clear nz1_ nz2_; (try clear hb); (try clear hb2); (try clear hk); (try clear hi); have hczz3_0 : wz6.cell? ⟨gbz1, 0, none⟩ = some (.int .i64 a0_0) := (blk_cell BKz1.out 0).trans rfl; have hczz3_1 : wz6.cell? ⟨gbz1, 1, none⟩ = some (.int .i64 a0_1) := (blk_cell BKz1.out 1).trans rfl; have hczz3_2 : wz6.cell? ⟨gbz1, 2, none⟩ = some (.int .i64 a0_2) := (blk_cell BKz1.out 2).trans rfl; have hczz3_3 : wz6.cell? ⟨gbz1, 3, none⟩ = some (.int .i64 a0_3) := (blk_cell BKz1.out 3).trans rfl; have hczz3_4 : wz6.cell? ⟨gbz1, 4, none⟩ = some (.int .i64 a0_4) := (blk_cell BKz1.out 4).trans rfl; have hczz3_5 : wz6.cell? ⟨gbz1, 5, none⟩ = some (.int .i64 a0_5) := (blk_cell BKz1.out 5).trans rfl; have hfzz3_0 := blk_frozen BKz1.out 0; have hfzz3_1 := blk_frozen BKz1.out 1; have hfzz3_2 := blk_frozen BKz1.out 2; have hfzz3_3 := blk_frozen BKz1.out 3; have hfzz3_4 := blk_frozen BKz1.out 4; have hfzz3_5 := blk_frozen BKz1.out 5) | ((with_reducible refine gate_callee (f := 14) rfl ?_); refine goesL_ (some 27) rfl rfl Try.func14 (by kernel_rfl) rfl #[.agg #[.int .i64 a0_0, .int .i64 a0_1, .int .i64 a0_2, .int .i64 a0_3, .int .i64 a0_4, .int .i64 a0_5]] rfl (by (try simp only [List.map_toArray, List.map_cons, List.map_nil]); first | done | rfl | (simp only [List.length_drop, List.length_take]; rfl)) ?_; (with_reducible refine (stroke_RightPiece.calls a0_0 a0_1 a0_2 a0_3 a0_4 a0_5 t274 _ A42.out).mono ?_); rintro e wz7 ⟨rfl, hb⟩; refine ⟨_, rfl, ?_⟩; have nz1_ := Aside0.mk (blk_below (g := gbz1) (o := .cells #[.int .i64 a0_0, .int .i64 a0_1, .int .i64 a0_2, .int .i64 a0_3, .int .i64 a0_4, .int .i64 a0_5] 25 (0, 0)) (by (with_reducible repeat (first | refine blk_drewN ?_ _ | refine blk_drew ?_ | refine blk_alloc ?_ _)); exact BKz1.out) hb); have nz2_ := Aside0.mk (below_step (by repeat (first | (with_reducible first | exact HB.out | apply below_alloc | apply pw_below_drewN | apply below_drew1 | refine below_set ?_ GEz1.out) | exact HB.out)) hb); clear BKz1; clear HB; have BKz1 := nz1_; have HB := nz2_; clear nz1_ nz2_; (try clear hb); (try clear hb2); (try clear hk); (try clear hi); have hczz4_0 : wz7.cell? ⟨gbz1, 0, none⟩ = some (.int .i64 a0_0) := (blk_cell BKz1.out 0).trans rfl; have hczz4_1 : wz7.cell? ⟨gbz1, 1, none⟩ = some (.int .i64 a0_1) := (blk_cell BKz1.out 1).trans rfl; have hczz4_2 : wz7.cell? ⟨gbz1, 2, none⟩ = some (.int .i64 a0_2) := (blk_cell BKz1.out 2).trans rfl; have hczz4_3 : wz7.cell? ⟨gbz1, 3, none⟩ = some (.int .i64 a0_3) := (blk_cell BKz1.out 3).trans rfl; have hczz4_4 : wz7.cell? ⟨gbz1, 4, none⟩ = some (.int .i64 a0_4) := (blk_cell BKz1.out 4).trans rfl; have hczz4_5 : wz7.cell? ⟨gbz1, 5, none⟩ = some (.int .i64 a0_5) := (blk_cell BKz1.out 5).trans rfl; have hfzz4_0 := blk_frozen BKz1.out 0; have hfzz4_1 := blk_frozen BKz1.out 1; have hfzz4_2 := blk_frozen BKz1.out 2; have hfzz4_3 := blk_frozen BKz1.out 3; have hfzz4_4 := blk_frozen BKz1.out 4; have hfzz4_5 := blk_frozen BKz1.out 5) | (go_at_call 15; (with_reducible refine (stroke_Near.calls a0_0 a0_1 a0_2 a0_3 a0_4 a0_5 a1 a2 t275 _ A44.out).mono ?_); rintro e wz8 ⟨rfl, hb⟩; have nz1_ := Aside0.mk (blk_below (g := gbz1) (o := .cells #[.int .i64 a0_0, .int .i64 a0_1, .int .i64 a0_2, .int .i64 a0_3, .int .i64 a0_4, .int .i64 a0_5] 25 (0, 0)) (by (with_reducible repeat (first | refine blk_drewN ?_ _ | refine blk_drew ?_ | refine blk_alloc ?_ _)); exact BKz1.out) hb); have nz2_ := Aside0.mk (below_step (by repeat (first | (with_reducible first | exact HB.out | apply below_alloc | apply pw_below_drewN | apply below_drew1 | refine below_set ?_ GEz1.out) | exact HB.out)) hb); clear BKz1; clear HB; have BKz1 := nz1_; have HB := nz2_; clear nz1_ nz2_; (try clear hb); (try clear hb2); (try clear hk); (try clear hi)) | (go_at_call 16; (with_reducible refine (celluloidlaw18_awake.calls k  t276 _ A46.out).mono ?_); rintro e wz9 ⟨rfl, hb⟩; have nz1_ := Aside0.mk (blk_below (g := gbz1) (o := .cells #[.int .i64 a0_0, .int .i64 a0_1, .int .i64 a0_2, .int .i64 a0_3, .int .i64 a0_4, .int .i64 a0_5] 25 (0, 0)) (by (with_reducible repeat (first | refine blk_drewN ?_ _ | refine blk_drew ?_ | refine blk_alloc ?_ _)); exact BKz1.out) hb); have nz2_ := Aside0.mk (below_step (by repeat (first | (with_reducible first | exact HB.out | apply below_alloc | apply pw_below_drewN | apply below_drew1 | refine below_set ?_ GEz1.out) | exact HB.out)) hb); clear BKz1; clear HB; have BKz1 := nz1_; have HB := nz2_; clear nz1_ nz2_; (try clear hb); (try clear hb2); (try clear hk); (try clear hi)) | ((with_reducible refine gate_callee (f := 14) rfl ?_); refine goesL_ (some 27) rfl rfl Try.func14 (by kernel_rfl) rfl #[.agg #[.int .i64 a0_0, .int .i64 a0_1, .int .i64 a0_2, .int .i64 a0_3, .int .i64 a0_4, .int .i64 a0_5]] rfl (by (try simp only [List.map_toArray, List.map_cons, List.map_nil]); first | done | rfl | (simp only [List.length_drop, List.length_take]; rfl)) ?_; (with_reducible refine (stroke_RightPiece.calls a0_0 a0_1 a0_2 a0_3 a0_4 a0_5 t274 _ A42.out).mono ?_); rintro e wz7 ⟨rfl, hb⟩; refine ⟨_, rfl, ?_⟩; have nz1_ := Aside0.mk (blk_below (g := gbz1) (o := .cells #[.int .i64 a0_0, .int .i64 a0_1, .int .i64 a0_2, .int .i64 a0_3, .int .i64 a0_4, .int .i64 a0_5] 25 (0, 0)) (by (with_reducible repeat (first | refine blk_drewN ?_ _ | refine blk_drew ?_ | refine blk_alloc ?_ _)); exact BKz1.out) hb); have nz2_ := Aside0.mk (below_step (by repeat (first | (with_reducible first | exact HB.out | apply below_alloc | apply pw_below_drewN | apply below_drew1 | refine below_set ?_ GEz1.out) | exact HB.out)) hb); clear BKz1; clear HB; have BKz1 := nz1_; have HB := nz2_; clear nz1_ nz2_; (try clear hb); (try clear hb2); (try clear hk); (try clear hi)) | ((with_reducible refine gate_callee (f := 10) rfl ?_); refine goesL_ (some 11) rfl rfl Try.func10 (by kernel_rfl) rfl #[.agg #[.int .i64 t256, .int .i64 t257, .int .i64 t258, .int .i64 t259, .int .i64 t260, .int .i64 t261]] rfl (by (try simp only [List.map_toArray, List.map_cons, List.map_nil]); first | done | rfl | (simp only [List.length_drop, List.length_take]; rfl)) ?_; (with_reducible refine (celluloidref18_Right.calls k t256 t257 t258 t259 t260 t261 false _ A5.out).mono ?_); rintro e wz3 ⟨rfl, hb⟩; refine ⟨_, rfl, ?_⟩; have nz1_ := Aside0.mk (blk_below (g := gbz1) (o := .cells #[.int .i64 a0_0, .int .i64 a0_1, .int .i64 a0_2, .int .i64 a0_3, .int .i64 a0_4, .int .i64 a0_5] 25 (0, 0)) (by (with_reducible repeat (first | refine blk_drewN ?_ _ | refine blk_drew ?_ | refine blk_alloc ?_ _)); exact BKz1.out) hb); have nz2_ := Aside0.mk (below_step (by repeat (first | (with_reducible first | exact HB.out | apply below_alloc | apply pw_below_drewN | apply below_drew1 | refine below_set ?_ GEz1.out) | exact HB.out)) hb); clear BKz1; clear HB; have BKz1 := nz1_; have HB := nz2_; clear nz1_ nz2_; (try clear hb); (try clear hb2); (try clear hk); (try clear hi); have hczz2_0 : wz3.cell? ⟨gbz1, 0, none⟩ = some (.int .i64 a0_0) := (blk_cell BKz1.out 0).trans rfl; have hczz2_1 : wz3.cell? ⟨gbz1, 1, none⟩ = some (.int .i64 a0_1) := (blk_cell BKz1.out 1).trans rfl; have hczz2_2 : wz3.cell? ⟨gbz1, 2, none⟩ = some (.int .i64 a0_2) := (blk_cell BKz1.out 2).trans rfl; have hczz2_3 : wz3.cell? ⟨gbz1, 3, none⟩ = some (.int .i64 a0_3) := (blk_cell BKz1.out 3).trans rfl; have hczz2_4 : wz3.cell? ⟨gbz1, 4, none⟩ = some (.int .i64 a0_4) := (blk_cell BKz1.out 4).trans rfl; have hczz2_5 : wz3.cell? ⟨gbz1, 5, none⟩ = some (.int .i64 a0_5) := (blk_cell BKz1.out 5).trans rfl; have hfzz2_0 := blk_frozen BKz1.out 0; have hfzz2_1 := blk_frozen BKz1.out 1; have hfzz2_2 := blk_frozen BKz1.out 2; have hfzz2_3 := blk_frozen BKz1.out 3; have hfzz2_4 := blk_frozen BKz1.out 4; have hfzz2_5 := blk_frozen BKz1.out 5) | ((with_reducible refine gate_callee (f := 14) rfl ?_); refine goesL_ (some 27) rfl rfl Try.func14 (by kernel_rfl) rfl #[.agg #[.int .i64 a0_0, .int .i64 a0_1, .int .i64 a0_2, .int .i64 a0_3, .int .i64 a0_4, .int .i64 a0_5]] rfl (by (try simp only [List.map_toArray, List.map_cons, List.map_nil]); first | done | rfl | (simp only [List.length_drop, List.length_take]; rfl)) ?_; (with_reducible refine (stroke_RightPiece.calls a0_0 a0_1 a0_2 a0_3 a0_4 a0_5 t277 _ A82.out).mono ?_); rintro e wz4 ⟨rfl, hb⟩; refine ⟨_, rfl, ?_⟩; have nz1_ := Aside0.mk (blk_below (g := gbz1) (o := .cells #[.int .i64 a0_0, .int .i64 a0_1, .int .i64 a0_2, .int .i64 a0_3, .int .i64 a0_4, .int .i64 a0_5] 25 (0, 0)) (by (with_reducible repeat (first | refine blk_drewN ?_ _ | refine blk_drew ?_ | refine blk_alloc ?_ _)); exact BKz1.out) hb); have nz2_ := Aside0.mk (below_step (by repeat (first | (with_reducible first | exact HB.out | apply below_alloc | apply pw_below_drewN | apply below_drew1 | refine below_set ?_ GEz1.out) | exact HB.out)) hb); clear BKz1; clear HB; have BKz1 := nz1_; have HB := nz2_; clear nz1_ nz2_; (try clear hb); (try clear hb2); (try clear hk); (try clear hi); have hczz3_0 : wz4.cell? ⟨gbz1, 0, none⟩ = some (.int .i64 a0_0) := (blk_cell BKz1.out 0).trans rfl; have hczz3_1 : wz4.cell? ⟨gbz1, 1, none⟩ = some (.int .i64 a0_1) := (blk_cell BKz1.out 1).trans rfl; have hczz3_2 : wz4.cell? ⟨gbz1, 2, none⟩ = some (.int .i64 a0_2) := (blk_cell BKz1.out 2).trans rfl; have hczz3_3 : wz4.cell? ⟨gbz1, 3, none⟩ = some (.int .i64 a0_3) := (blk_cell BKz1.out 3).trans rfl; have hczz3_4 : wz4.cell? ⟨gbz1, 4, none⟩ = some (.int .i64 a0_4) := (blk_cell BKz1.out 4).trans rfl; have hczz3_5 : wz4.cell? ⟨gbz1, 5, none⟩ = some (.int .i64 a0_5) := (blk_cell BKz1.out 5).trans rfl; have hfzz3_0 := blk_frozen BKz1.out 0; have hfzz3_1 := blk_frozen BKz1.out 1; have hfzz3_2 := blk_frozen BKz1.out 2; have hfzz3_3 := blk_frozen BKz1.out 3; have hfzz3_4 := blk_frozen BKz1.out 4; have hfzz3_5 := blk_frozen BKz1.out 5) | (go_at_call 15; (with_reducible refine (stroke_Near.calls a0_0 a0_1 a0_2 a0_3 a0_4 a0_5 a1 a2 t278 _ A84.out).mono ?_); rintro e wz5 ⟨rfl, hb⟩; have nz1_ := Aside0.mk (blk_below (g := gbz1) (o := .cells #[.int .i64 a0_0, .int .i64 a0_1, .int .i64 a0_2, .int .i64 a0_3, .int .i64 a0_4, .int .i64 a0_5] 25 (0, 0)) (by (with_reducible repeat (first | refine blk_drewN ?_ _ | refine blk_drew ?_ | refine blk_alloc ?_ _)); exact BKz1.out) hb); have nz2_ := Aside0.mk (below_step (by repeat (first | (with_reducible first | exact HB.out | apply below_alloc | apply pw_below_drewN | apply below_drew1 | refine below_set ?_ GEz1.out) | exact HB.out)) hb); clear BKz1; clear HB; have BKz1 := nz1_; have HB := nz2_; clear nz1_ nz2_; (try clear hb); (try clear hb2); (try clear hk); (try clear hi)) | (go_at_call 16; (with_reducible refine (celluloidlaw18_awake.calls k  t279 _ A86.out).mono ?_); rintro e wz6 ⟨rfl, hb⟩; have nz1_ := Aside0.mk (blk_below (g := gbz1) (o := .cells #[.int .i64 a0_0, .int .i64 a0_1, .int .i64 a0_2, .int .i64 a0_3, .int .i64 a0_4, .int .i64 a0_5] 25 (0, 0)) (by (with_reducible repeat (first | refine blk_drewN ?_ _ | refine blk_drew ?_ | refine blk_alloc ?_ _)); exact BKz1.out) hb); have nz2_ := Aside0.mk (below_step (by repeat (first | (with_reducible first | exact HB.out | apply below_alloc | apply pw_below_drewN | apply below_drew1 | refine below_set ?_ GEz1.out) | exact HB.out)) hb); clear BKz1; clear HB; have BKz1 := nz1_; have HB := nz2_; clear nz1_ nz2_; (try clear hb); (try clear hb2); (try clear hk); (try clear hi)) | ((with_reducible refine gate_callee (f := 14) rfl ?_); refine goesL_ (some 27) rfl rfl Try.func14 (by kernel_rfl) rfl #[.agg #[.int .i64 a0_0, .int .i64 a0_1, .int .i64 a0_2, .int .i64 a0_3, .int .i64 a0_4, .int .i64 a0_5]] rfl (by (try simp only [List.map_toArray, List.map_cons, List.map_nil]); first | done | rfl | (simp only [List.length_drop, List.length_take]; rfl)) ?_; (with_reducible refine (stroke_RightPiece.calls a0_0 a0_1 a0_2 a0_3 a0_4 a0_5 t277 _ A82.out).mono ?_); rintro e wz4 ⟨rfl, hb⟩; refine ⟨_, rfl, ?_⟩; have nz1_ := Aside0.mk (blk_below (g := gbz1) (o := .cells #[.int .i64 a0_0, .int .i64 a0_1, .int .i64 a0_2, .int .i64 a0_3, .int .i64 a0_4, .int .i64 a0_5] 25 (0, 0)) (by (with_reducible repeat (first | refine blk_drewN ?_ _ | refine blk_drew ?_ | refine blk_alloc ?_ _)); exact BKz1.out) hb); have nz2_ := Aside0.mk (below_step (by repeat (first | (with_reducible first | exact HB.out | apply below_alloc | apply pw_below_drewN | apply below_drew1 | refine below_set ?_ GEz1.out) | exact HB.out)) hb); clear BKz1; clear HB; have BKz1 := nz1_; have HB := nz2_; clear nz1_ nz2_; (try clear hb); (try clear hb2); (try clear hk); (try clear hi)))
    go_ret
    exact ⟨by first | rfl | (simp [errW_none, errW_some] <;> rfl) | (simp [*, errW_none, errW_some] <;> rfl), by repeat (first | (with_reducible first | exact HB.out | apply below_alloc | apply pw_below_drewN | apply below_drew1 | refine below_set ?_ GEz1.out) | exact HB.out)⟩

/-! ### celluloidref18_Owner: function 18 -/
def celluloidref18_Owner.l0 : Nat → List (S27) → Int → Int → Int → Int → Option (Int)
  | 0, _, _, _, _, _ => none
  | k + 1, x0, x1, x2, x7, x8 => if x8 < (x0.length : Int) then (if 0 ≤ x8 then (if ((rd_T27 x0 x8).f2) > x7 then ((celluloidref18_Near.f k ((rd_T27 x0 x8).f0.f0) ((rd_T27 x0 x8).f0.f1) ((rd_T27 x0 x8).f1.f0) ((rd_T27 x0 x8).f1.f1) ((rd_T27 x0 x8).f2) ((rd_T27 x0 x8).f3) x1 x2).bind fun t282 => (if t282 = true then (celluloidref18_Owner.l0 k x0 x1 x2 ((rd_T27 x0 x8).f2) (wrap64 (x8 + 1))) else (celluloidref18_Owner.l0 k x0 x1 x2 x7 (wrap64 (x8 + 1))))) else (celluloidref18_Owner.l0 k x0 x1 x2 x7 (wrap64 (x8 + 1)))) else (none)) else (some x7)
def celluloidref18_Owner.f (k : Nat) (l0 : List (S27)) (a1 : Int) (a2 : Int) : Option (Int) := celluloidref18_Owner.l0 k l0 a1 a2 0 0
theorem celluloidref18_Owner.mono_l : ∀ k, (∀ y0 y1 y2 y3 y4, LeO (celluloidref18_Owner.l0 k y0 y1 y2 y3 y4) (celluloidref18_Owner.l0 (k + 1) y0 y1 y2 y3 y4))
  | 0 => fun _ _ _ _ _ r h => by simp [celluloidref18_Owner.l0] at h
  | k + 1 => by
    have ih0 := celluloidref18_Owner.mono_l k
    · intro y0 y1 y2 y3 y4
      unfold celluloidref18_Owner.l0
      repeat' first
      | (with_reducible exact ih0 _ _ _ _ _)
      | (with_reducible exact celluloidref18_Near.mono _ _ _ _ _ _ _ _ _)
      | (with_reducible exact LeO.refl _)
      | (with_reducible exact LeO.none _)
      | (with_reducible refine LeO.ite ?_ ?_)
      | (with_reducible refine LeO.bind ?_ (fun _ => ?_))
      | exact ih0 _ _ _ _ _
      | exact celluloidref18_Near.mono _ _ _ _ _ _ _ _ _
      | exact LeO.none _
      | refine LeO.ite ?_ ?_
      | refine LeO.bind ?_ (fun _ => ?_)
theorem celluloidref18_Owner.mono : ∀ a0 a1 a2 k, LeO (celluloidref18_Owner.f k a0 a1 a2) (celluloidref18_Owner.f (k + 1) a0 a1 a2) := by
  intro a0 a1 a2 k
  have ih0 := celluloidref18_Owner.mono_l k
  unfold celluloidref18_Owner.f
  repeat' first
      | (with_reducible exact ih0 _ _ _ _ _)
      | (with_reducible exact celluloidref18_Near.mono _ _ _ _ _ _ _ _ _)
      | (with_reducible exact LeO.refl _)
      | (with_reducible exact LeO.none _)
      | (with_reducible refine LeO.ite ?_ ?_)
      | (with_reducible refine LeO.bind ?_ (fun _ => ?_))
      | exact ih0 _ _ _ _ _
      | exact celluloidref18_Near.mono _ _ _ _ _ _ _ _ _
      | exact LeO.none _
      | refine LeO.ite ?_ ?_
      | refine LeO.bind ?_ (fun _ => ?_)
set_option maxHeartbeats 8000000 in
set_option maxRecDepth 100000 in
theorem celluloidref18_Owner.calls (k : Nat) (A0 : Option Addr) (c0 : Nat) (l0 : List (S27)) (a1 : Int) (a2 : Int) (r : Int) (w : World) (hr0 : Kd.C k27 w A0 l0.length l0) (hc0 : l0.length ≤ c0) (h : celluloidref18_Owner.f k l0 a1 a2 = some r) :
    Calls Try.prog 18 #[.slice A0 l0.length c0, .int .i64 a1, .int .i64 a2] w fun e w' => e = .returned (.int .i64 r) ∧ Below w.heap.size w w' := by
  have hu27 := Try.underlying27
  have HR0 := Aside0.mk hr0
  have HC0 := Aside0.mk hc0
  clear hr0 hc0
  have HB := Aside0.mk (Below.refl w.heap.size w)
  have H : (celluloidref18_Owner.l0 k l0 a1 a2 0 0) = some r := h
  clear h
  have H' := Aside0.mk H
  clear H
  go_enter Try.func18, Try.ntmps18
  go_wp2
  go_loopg [7, 8] k (fun kq v7 v8 w' => ∃ (x7_1 : Int) (x8_1 : Int), v7 = .int .i64 x7_1 ∧ v8 = .int .i64 x8_1 ∧ Aside0 (celluloidref18_Owner.l0 kq l0 a1 a2 x7_1 x8_1 = some r) ∧ Aside0 (kq ≤ k) ∧ Aside0 (Below w.heap.size w w'))
  case atStart => exact ⟨(0), (0), (by first | rfl | (simp; done) | (simp [*]; done)), (by first | rfl | (simp; done) | (simp [*]; done)), H', ⟨Nat.le_refl _⟩, ⟨by repeat (first | (with_reducible first | exact HB.out | apply below_alloc | apply pw_below_drewN | apply below_drew1) | exact HB.out)⟩⟩
  case round =>
    clear H'
    try clear c1
    try clear p2
    obtain ⟨x7_1, x8_1, rfl, rfl, HA, HK1, HB⟩ := hrel
    cases gk with
    | zero => exact absurd HA.out (by simp [celluloidref18_Owner.l0])
    | succ k1 =>
      have H := HA.out
      clear HA
      simp only [celluloidref18_Owner.l0] at H
      by_cases c4 : x8_1 < (l0.length : Int)
      · rw [if_pos c4] at H
        have c4b0 : decide (x8_1 < (l0.length : Int)) = true := decide_eq_true c4
        clear c4
        by_cases c5 : 0 ≤ x8_1
        · rw [if_pos c5] at H
          have c5b0 : decide (0 ≤ x8_1) = true := decide_eq_true c5
          clear c5
          by_cases c6 : ((rd_T27 l0 x8_1).f2) > x7_1
          · rw [if_pos c6] at H
            have c6b0 : decide (x7_1 < ((rd_T27 l0 x8_1).f2)) = true := decide_eq_true c6
            clear c6
            replace H := Option.bind_eq_some_iff.mp H
            obtain ⟨t282, A70, H⟩ := H
            replace H : (if t282 = true then (celluloidref18_Owner.l0 k1 l0 a1 a2 ((rd_T27 l0 x8_1).f2) (wrap64 (x8_1 + 1))) else (celluloidref18_Owner.l0 k1 l0 a1 a2 x7_1 (wrap64 (x8_1 + 1)))) = some r := H
            have A7 := Aside0.mk A70
            clear A70
            by_cases c8 : t282 = true
            · subst c8
              have H1 : (celluloidref18_Owner.l0 k1 l0 a1 a2 ((rd_T27 l0 x8_1).f2) (wrap64 (x8_1 + 1))) = some r := by rw [if_pos rfl] at H; exact H
              clear H
              have H := H1
              clear H1
              have H' := Aside0.mk H
              clear H
              have p280 : 0 ≤ (x8_1 : Int) := of_decide_eq_true (by first | (with_reducible assumption) | assumption)
              have q280 : x8_1 < (l0.length : Int) := of_decide_eq_true (by first | (with_reducible assumption) | assumption)
              obtain ⟨ad280, e280, hx280_0, hx280_1, hx280_2, hx280_3, hx280_4, hx280_5⟩ := at_T27 HR0.out x8_1 p280 q280
              cases e280
              replace hx280_0 := (HB.out.cell (World.block_lt_of_cell? w _ hx280_0)).trans hx280_0
              replace hx280_1 := (HB.out.cell (World.block_lt_of_cell? w _ hx280_1)).trans hx280_1
              replace hx280_2 := (HB.out.cell (World.block_lt_of_cell? w _ hx280_2)).trans hx280_2
              replace hx280_3 := (HB.out.cell (World.block_lt_of_cell? w _ hx280_3)).trans hx280_3
              replace hx280_4 := (HB.out.cell (World.block_lt_of_cell? w _ hx280_4)).trans hx280_4
              replace hx280_5 := (HB.out.cell (World.block_lt_of_cell? w _ hx280_5)).trans hx280_5
              replace p280 := eq_true p280
              replace q280 := eq_true q280
              have p281 : 0 ≤ (x8_1 : Int) := of_decide_eq_true (by first | (with_reducible assumption) | assumption)
              have q281 : x8_1 < (l0.length : Int) := of_decide_eq_true (by first | (with_reducible assumption) | assumption)
              obtain ⟨ad281, e281, hx281_0, hx281_1, hx281_2, hx281_3, hx281_4, hx281_5⟩ := at_T27 HR0.out x8_1 p281 q281
              obtain rfl : ad280 = ad281 := (by injection e281)
              replace hx281_0 := (HB.out.cell (World.block_lt_of_cell? w _ hx281_0)).trans hx281_0
              replace hx281_1 := (HB.out.cell (World.block_lt_of_cell? w _ hx281_1)).trans hx281_1
              replace hx281_2 := (HB.out.cell (World.block_lt_of_cell? w _ hx281_2)).trans hx281_2
              replace hx281_3 := (HB.out.cell (World.block_lt_of_cell? w _ hx281_3)).trans hx281_3
              replace hx281_4 := (HB.out.cell (World.block_lt_of_cell? w _ hx281_4)).trans hx281_4
              replace hx281_5 := (HB.out.cell (World.block_lt_of_cell? w _ hx281_5)).trans hx281_5
              replace p281 := eq_true p281
              replace q281 := eq_true q281
              go_wp2_with (first | (go_at_call 13; (with_reducible refine (celluloidref18_Near.calls k1 ((rd_T27 l0 x8_1).f0.f0) ((rd_T27 l0 x8_1).f0.f1) ((rd_T27 l0 x8_1).f1.f0) ((rd_T27 l0 x8_1).f1.f1) ((rd_T27 l0 x8_1).f2) ((rd_T27 l0 x8_1).f3) a1 a2 true _ A7.out).mono ?_); rintro e w9 ⟨rfl, hb⟩; have n0_ := Aside0.mk (below_step (by repeat (first | (with_reducible first | exact HB.out | apply below_alloc | apply pw_below_drewN | apply below_drew1) | exact HB.out)) hb); clear HB; have HB := n0_; clear n0_; (try clear hb); (try clear hb2); (try clear hk); (try clear hi); have p283 : 0 ≤ (x8_1 : Int) := of_decide_eq_true (by first | (with_reducible assumption) | assumption); have q283 : x8_1 < (l0.length : Int) := of_decide_eq_true (by first | (with_reducible assumption) | assumption); obtain ⟨ad283, e283, hx283_0, hx283_1, hx283_2, hx283_3, hx283_4, hx283_5⟩ := at_T27 HR0.out x8_1 p283 q283; obtain rfl : ad280 = ad283 := (by injection e283); replace hx283_0 := (HB.out.cell (World.block_lt_of_cell? w _ hx283_0)).trans hx283_0; replace hx283_1 := (HB.out.cell (World.block_lt_of_cell? w _ hx283_1)).trans hx283_1; replace hx283_2 := (HB.out.cell (World.block_lt_of_cell? w _ hx283_2)).trans hx283_2; replace hx283_3 := (HB.out.cell (World.block_lt_of_cell? w _ hx283_3)).trans hx283_3; replace hx283_4 := (HB.out.cell (World.block_lt_of_cell? w _ hx283_4)).trans hx283_4; replace hx283_5 := (HB.out.cell (World.block_lt_of_cell? w _ hx283_5)).trans hx283_5; replace p283 := eq_true p283; replace q283 := eq_true q283))
              go_roundg k1
              case measure => have := HK1.out; omega
              case rel => exact ⟨((rd_T27 l0 x8_1).f2), (wrap64 (x8_1 + 1)), (by first | rfl | (simp; done) | (simp [*]; done)), (by first | rfl | (simp; done) | (simp [*]; done)), H', ⟨by have := HK1.out; omega⟩, ⟨by repeat (first | (with_reducible first | exact HB.out | apply below_alloc | apply pw_below_drewN | apply below_drew1) | exact HB.out)⟩⟩
            · replace c8 := Bool.eq_false_iff.mpr c8
              subst c8
              have H1 : (celluloidref18_Owner.l0 k1 l0 a1 a2 x7_1 (wrap64 (x8_1 + 1))) = some r := by rw [if_neg (show ¬ (false = true) by decide)] at H; exact H
              clear H
              have H := H1
              clear H1
              have H' := Aside0.mk H
              clear H
              have p280 : 0 ≤ (x8_1 : Int) := of_decide_eq_true (by first | (with_reducible assumption) | assumption)
              have q280 : x8_1 < (l0.length : Int) := of_decide_eq_true (by first | (with_reducible assumption) | assumption)
              obtain ⟨ad280, e280, hx280_0, hx280_1, hx280_2, hx280_3, hx280_4, hx280_5⟩ := at_T27 HR0.out x8_1 p280 q280
              cases e280
              replace hx280_0 := (HB.out.cell (World.block_lt_of_cell? w _ hx280_0)).trans hx280_0
              replace hx280_1 := (HB.out.cell (World.block_lt_of_cell? w _ hx280_1)).trans hx280_1
              replace hx280_2 := (HB.out.cell (World.block_lt_of_cell? w _ hx280_2)).trans hx280_2
              replace hx280_3 := (HB.out.cell (World.block_lt_of_cell? w _ hx280_3)).trans hx280_3
              replace hx280_4 := (HB.out.cell (World.block_lt_of_cell? w _ hx280_4)).trans hx280_4
              replace hx280_5 := (HB.out.cell (World.block_lt_of_cell? w _ hx280_5)).trans hx280_5
              replace p280 := eq_true p280
              replace q280 := eq_true q280
              have p281 : 0 ≤ (x8_1 : Int) := of_decide_eq_true (by first | (with_reducible assumption) | assumption)
              have q281 : x8_1 < (l0.length : Int) := of_decide_eq_true (by first | (with_reducible assumption) | assumption)
              obtain ⟨ad281, e281, hx281_0, hx281_1, hx281_2, hx281_3, hx281_4, hx281_5⟩ := at_T27 HR0.out x8_1 p281 q281
              obtain rfl : ad280 = ad281 := (by injection e281)
              replace hx281_0 := (HB.out.cell (World.block_lt_of_cell? w _ hx281_0)).trans hx281_0
              replace hx281_1 := (HB.out.cell (World.block_lt_of_cell? w _ hx281_1)).trans hx281_1
              replace hx281_2 := (HB.out.cell (World.block_lt_of_cell? w _ hx281_2)).trans hx281_2
              replace hx281_3 := (HB.out.cell (World.block_lt_of_cell? w _ hx281_3)).trans hx281_3
              replace hx281_4 := (HB.out.cell (World.block_lt_of_cell? w _ hx281_4)).trans hx281_4
              replace hx281_5 := (HB.out.cell (World.block_lt_of_cell? w _ hx281_5)).trans hx281_5
              replace p281 := eq_true p281
              replace q281 := eq_true q281
              go_wp2_with (first | (go_at_call 13; (with_reducible refine (celluloidref18_Near.calls k1 ((rd_T27 l0 x8_1).f0.f0) ((rd_T27 l0 x8_1).f0.f1) ((rd_T27 l0 x8_1).f1.f0) ((rd_T27 l0 x8_1).f1.f1) ((rd_T27 l0 x8_1).f2) ((rd_T27 l0 x8_1).f3) a1 a2 false _ A7.out).mono ?_); rintro e w10 ⟨rfl, hb⟩; have n0_ := Aside0.mk (below_step (by repeat (first | (with_reducible first | exact HB.out | apply below_alloc | apply pw_below_drewN | apply below_drew1) | exact HB.out)) hb); clear HB; have HB := n0_; clear n0_; (try clear hb); (try clear hb2); (try clear hk); (try clear hi)))
              go_roundg k1
              case measure => have := HK1.out; omega
              case rel => exact ⟨(x7_1), (wrap64 (x8_1 + 1)), (by first | rfl | (simp; done) | (simp [*]; done)), (by first | rfl | (simp; done) | (simp [*]; done)), H', ⟨by have := HK1.out; omega⟩, ⟨by repeat (first | (with_reducible first | exact HB.out | apply below_alloc | apply pw_below_drewN | apply below_drew1) | exact HB.out)⟩⟩
          · rw [if_neg c6] at H
            have c6b0 : decide (x7_1 < ((rd_T27 l0 x8_1).f2)) = false := decide_eq_false c6
            clear c6
            have H' := Aside0.mk H
            clear H
            have p280 : 0 ≤ (x8_1 : Int) := of_decide_eq_true (by first | (with_reducible assumption) | assumption)
            have q280 : x8_1 < (l0.length : Int) := of_decide_eq_true (by first | (with_reducible assumption) | assumption)
            obtain ⟨ad280, e280, hx280_0, hx280_1, hx280_2, hx280_3, hx280_4, hx280_5⟩ := at_T27 HR0.out x8_1 p280 q280
            cases e280
            replace hx280_0 := (HB.out.cell (World.block_lt_of_cell? w _ hx280_0)).trans hx280_0
            replace hx280_1 := (HB.out.cell (World.block_lt_of_cell? w _ hx280_1)).trans hx280_1
            replace hx280_2 := (HB.out.cell (World.block_lt_of_cell? w _ hx280_2)).trans hx280_2
            replace hx280_3 := (HB.out.cell (World.block_lt_of_cell? w _ hx280_3)).trans hx280_3
            replace hx280_4 := (HB.out.cell (World.block_lt_of_cell? w _ hx280_4)).trans hx280_4
            replace hx280_5 := (HB.out.cell (World.block_lt_of_cell? w _ hx280_5)).trans hx280_5
            replace p280 := eq_true p280
            replace q280 := eq_true q280
            go_wp2
            go_roundg k1
            case measure => have := HK1.out; omega
            case rel => exact ⟨(x7_1), (wrap64 (x8_1 + 1)), (by first | rfl | (simp; done) | (simp [*]; done)), (by first | rfl | (simp; done) | (simp [*]; done)), H', ⟨by have := HK1.out; omega⟩, ⟨by repeat (first | (with_reducible first | exact HB.out | apply below_alloc | apply pw_below_drewN | apply below_drew1) | exact HB.out)⟩⟩
        · rw [if_neg c5] at H
          exact absurd H (by simp)
      · rw [if_neg c4] at H
        have c4b0 : decide (x8_1 < (l0.length : Int)) = false := decide_eq_false c4
        clear c4
        obtain rfl := Option.some.inj H
        go_wp2
        go_ret
        exact ⟨by first | rfl | (simp [errW_none, errW_some] <;> rfl) | (simp [*, errW_none, errW_some] <;> rfl), by repeat (first | (with_reducible first | exact HB.out | apply below_alloc | apply pw_below_drewN | apply below_drew1) | exact HB.out)⟩

end Go.Proofs.Ytnofihkmgedbfaa.P
