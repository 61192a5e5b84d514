/- Printed by printx.py (wip/tool) out of the translation: plain functions that tell what the program answers, and the proofs that the program comes to these answers, for all arguments of their kinds. Lean checks it. -/
import Derived.Test.YtgmegmhioiljcaaPx0
import Derived.Test.YtgmegmhioiljcaaPx1
import Derived.Test.YtgmegmhioiljcaaPx2
import Derived.Test.YtgmegmhioiljcaaPx3
namespace Go.Proofs.Ytgmegmhioiljcaa.P
open Go.RowKit Go.Proofs.YtgmegmhioiljcaaW.PrintWords Go.Proofs.YtgmegmhioiljcaaW.PrintLast Go.Proofs.YtgmegmhioiljcaaW.PrintMore
attribute [local go_sem] max2_int min2_int max_two min_two max_three min_three max_four min_four max_five min_five max_six min_six   -- for this text's walks alone
set_option linter.unusedVariables false
set_option linter.unusedSimpArgs false

/-! ### fix_MulDiv: function 35 -/
def fix_MulDiv.j0 : Nat → Int → Int → Bool → Option (Int × Bool)
  | 0, _, _, _ => none
  | k + 1, x12, x13, x47 => if x47 = true then ((fix_narrowed.f x12 false).bind fun t145 => (if t145 = true then (some (wrap64 (x12), true)) else (some (0, false)))) else (if x13 > 0 then (if (IntKind.u64.wrap (x12 + 1)) = 0 then (some (0, false)) else ((fix_narrowed.f (IntKind.u64.wrap (x12 + 1)) true).bind fun t146 => (if t146 = true then (some (wrap64 (IntKind.u64.wrap (-(IntKind.u64.wrap (x12 + 1)))), true)) else (some (0, false))))) else ((fix_narrowed.f x12 true).bind fun t147 => (if t147 = true then (some (wrap64 (IntKind.u64.wrap (-x12)), true)) else (some (0, false)))))
def fix_MulDiv.f (k : Nat) (a0 : Int) (a1 : Int) (a2 : Int) : Option (Int × Bool) := if a2 = 0 then (some (0, false)) else ((fix_times.f a0 a1).bind fun bt137 => ((fix_wide_abs.f bt137.1 bt137.2).bind fun bt139 => ((fix_size.f a2).bind fun t142 => (if bt139.1 ≥ t142 then (some (0, false)) else ((bits_Div64.f k bt139.1 bt139.2.1 t142).bind fun bt143 => (if (bt139.2.2 == (decide (a2 < 0))) = true then (fix_MulDiv.j0 k bt143.1 bt143.2 true) else (if bt143.1 = 0 then (fix_MulDiv.j0 k bt143.1 bt143.2 (bt143.2 == 0)) else (fix_MulDiv.j0 k bt143.1 bt143.2 false))))))))
theorem fix_MulDiv.mono_l : ∀ k, (∀ y0 y1 y2, LeO (fix_MulDiv.j0 k y0 y1 y2) (fix_MulDiv.j0 (k + 1) y0 y1 y2))
  | 0 => fun _ _ _ r h => by simp [fix_MulDiv.j0] at h
  | k + 1 => by
    have ih0 := fix_MulDiv.mono_l k
    · intro y0 y1 y2
      unfold fix_MulDiv.j0
      repeat' first
      | (with_reducible exact ih0 _ _ _)
      | (with_reducible exact bits_Div64.mono _ _ _ _)
      | (with_reducible exact LeO.refl _)
      | (with_reducible exact LeO.none _)
      | (with_reducible refine LeO.ite ?_ ?_)
      | (with_reducible refine LeO.bind ?_ (fun _ => ?_))
      | exact ih0 _ _ _
      | exact bits_Div64.mono _ _ _ _
      | exact LeO.none _
      | refine LeO.ite ?_ ?_
      | refine LeO.bind ?_ (fun _ => ?_)
theorem fix_MulDiv.mono : ∀ a0 a1 a2 k, LeO (fix_MulDiv.f k a0 a1 a2) (fix_MulDiv.f (k + 1) a0 a1 a2) := by
  intro a0 a1 a2 k
  have ih0 := fix_MulDiv.mono_l k
  unfold fix_MulDiv.f
  repeat' first
      | (with_reducible exact ih0 _ _ _)
      | (with_reducible exact bits_Div64.mono _ _ _ _)
      | (with_reducible exact LeO.refl _)
      | (with_reducible exact LeO.none _)
      | (with_reducible refine LeO.ite ?_ ?_)
      | (with_reducible refine LeO.bind ?_ (fun _ => ?_))
      | exact ih0 _ _ _
      | exact bits_Div64.mono _ _ _ _
      | exact LeO.none _
      | refine LeO.ite ?_ ?_
      | refine LeO.bind ?_ (fun _ => ?_)
set_option maxHeartbeats 8000000 in
set_option maxRecDepth 100000 in
theorem fix_MulDiv.calls (k : Nat) (a0 : Int) (a1 : Int) (a2 : Int) (r1 : Int) (r2 : Bool) (w : World) (h : fix_MulDiv.f k a0 a1 a2 = some (r1, r2)) :
    Calls Try.prog 35 #[.int .i64 a0, .int .i64 a1, .int .i64 a2] w fun e w' => e = .returned (.tuple #[.int .i64 r1, .bool r2]) ∧ Below w.heap.size w w' := by
  have HB := Aside0.mk (Below.refl w.heap.size w)
  have H : (if a2 = 0 then (some (0, false)) else ((fix_times.f a0 a1).bind fun bt137 => ((fix_wide_abs.f bt137.1 bt137.2).bind fun bt139 => ((fix_size.f a2).bind fun t142 => (if bt139.1 ≥ t142 then (some (0, false)) else ((bits_Div64.f k bt139.1 bt139.2.1 t142).bind fun bt143 => (if (bt139.2.2 == (decide (a2 < 0))) = true then (fix_MulDiv.j0 k bt143.1 bt143.2 true) else (if bt143.1 = 0 then (fix_MulDiv.j0 k bt143.1 bt143.2 (bt143.2 == 0)) else (fix_MulDiv.j0 k bt143.1 bt143.2 false))))))))) = some (r1, r2) := h
  clear h
  by_cases c4 : a2 = 0
  · rw [if_pos c4] at H
    have c4b0 : (a2 == 0) = true := beq_iff_eq.mpr c4
    have c4b1 : (a2 != 0) = false := bne_eq_false_iff_eq.mpr c4
    clear c4
    simp only [Option.some.injEq, Prod.mk.injEq] at H
    obtain ⟨rfl, rfl⟩ := H
    go_enter Try.func35, Try.ntmps35
    go_wp2
    go_ret2
    exact ⟨by first | rfl | (simp [errW_none, errW_some] <;> rfl) | (simp [*, errW_none, errW_some] <;> rfl), by repeat (first | (with_reducible first | exact HB.out | apply below_alloc | apply pw_below_drewN | apply below_drew1) | exact HB.out)⟩
  · rw [if_neg c4] at H
    have c4b0 : (a2 == 0) = false := beq_eq_false_iff_ne.mpr c4
    have c4b1 : (a2 != 0) = true := bne_iff_ne.mpr c4
    replace H := Option.bind_eq_some_iff.mp H
    obtain ⟨⟨t137, t138⟩, A50, H⟩ := H
    replace H : ((fix_wide_abs.f t137 t138).bind fun bt139 => ((fix_size.f a2).bind fun t142 => (if bt139.1 ≥ t142 then (some (0, false)) else ((bits_Div64.f k bt139.1 bt139.2.1 t142).bind fun bt143 => (if (bt139.2.2 == (decide (a2 < 0))) = true then (fix_MulDiv.j0 k bt143.1 bt143.2 true) else (if bt143.1 = 0 then (fix_MulDiv.j0 k bt143.1 bt143.2 (bt143.2 == 0)) else (fix_MulDiv.j0 k bt143.1 bt143.2 false))))))) = some (r1, r2) := H
    have A5 := Aside0.mk A50
    clear A50
    replace H := Option.bind_eq_some_iff.mp H
    obtain ⟨⟨t139, t140, t141⟩, A60, H⟩ := H
    replace H : ((fix_size.f a2).bind fun t142 => (if t139 ≥ t142 then (some (0, false)) else ((bits_Div64.f k t139 t140 t142).bind fun bt143 => (if (t141 == (decide (a2 < 0))) = true then (fix_MulDiv.j0 k bt143.1 bt143.2 true) else (if bt143.1 = 0 then (fix_MulDiv.j0 k bt143.1 bt143.2 (bt143.2 == 0)) else (fix_MulDiv.j0 k bt143.1 bt143.2 false)))))) = some (r1, r2) := H
    have A6 := Aside0.mk A60
    clear A60
    replace H := Option.bind_eq_some_iff.mp H
    obtain ⟨t142, A70, H⟩ := H
    replace H : (if t139 ≥ t142 then (some (0, false)) else ((bits_Div64.f k t139 t140 t142).bind fun bt143 => (if (t141 == (decide (a2 < 0))) = true then (fix_MulDiv.j0 k bt143.1 bt143.2 true) else (if bt143.1 = 0 then (fix_MulDiv.j0 k bt143.1 bt143.2 (bt143.2 == 0)) else (fix_MulDiv.j0 k bt143.1 bt143.2 false))))) = some (r1, r2) := H
    have A7 := Aside0.mk A70
    clear A70
    by_cases c8 : t139 ≥ t142
    · rw [if_pos c8] at H
      have c8b0 : decide (t142 ≤ t139) = true := decide_eq_true c8
      clear c8
      simp only [Option.some.injEq, Prod.mk.injEq] at H
      obtain ⟨rfl, rfl⟩ := H
      go_enter Try.func35, Try.ntmps35
      go_wp2_with (first | ((with_reducible refine gate_callee (f := 39) rfl ?_); refine goesL_ (some 19) rfl rfl Try.func39 (by kernel_rfl) rfl #[.int .i64 a0, .int .i64 a1] rfl (by (try simp only [List.map_toArray, List.map_cons, List.map_nil]); first | done | rfl | (simp only [List.length_drop, List.length_take]; rfl)) ?_; (with_reducible refine (fix_times.calls a0 a1 t137 t138 _ A5.out).mono ?_); rintro e w9 ⟨rfl, hb⟩; refine ⟨_, rfl, ?_⟩; have n0_ := Aside0.mk (below_step (by repeat (first | (with_reducible first | exact HB.out | apply below_alloc | apply pw_below_drewN | apply below_drew1) | exact HB.out)) hb); clear HB; have HB := n0_; clear n0_; (try clear hb); (try clear hb2); (try clear hk); (try clear hi)) | ((with_reducible refine gate_callee (f := 40) rfl ?_); refine goesL_ (some 20) rfl rfl Try.func40 (by kernel_rfl) rfl #[.agg #[.int .i64 t137, .int .u64 t138]] rfl (by (try simp only [List.map_toArray, List.map_cons, List.map_nil]); first | done | rfl | (simp only [List.length_drop, List.length_take]; rfl)) ?_; (with_reducible refine (fix_wide_abs.calls t137 t138 t139 t140 t141 _ A6.out).mono ?_); rintro e w10 ⟨rfl, hb⟩; refine ⟨_, rfl, ?_⟩; have n0_ := Aside0.mk (below_step (by repeat (first | (with_reducible first | exact HB.out | apply below_alloc | apply pw_below_drewN | apply below_drew1) | exact HB.out)) hb); clear HB; have HB := n0_; clear n0_; (try clear hb); (try clear hb2); (try clear hk); (try clear hi)) | ((with_reducible refine gate_callee (f := 41) rfl ?_); refine goesL_ (some 25) rfl rfl Try.func41 (by kernel_rfl) rfl #[.int .i64 a2] rfl (by (try simp only [List.map_toArray, List.map_cons, List.map_nil]); first | done | rfl | (simp only [List.length_drop, List.length_take]; rfl)) ?_; (with_reducible refine (fix_size.calls a2 t142 _ A7.out).mono ?_); rintro e w' ⟨rfl, ⟨nd, rfl⟩⟩; refine ⟨_, rfl, ?_⟩))
      go_ret2
      exact ⟨by first | rfl | (simp [errW_none, errW_some] <;> rfl) | (simp [*, errW_none, errW_some] <;> rfl), by repeat (first | (with_reducible first | exact HB.out | apply below_alloc | apply pw_below_drewN | apply below_drew1) | exact HB.out)⟩
    · rw [if_neg c8] at H
      have c8b0 : decide (t142 ≤ t139) = false := decide_eq_false c8
      clear c8
      replace H := Option.bind_eq_some_iff.mp H
      obtain ⟨⟨t143, t144⟩, A110, H⟩ := H
      replace H : (if (t141 == (decide (a2 < 0))) = true then (fix_MulDiv.j0 k t143 t144 true) else (if t143 = 0 then (fix_MulDiv.j0 k t143 t144 (t144 == 0)) else (fix_MulDiv.j0 k t143 t144 false))) = some (r1, r2) := H
      have A11 := Aside0.mk A110
      clear A110
      have HC12 := Aside0.mk H
      clear H
      go_enter Try.func35, Try.ntmps35
      go_upto_region 8 with (first | ((with_reducible refine gate_callee (f := 39) rfl ?_); refine goesL_ (some 19) rfl rfl Try.func39 (by kernel_rfl) rfl #[.int .i64 a0, .int .i64 a1] rfl (by (try simp only [List.map_toArray, List.map_cons, List.map_nil]); first | done | rfl | (simp only [List.length_drop, List.length_take]; rfl)) ?_; (with_reducible refine (fix_times.calls a0 a1 t137 t138 _ A5.out).mono ?_); rintro e w13 ⟨rfl, hb⟩; refine ⟨_, rfl, ?_⟩; have n0_ := Aside0.mk (below_step (by repeat (first | (with_reducible first | exact HB.out | apply below_alloc | apply pw_below_drewN | apply below_drew1) | exact HB.out)) hb); clear HB; have HB := n0_; clear n0_; (try clear hb); (try clear hb2); (try clear hk); (try clear hi)) | ((with_reducible refine gate_callee (f := 40) rfl ?_); refine goesL_ (some 20) rfl rfl Try.func40 (by kernel_rfl) rfl #[.agg #[.int .i64 t137, .int .u64 t138]] rfl (by (try simp only [List.map_toArray, List.map_cons, List.map_nil]); first | done | rfl | (simp only [List.length_drop, List.length_take]; rfl)) ?_; (with_reducible refine (fix_wide_abs.calls t137 t138 t139 t140 t141 _ A6.out).mono ?_); rintro e w14 ⟨rfl, hb⟩; refine ⟨_, rfl, ?_⟩; have n0_ := Aside0.mk (below_step (by repeat (first | (with_reducible first | exact HB.out | apply below_alloc | apply pw_below_drewN | apply below_drew1) | exact HB.out)) hb); clear HB; have HB := n0_; clear n0_; (try clear hb); (try clear hb2); (try clear hk); (try clear hi)) | ((with_reducible refine gate_callee (f := 41) rfl ?_); refine goesL_ (some 25) rfl rfl Try.func41 (by kernel_rfl) rfl #[.int .i64 a2] rfl (by (try simp only [List.map_toArray, List.map_cons, List.map_nil]); first | done | rfl | (simp only [List.length_drop, List.length_take]; rfl)) ?_; (with_reducible refine (fix_size.calls a2 t142 _ A7.out).mono ?_); rintro e w' ⟨rfl, ⟨nd, rfl⟩⟩; refine ⟨_, rfl, ?_⟩) | ((with_reducible refine gate_callee (f := 42) rfl ?_); refine goesL_ (some 33) rfl rfl Try.func42 (by kernel_rfl) rfl #[.int .u64 t139, .int .u64 t140, .int .u64 t142] rfl (by (try simp only [List.map_toArray, List.map_cons, List.map_nil]); first | done | rfl | (simp only [List.length_drop, List.length_take]; rfl)) ?_; (with_reducible refine (bits_Div64.calls k t139 t140 t142 t143 t144 _ A11.out).mono ?_); rintro e w' ⟨rfl, ⟨nd, rfl⟩⟩; refine ⟨_, rfl, ?_⟩))
      (try simp only [Act.put, List.setIfInBounds_toArray, List.set_cons_zero, List.set_cons_succ])
      go_cut [47] (fun v47 wc => ∃ (kq : Nat) (x47_11 : Bool), v47 = .bool x47_11 ∧ Aside0 (fix_MulDiv.j0 kq t143 t144 x47_11 = some (r1, r2)) ∧ Aside0 (kq ≤ k) ∧ Aside0 (Below w.heap.size w wc))
      case first =>
        have H := HC12.out
        clear HC12
        by_cases c15 : (t141 == (decide (a2 < 0))) = true
        · rw [if_pos c15] at H
          have c15b0 : (t141 == (decide (a2 < 0))) = true := c15
          (try (have c15b1 : decide (t141 = (decide (a2 < 0))) = true := by simpa using c15))
          (try (have c15b2 : (t141 == (decide (a2 < 0))) = true := by simpa using c15))
          clear c15
          (first | rw [c15b0] | (simp only [i64_w, i32_w]; rw [c15b0]) | skip)
          have H' := Aside0.mk H
          clear H
          go_wp2
          go_meet
          case rel => exact ⟨_, (true), (by first | rfl | (simp; done) | (simp [*]; done)), H', ⟨by first | omega | exact Nat.le_refl _⟩, ⟨by repeat (first | (with_reducible first | exact HB.out | apply below_alloc | apply pw_below_drewN | apply below_drew1) | exact HB.out)⟩⟩
        · rw [if_neg c15] at H
          have c15b0 : (t141 == (decide (a2 < 0))) = false := by simpa using c15
          (try (have c15b1 : decide (t141 = (decide (a2 < 0))) = false := by simpa using c15))
          (try (have c15b2 : (t141 == (decide (a2 < 0))) = false := by simpa using c15))
          (try (have c15b3 : ¬ (t141 = (decide (a2 < 0))) := by simpa using c15))
          clear c15
          (first | rw [c15b0] | (simp only [i64_w, i32_w]; rw [c15b0]) | skip)
          by_cases c16 : t143 = 0
          · rw [if_pos c16] at H
            have c16b0 : (t143 == 0) = true := beq_iff_eq.mpr c16
            have c16b1 : (t143 != 0) = false := bne_eq_false_iff_eq.mpr c16
            clear c16
            have H' := Aside0.mk H
            clear H
            go_wp2
            go_meet
            case rel => exact ⟨_, ((t144 == 0)), (by first | rfl | (simp; done) | (simp [*]; done)), H', ⟨by first | omega | exact Nat.le_refl _⟩, ⟨by repeat (first | (with_reducible first | exact HB.out | apply below_alloc | apply pw_below_drewN | apply below_drew1) | exact HB.out)⟩⟩
          · rw [if_neg c16] at H
            have c16b0 : (t143 == 0) = false := beq_eq_false_iff_ne.mpr c16
            have c16b1 : (t143 != 0) = true := bne_iff_ne.mpr c16
            have H' := Aside0.mk H
            clear H
            go_wp2
            go_meet
            case rel => exact ⟨_, (false), (by first | rfl | (simp; done) | (simp [*]; done)), H', ⟨by first | omega | exact Nat.le_refl _⟩, ⟨by repeat (first | (with_reducible first | exact HB.out | apply below_alloc | apply pw_below_drewN | apply below_drew1) | exact HB.out)⟩⟩
      case rest =>
        clear HC12
        try clear c1
        try clear p2
        try clear c3
        try clear c4
        try clear c4b0
        try clear c4b1
        try clear c8
        try clear c8b0
        try clear c15
        try clear c15b0
        try clear c15b1
        try clear c15b2
        try clear c16
        try clear c16b0
        try clear c16b1
        obtain ⟨kq, x47_11, rfl, HA, HJ11, HB⟩ := hcut
        cases kq with
        | zero => exact absurd HA.out (by simp [fix_MulDiv.j0])
        | succ kj11 =>
          have H := HA.out
          clear HA
          simp only [fix_MulDiv.j0] at H
          by_cases c17 : x47_11 = true
          · subst c17
            have H1 : ((fix_narrowed.f t143 false).bind fun t145 => (if t145 = true then (some (wrap64 (t143), true)) else (some (0, false)))) = some (r1, r2) := by rw [if_pos rfl] at H; exact H
            clear H
            have H := H1
            clear H1
            replace H := Option.bind_eq_some_iff.mp H
            obtain ⟨t145, A180, H⟩ := H
            replace H : (if t145 = true then (some (wrap64 (t143), true)) else (some (0, false))) = some (r1, r2) := H
            have A18 := Aside0.mk A180
            clear A180
            by_cases c19 : t145 = true
            · subst c19
              have H1 : (some (wrap64 (t143), true)) = some (r1, r2) := by rw [if_pos rfl] at H; exact H
              clear H
              have H := H1
              clear H1
              simp only [Option.some.injEq, Prod.mk.injEq] at H
              obtain ⟨rfl, rfl⟩ := H
              go_wp2_with (first | ((with_reducible refine gate_callee (f := 43) rfl ?_); refine goesL_ (some 49) rfl rfl Try.func43 (by kernel_rfl) rfl #[.int .u64 t143, .bool false] rfl (by (try simp only [List.map_toArray, List.map_cons, List.map_nil]); first | done | rfl | (simp only [List.length_drop, List.length_take]; rfl)) ?_; (with_reducible refine (fix_narrowed.calls t143 false true _ A18.out).mono ?_); rintro e w' ⟨rfl, ⟨nd, rfl⟩⟩; refine ⟨_, rfl, ?_⟩))
              go_ret2
              exact ⟨by first | rfl | (simp [errW_none, errW_some] <;> rfl) | (simp [*, errW_none, errW_some] <;> rfl), by repeat (first | (with_reducible first | exact HB.out | apply below_alloc | apply pw_below_drewN | apply below_drew1) | exact HB.out)⟩
            · replace c19 := Bool.eq_false_iff.mpr c19
              subst c19
              have H1 : (some (0, false)) = some (r1, r2) := by rw [if_neg (show ¬ (false = true) by decide)] at H; exact H
              clear H
              have H := H1
              clear H1
              simp only [Option.some.injEq, Prod.mk.injEq] at H
              obtain ⟨rfl, rfl⟩ := H
              go_wp2_with (first | ((with_reducible refine gate_callee (f := 43) rfl ?_); refine goesL_ (some 49) rfl rfl Try.func43 (by kernel_rfl) rfl #[.int .u64 t143, .bool false] rfl (by (try simp only [List.map_toArray, List.map_cons, List.map_nil]); first | done | rfl | (simp only [List.length_drop, List.length_take]; rfl)) ?_; (with_reducible refine (fix_narrowed.calls t143 false false _ A18.out).mono ?_); rintro e w' ⟨rfl, ⟨nd, rfl⟩⟩; refine ⟨_, rfl, ?_⟩))
              go_ret2
              exact ⟨by first | rfl | (simp [errW_none, errW_some] <;> rfl) | (simp [*, errW_none, errW_some] <;> rfl), by repeat (first | (with_reducible first | exact HB.out | apply below_alloc | apply pw_below_drewN | apply below_drew1) | exact HB.out)⟩
          · replace c17 := Bool.eq_false_iff.mpr c17
            subst c17
            have H1 : (if t144 > 0 then (if (IntKind.u64.wrap (t143 + 1)) = 0 then (some (0, false)) else ((fix_narrowed.f (IntKind.u64.wrap (t143 + 1)) true).bind fun t146 => (if t146 = true then (some (wrap64 (IntKind.u64.wrap (-(IntKind.u64.wrap (t143 + 1)))), true)) else (some (0, false))))) else ((fix_narrowed.f t143 true).bind fun t147 => (if t147 = true then (some (wrap64 (IntKind.u64.wrap (-t143)), true)) else (some (0, false))))) = some (r1, r2) := by rw [if_neg (show ¬ (false = true) by decide)] at H; exact H
            clear H
            have H := H1
            clear H1
            by_cases c20 : t144 > 0
            · rw [if_pos c20] at H
              have c20b0 : decide (0 < t144) = true := decide_eq_true c20
              clear c20
              by_cases c21 : (IntKind.u64.wrap (t143 + 1)) = 0
              · rw [if_pos c21] at H
                have c21b0 : ((IntKind.u64.wrap (t143 + 1)) == 0) = true := beq_iff_eq.mpr c21
                have c21b1 : ((IntKind.u64.wrap (t143 + 1)) != 0) = false := bne_eq_false_iff_eq.mpr c21
                clear c21
                simp only [Option.some.injEq, Prod.mk.injEq] at H
                obtain ⟨rfl, rfl⟩ := H
                go_wp2
                go_ret2
                exact ⟨by first | rfl | (simp [errW_none, errW_some] <;> rfl) | (simp [*, errW_none, errW_some] <;> rfl), by repeat (first | (with_reducible first | exact HB.out | apply below_alloc | apply pw_below_drewN | apply below_drew1) | exact HB.out)⟩
              · rw [if_neg c21] at H
                have c21b0 : ((IntKind.u64.wrap (t143 + 1)) == 0) = false := beq_eq_false_iff_ne.mpr c21
                have c21b1 : ((IntKind.u64.wrap (t143 + 1)) != 0) = true := bne_iff_ne.mpr c21
                replace H := Option.bind_eq_some_iff.mp H
                obtain ⟨t146, A220, H⟩ := H
                replace H : (if t146 = true then (some (wrap64 (IntKind.u64.wrap (-(IntKind.u64.wrap (t143 + 1)))), true)) else (some (0, false))) = some (r1, r2) := H
                have A22 := Aside0.mk A220
                clear A220
                by_cases c23 : t146 = true
                · subst c23
                  have H1 : (some (wrap64 (IntKind.u64.wrap (-(IntKind.u64.wrap (t143 + 1)))), true)) = some (r1, r2) := by rw [if_pos rfl] at H; exact H
                  clear H
                  have H := H1
                  clear H1
                  simp only [Option.some.injEq, Prod.mk.injEq] at H
                  obtain ⟨rfl, rfl⟩ := H
                  go_wp2_with (first | ((with_reducible refine gate_callee (f := 43) rfl ?_); refine goesL_ (some 60) rfl rfl Try.func43 (by kernel_rfl) rfl #[.int .u64 (IntKind.u64.wrap (t143 + 1)), .bool true] rfl (by (try simp only [List.map_toArray, List.map_cons, List.map_nil]); first | done | rfl | (simp only [List.length_drop, List.length_take]; rfl)) ?_; (with_reducible refine (fix_narrowed.calls (IntKind.u64.wrap (t143 + 1)) true true _ A22.out).mono ?_); rintro e w' ⟨rfl, ⟨nd, rfl⟩⟩; refine ⟨_, rfl, ?_⟩))
                  go_ret2
                  exact ⟨by first | rfl | (simp [errW_none, errW_some] <;> rfl) | (simp [*, errW_none, errW_some] <;> rfl), by repeat (first | (with_reducible first | exact HB.out | apply below_alloc | apply pw_below_drewN | apply below_drew1) | exact HB.out)⟩
                · replace c23 := Bool.eq_false_iff.mpr c23
                  subst c23
                  have H1 : (some (0, false)) = some (r1, r2) := by rw [if_neg (show ¬ (false = true) by decide)] at H; exact H
                  clear H
                  have H := H1
                  clear H1
                  simp only [Option.some.injEq, Prod.mk.injEq] at H
                  obtain ⟨rfl, rfl⟩ := H
                  go_wp2_with (first | ((with_reducible refine gate_callee (f := 43) rfl ?_); refine goesL_ (some 60) rfl rfl Try.func43 (by kernel_rfl) rfl #[.int .u64 (IntKind.u64.wrap (t143 + 1)), .bool true] rfl (by (try simp only [List.map_toArray, List.map_cons, List.map_nil]); first | done | rfl | (simp only [List.length_drop, List.length_take]; rfl)) ?_; (with_reducible refine (fix_narrowed.calls (IntKind.u64.wrap (t143 + 1)) true false _ A22.out).mono ?_); rintro e w' ⟨rfl, ⟨nd, rfl⟩⟩; refine ⟨_, rfl, ?_⟩))
                  go_ret2
                  exact ⟨by first | rfl | (simp [errW_none, errW_some] <;> rfl) | (simp [*, errW_none, errW_some] <;> rfl), by repeat (first | (with_reducible first | exact HB.out | apply below_alloc | apply pw_below_drewN | apply below_drew1) | exact HB.out)⟩
            · rw [if_neg c20] at H
              have c20b0 : decide (0 < t144) = false := decide_eq_false c20
              clear c20
              replace H := Option.bind_eq_some_iff.mp H
              obtain ⟨t147, A240, H⟩ := H
              replace H : (if t147 = true then (some (wrap64 (IntKind.u64.wrap (-t143)), true)) else (some (0, false))) = some (r1, r2) := H
              have A24 := Aside0.mk A240
              clear A240
              by_cases c25 : t147 = true
              · subst c25
                have H1 : (some (wrap64 (IntKind.u64.wrap (-t143)), true)) = some (r1, r2) := by rw [if_pos rfl] at H; exact H
                clear H
                have H := H1
                clear H1
                simp only [Option.some.injEq, Prod.mk.injEq] at H
                obtain ⟨rfl, rfl⟩ := H
                go_wp2_with (first | ((with_reducible refine gate_callee (f := 43) rfl ?_); refine goesL_ (some 60) rfl rfl Try.func43 (by kernel_rfl) rfl #[.int .u64 t143, .bool true] rfl (by (try simp only [List.map_toArray, List.map_cons, List.map_nil]); first | done | rfl | (simp only [List.length_drop, List.length_take]; rfl)) ?_; (with_reducible refine (fix_narrowed.calls t143 true true _ A24.out).mono ?_); rintro e w' ⟨rfl, ⟨nd, rfl⟩⟩; refine ⟨_, rfl, ?_⟩))
                go_ret2
                exact ⟨by first | rfl | (simp [errW_none, errW_some] <;> rfl) | (simp [*, errW_none, errW_some] <;> rfl), by repeat (first | (with_reducible first | exact HB.out | apply below_alloc | apply pw_below_drewN | apply below_drew1) | exact HB.out)⟩
              · replace c25 := Bool.eq_false_iff.mpr c25
                subst c25
                have H1 : (some (0, false)) = some (r1, r2) := by rw [if_neg (show ¬ (false = true) by decide)] at H; exact H
                clear H
                have H := H1
                clear H1
                simp only [Option.some.injEq, Prod.mk.injEq] at H
                obtain ⟨rfl, rfl⟩ := H
                go_wp2_with (first | ((with_reducible refine gate_callee (f := 43) rfl ?_); refine goesL_ (some 60) rfl rfl Try.func43 (by kernel_rfl) rfl #[.int .u64 t143, .bool true] rfl (by (try simp only [List.map_toArray, List.map_cons, List.map_nil]); first | done | rfl | (simp only [List.length_drop, List.length_take]; rfl)) ?_; (with_reducible refine (fix_narrowed.calls t143 true false _ A24.out).mono ?_); rintro e w' ⟨rfl, ⟨nd, rfl⟩⟩; refine ⟨_, rfl, ?_⟩))
                go_ret2
                exact ⟨by first | rfl | (simp [errW_none, errW_some] <;> rfl) | (simp [*, errW_none, errW_some] <;> rfl), by repeat (first | (with_reducible first | exact HB.out | apply below_alloc | apply pw_below_drewN | apply below_drew1) | exact HB.out)⟩

/-! ### fix_Floor: function 31 -/
def fix_Floor.f (k : Nat) (a0 : Int) (a1 : Int) : Option (Int × Bool) := (fix_MulDiv.f k a0 1 a1).bind fun bt148 => (some (bt148.1, bt148.2))
theorem fix_Floor.mono : ∀ a0 a1 k, LeO (fix_Floor.f k a0 a1) (fix_Floor.f (k + 1) a0 a1) := by
  intro a0 a1 k
  unfold fix_Floor.f
  repeat' first
      | (with_reducible exact fix_MulDiv.mono _ _ _ _)
      | (with_reducible exact LeO.refl _)
      | (with_reducible exact LeO.none _)
      | (with_reducible refine LeO.ite ?_ ?_)
      | (with_reducible refine LeO.bind ?_ (fun _ => ?_))
      | exact fix_MulDiv.mono _ _ _ _
      | exact LeO.none _
      | refine LeO.ite ?_ ?_
      | refine LeO.bind ?_ (fun _ => ?_)
set_option maxHeartbeats 8000000 in
set_option maxRecDepth 100000 in
theorem fix_Floor.calls (k : Nat) (a0 : Int) (a1 : Int) (r1 : Int) (r2 : Bool) (w : World) (h : fix_Floor.f k a0 a1 = some (r1, r2)) :
    Calls Try.prog 31 #[.int .i64 a0, .int .i64 a1] w fun e w' => e = .returned (.tuple #[.int .i64 r1, .bool r2]) ∧ Below w.heap.size w w' := by
  have HB := Aside0.mk (Below.refl w.heap.size w)
  have H : ((fix_MulDiv.f k a0 1 a1).bind fun bt148 => (some (bt148.1, bt148.2))) = some (r1, r2) := h
  clear h
  replace H := Option.bind_eq_some_iff.mp H
  obtain ⟨⟨t148, t149⟩, A30, H⟩ := H
  replace H : (some (t148, t149)) = some (r1, r2) := H
  have A3 := Aside0.mk A30
  clear A30
  simp only [Option.some.injEq, Prod.mk.injEq] at H
  obtain ⟨rfl, rfl⟩ := H
  go_enter Try.func31, Try.ntmps31
  go_wp2_with (first | ((with_reducible refine gate_callee (f := 35) rfl ?_); refine goesL_ (some 8) rfl rfl Try.func35 (by kernel_rfl) rfl #[.int .i64 a0, .int .i64 1, .int .i64 a1] rfl (by (try simp only [List.map_toArray, List.map_cons, List.map_nil]); first | done | rfl | (simp only [List.length_drop, List.length_take]; rfl)) ?_; (with_reducible refine (fix_MulDiv.calls k a0 1 a1 t148 t149 _ A3.out).mono ?_); rintro e w4 ⟨rfl, hb⟩; refine ⟨_, rfl, ?_⟩; have n0_ := Aside0.mk (below_step (by repeat (first | (with_reducible first | exact HB.out | apply below_alloc | apply pw_below_drewN | apply below_drew1) | exact HB.out)) hb); clear HB; have HB := n0_; clear n0_; (try clear hb); (try clear hb2); (try clear hk); (try clear hi)))
  go_ret2
  exact ⟨by first | rfl | (simp [errW_none, errW_some] <;> rfl) | (simp [*, errW_none, errW_some] <;> rfl), by repeat (first | (with_reducible first | exact HB.out | apply below_alloc | apply pw_below_drewN | apply below_drew1) | exact HB.out)⟩

/-! ### sweep_mark: function 32 -/
/-- How two marks stand: by their columns. -/
def cfM (x y : S61) : Int := if x.f0 < y.f0 then -1 else if x.f0 > y.f0 then 1 else 0
instance inhM : Inhabited S61 := ⟨z61⟩
/-- Marks, sorted as the library sorts them. -/
def sweep_mark.f (l0 : List S61) : Option (List S61) := if l0.length < 4611686018427387904 then some (Go.Sort.pdq (ltOf cfM) l0.toArray 0 l0.toArray.size (Lib.bitLen l0.toArray.size) true true).toList else none
theorem ltM (x y : S61) : ltOf cfM x y = decide (x.f0 < y.f0) := by
  unfold ltOf cfM
  by_cases h1 : x.f0 < y.f0
  · simp [h1]
  · by_cases h2 : x.f0 > y.f0 <;> simp [h1, h2]
theorem swoM : Go.Sort.SWO (ltOf cfM) where
  irrefl x := by rw [ltM]; simp
  trans x y z h1 h2 := by rw [ltM] at *; simp at *; omega
  ntrans x y z h1 h2 := by rw [ltM] at *; simp at *; omega
theorem cmpM (x y : S61) : cmp_Compare_int.f x.f0 y.f0 = some (cfM x y) := by
  unfold cmp_Compare_int.f cmp_isNaN_int.f cfM
  simp only [bne_self_eq_false, Option.bind_some, Bool.false_eq_true, if_false]
  by_cases h1 : x.f0 < y.f0
  · rw [if_pos h1, if_pos h1]
  · rw [if_neg h1, if_neg h1]
    by_cases h2 : x.f0 > y.f0
    · rw [if_pos h2, if_pos h2]
    · rw [if_neg h2, if_neg h2]
/-- A mark's cells. -/
def encM (x : S61) : List Value := [.int .i64 x.f0, .int .i64 x.f1, .int .i64 x.f2]
set_option maxHeartbeats 1000000 in
theorem closureM (x y : S61) (W : World) : Calls Try.prog 33 #[.agg (encM x).toArray, .agg (encM y).toArray] W fun e w' => e = .returned (.int .i64 (cfM x y)) ∧ ∃ q os', w' = Go.Sort.grow (W.drewN q) os' := by
  have hc := cmpM x y
  have hu := Try.underlying61
  show Calls Try.prog 33 #[.agg #[.int .i64 x.f0, .int .i64 x.f1, .int .i64 x.f2], .agg #[.int .i64 y.f0, .int .i64 y.f1, .int .i64 y.f2]] W _
  generalize cfM x y = r at hc ⊢
  generalize x.f0 = x0 at hc ⊢
  generalize y.f0 = y0 at hc ⊢
  replace hc := Aside0.mk hc
  go_enter Try.func33, Try.ntmps33
  go_wp2_with (first | (go_at_call 34; refine (cmp_Compare_int.calls x0 y0 r _ hc.out).mono ?_; rintro e w' ⟨rfl, ⟨nd, rfl⟩⟩))
  go_ret
  exact ⟨by first | rfl | (simp; done), nd, _, by rw [Go.Sort.alloc_eq_grow, Go.Sort.alloc_eq_grow, Go.Sort.grow_grow]; rfl⟩
theorem flatM (xs : List S61) (inner : List Value) (h : Reps (fun x c => c = encM x) 3 xs inner) : inner = (Go.Sort.flatK encM 3 xs.toArray).toList := by
  apply List.ext_getElem
  · rw [h.1]; simp
  · intro t h1 h2
    have hl := h.1
    have ht : t < xs.length * 3 := by omega
    have hj : t / 3 < xs.length := by omega
    have e := h.2 (t / 3) xs[t / 3] (List.getElem?_eq_getElem hj)
    have hf := Go.Sort.get_flatK encM 3 xs.toArray t (by simpa using ht)
    have e1 : inner[t] = ((inner.drop (t / 3 * 3)).take 3)[t % 3]! := by
      rw [List.getElem!_eq_getElem?_getD, List.getElem?_take_of_lt (by omega), List.getElem?_drop, show t / 3 * 3 + t % 3 = t by omega, List.getElem?_eq_getElem h1]; rfl
    have e2 : (Go.Sort.flatK encM 3 xs.toArray).toList[t] = (Go.Sort.flatK encM 3 xs.toArray)[t]! := by
      rw [getElem!_pos (Go.Sort.flatK encM 3 xs.toArray) t (by simpa using ht)]; rfl
    rw [e1, e, e2, hf]
    congr 1
    simp [hj]
theorem repsM (xs : List S61) : Reps (fun x c => c = encM x) 3 xs (Go.Sort.flatK encM 3 xs.toArray).toList := by
  refine ⟨by simp, fun j p hp => ?_⟩
  obtain ⟨hj, rfl⟩ := List.getElem?_eq_some_iff.mp hp
  apply List.ext_getElem
  · simp [encM]; omega
  · intro t h1 h2
    have ht : t < 3 := by simpa [encM] using h2
    rw [List.getElem_take, List.getElem_drop, Array.getElem_toList, ← getElem!_pos (Go.Sort.flatK encM 3 xs.toArray) (j * 3 + t) (by simp; omega), Go.Sort.get_flatK encM 3 xs.toArray (j * 3 + t) (by simp; omega), show (j * 3 + t) / 3 = j by omega, show (j * 3 + t) % 3 = t by omega]
    simp [hj, h2]
set_option maxHeartbeats 4000000 in
theorem sweep_mark.calls (P0_ : Nat → Prop) (u9000_ : Value) (l0 : List S61)  (r : List S61) (w0 w : World) (hB : Below w0.heap.size w0 w) (ho0 : Kd.R k61 61 w w0.heap.size P0_ u9000_ l0) (h : sweep_mark.f l0 = some r) :
    Calls Try.prog 32 #[u9000_, .func (.func 33) #[] #[]] w fun e w' => e = .returned (.tuple #[]) ∧ Kd.R k61 61 w' w0.heap.size (fun k_ => (P0_ k_ ∨ w.heap.size ≤ k_)) u9000_ r ∧ Below w0.heap.size w0 w' ∧ Kept w w' (fun k_ => P0_ k_) := by
  unfold sweep_mark.f at h
  by_cases hl : l0.length < 4611686018427387904
  · rw [if_pos hl] at h
    obtain rfl := Option.some.inj h
    obtain ⟨hP, inner, ⟨hx, ho⟩, hr⟩ := ho0
    have hp := Go.Sort.pdq_sorts (ltOf cfM) swoM l0.toArray 0 l0.toArray.size (Lib.bitLen l0.toArray.size) true true (Nat.zero_le _) (Nat.le_refl _) (Or.inl rfl)
    generalize hd : Go.Sort.pdq (ltOf cfM) l0.toArray 0 l0.toArray.size (Lib.bitLen l0.toArray.size) true true = d' at hp ⊢
    have hsz : d'.size = l0.length := by have := hp.1.1; simpa using this
    have hr' : Reps (fun x c => c = encM x) 3 l0 inner := ⟨hr.1, fun j p hj => k61_openM (hr.2 j p hj)⟩
    have ef := flatM l0 inner hr'
    rcases ho with ⟨rfl, hn⟩ | ⟨g, cap, cur, rfl, hg, hh, hc1, hc2, hc3, hc4⟩
    · refine (AnyF.slices_SortFunc_none Try.sortM none 0 (.func (.func 33) #[] #[]) w).mono ?_
      rintro e w' ⟨rfl, rfl⟩
      have e0 : d'.toList = [] := by rw [← List.length_eq_zero_iff, Array.length_toList, hsz, hn]
      rw [e0]
      exact ⟨rfl, Kd.R_nil _ _ _ _ _, hB, Nat.le_refl _, fun _ _ _ => rfl⟩
    · have hcur : cur.toList.take (l0.length * 3) = (Go.Sort.flatK encM 3 l0.toArray).toList := by rw [← ef]; exact hc4
      have hH : Go.Sort.HoldsK encM 3 w g 0 l0.toArray := by
        intro t ht
        have ht' : t < l0.length * 3 := by simpa using ht
        refine ⟨?_, by simp [World.frozen?, hh]⟩
        have h1 : (cur.toList.take (l0.length * 3))[t]? = (Go.Sort.flatK encM 3 l0.toArray).toList[t]? := by rw [hcur]
        rw [List.getElem?_take_of_lt ht', Array.getElem?_toList, Array.getElem?_toList] at h1
        simp only [World.cell?, hh, Nat.zero_add, Option.isSome_none, Bool.false_eq_true, if_false]
        rw [h1, Array.getElem?_eq_getElem ht, getElem!_pos _ t ht]; rfl
      have hgl : g < w.heap.size := (Array.getElem?_eq_some_iff.1 hh).1
      have eg : ∀ args w, (callFunc 33 args).run Try.prog w = .ok (.enter 33 args) w := enters_of Try.func33 (by kernel_rfl) rfl
      have hcon := AnyQ.slices_SortFunc_eq Try.sortM 3 Try.isAgg61 Try.sizeOf61 encM (fun _ => rfl) (fun x v hv => by simp [encM] at hv; rcases hv with rfl | rfl | rfl <;> rfl) cfM swoM 33 #[] g 0 cap l0.toArray w eg (fun _ _ _ _ x y => closureM x y _) hH hgl (by simpa using hl)
      rw [hd] at hcon
      have es : l0.toArray.size = l0.length := by simp
      rw [es] at hcon
      refine hcon.mono ?_
      rintro e w' ⟨rfl, n, os, rfl⟩
      have hh' : (sortWorldK encM 3 w g 0 n d' os).heap[g]? = some (.cells (Go.Sort.putCells id 0 (Go.Sort.flatK encM 3 d') cur) 61 (0, 0)) := by
        unfold sortWorldK Go.Sort.putRowK
        rw [Go.Sort.heap_grow_old _ _ (by simpa [Go.Sort.putRow, Go.Sort.mapBlock, Go.Sort.ahead] using hgl)]
        simp [Go.Sort.putRow, Go.Sort.mapBlock, Go.Sort.ahead, Array.getElem?_modify, hh, Go.Sort.onCells]
      have hgr : w.grownBy (sortWorldK encM 3 w g 0 n d' os) (some g) := by
        refine ⟨rfl, rfl, rfl, by simp [sortWorldK, Go.Sort.putRowK, Go.Sort.grow, Go.Sort.putRow, Go.Sort.mapBlock, Go.Sort.ahead], fun k hk hne => ?_⟩
        unfold sortWorldK Go.Sort.putRowK
        rw [Go.Sort.heap_grow_old _ _ (by simpa [Go.Sort.putRow, Go.Sort.mapBlock, Go.Sort.ahead] using hk)]
        have : g ≠ k := fun e => hne (by rw [e])
        simp [Go.Sort.putRow, Go.Sort.mapBlock, Go.Sort.ahead, Array.getElem?_modify, this]
      have hlen : d'.toList.length = l0.length := by simpa using hsz
      have hrep := repsM d'.toList
      have ha : d'.toList.toArray = d' := by simp
      rw [ha] at hrep
      refine ⟨rfl, ⟨fun k hk => .inl (hP k hk), (Go.Sort.flatK encM 3 d').toList, ⟨by show _ = d'.toList.length * 3; simp, .inr ⟨g, cap, _, by rw [hlen], hg, hh', by rw [hlen]; exact hc1, hc2, by simp [Go.Sort.putCells, hc3], ?_⟩⟩, ⟨hrep.1, fun j p hj => by show Kd.M k61 _ _ _ p (List.take 3 (List.drop (j * 3) (Go.Sort.flatK encM 3 d').toList)); rw [hrep.2 j p hj]; exact k61_mkM _ _ _ _⟩⟩, hB.grown hgr hB.size (fun j hj => by cases hj; exact hg), ?_⟩
      · show List.take (d'.toList.length * 3) _ = _
        apply List.ext_getElem?
        intro j
        by_cases hj : j < d'.size * 3
        · have hj2 : j < cur.size := by have : l0.length * 3 ≤ cap * 3 := Nat.mul_le_mul_right _ hc1
                                        rw [hc3]; show j < cap * 3; omega
          rw [List.getElem?_take_of_lt (by simpa using hj), Array.getElem?_toList, Array.getElem?_toList]
          simp [Go.Sort.putCells, hj, hj2]
        · rw [List.getElem?_take_eq_none (by simpa using hj), List.getElem?_eq_none (by simp; omega)]
      · exact ⟨hgr.size, fun i hi hn => hgr.block i hi (fun e => by
          have := Option.some.inj e
          subst this
          exact hn (hP _ (by simp [Value.ownBlock])))⟩
  · rw [if_neg hl] at h; cases h

/-! ### sweep_marks: function 29 -/
mutual
def sweep_marks.l0 : Nat → Int → Int → List (S61) → List (S27) → Int → Int → Option ((List (S61)))
  | 0, _, _, _, _, _, _ => none
  | k + 1, x1, x2, x7, x17, x18, x19 => if x19 < x18 then (if 0 ≤ x19 then (if x19 < (x17.length : Int) then ((sweep_down.f ((rd_T27 x17 x19).f0.f0) ((rd_T27 x17 x19).f0.f1) ((rd_T27 x17 x19).f1.f0) ((rd_T27 x17 x19).f1.f1) ((rd_T27 x17 x19).f2) ((rd_T27 x17 x19).f3)).bind fun bt153 => (if x1 < bt153.2.1 then (sweep_marks.j1 k x1 x2 x7 bt153.2.2.2.2.1 bt153.2.2.2.2.2 x17 x18 x19 true bt153.1 bt153.2.1 bt153.2.2.1 bt153.2.2.2.1) else (sweep_marks.j1 k x1 x2 x7 bt153.2.2.2.2.1 bt153.2.2.2.2.2 x17 x18 x19 (decide (x1 > bt153.2.2.2.1)) bt153.1 bt153.2.1 bt153.2.2.1 bt153.2.2.2.1))) else (none)) else (none)) else ((sweep_mark.f x7).bind fun t150 => (some t150))
def sweep_marks.j1 : Nat → Int → Int → List (S61) → Int → Int → List (S27) → Int → Int → Bool → Int → Int → Int → Int → Option ((List (S61)))
  | 0, _, _, _, _, _, _, _, _, _, _, _, _, _ => none
  | k + 1, x1, x2, x7, x12, x13, x17, x18, x19, x39, x160000, x160001, x161000, x161001 => if x39 = true then (sweep_marks.l0 k x1 x2 x7 x17 x18 (wrap64 (x19 + 1))) else ((fix_Floor.f k (wrap64 ((wrap64 ((wrap64 ((wrap64 ((wrap64 (x161000 - x160000)) * (wrap64 (x1 - x160001)))) + (wrap64 ((wrap64 (x160000 - 7)) * (wrap64 (x161001 - x160001)))))) + (wrap64 (16 * (wrap64 (x161001 - x160001)))))) - 1)) (wrap64 (16 * (wrap64 (x161001 - x160001))))).bind fun bt161 => (if bt161.1 < x2 then (if x7.length < 5864062014805 then (sweep_marks.l0 k x1 x2 (x7 ++ [(⟨mx bt161.1 0, x12, x13⟩ : S61)]) x17 x18 (wrap64 (x19 + 1))) else (none)) else (sweep_marks.l0 k x1 x2 x7 x17 x18 (wrap64 (x19 + 1)))))
end
def sweep_marks.f (k : Nat) (l0 : List (S27)) (a1 : Int) (a2 : Int) : Option ((List (S61))) := sweep_marks.l0 k a1 a2 ([] : List (S61)) l0 (l0.length : Int) 0
theorem sweep_marks.mono_l : ∀ k, (∀ y0 y1 y2 y3 y4 y5, LeO (sweep_marks.l0 k y0 y1 y2 y3 y4 y5) (sweep_marks.l0 (k + 1) y0 y1 y2 y3 y4 y5)) ∧ (∀ y0 y1 y2 y3 y4 y5 y6 y7 y8 y9 y10 y11 y12, LeO (sweep_marks.j1 k y0 y1 y2 y3 y4 y5 y6 y7 y8 y9 y10 y11 y12) (sweep_marks.j1 (k + 1) y0 y1 y2 y3 y4 y5 y6 y7 y8 y9 y10 y11 y12))
  | 0 => ⟨fun _ _ _ _ _ _ r h => by simp [sweep_marks.l0] at h, fun _ _ _ _ _ _ _ _ _ _ _ _ _ r h => by simp [sweep_marks.j1] at h⟩
  | k + 1 => by
    obtain ⟨ih0, ih1⟩ := sweep_marks.mono_l k
    refine ⟨?_, ?_⟩
    · intro y0 y1 y2 y3 y4 y5
      unfold sweep_marks.l0
      repeat' first
      | (with_reducible exact ih0 _ _ _ _ _ _)
      | (with_reducible exact ih1 _ _ _ _ _ _ _ _ _ _ _ _ _)
      | (with_reducible exact fix_Floor.mono _ _ _)
      | (with_reducible exact LeO.refl _)
      | (with_reducible exact LeO.none _)
      | (with_reducible refine LeO.ite ?_ ?_)
      | (with_reducible refine LeO.bind ?_ (fun _ => ?_))
      | exact ih0 _ _ _ _ _ _
      | exact ih1 _ _ _ _ _ _ _ _ _ _ _ _ _
      | exact fix_Floor.mono _ _ _
      | exact LeO.none _
      | refine LeO.ite ?_ ?_
      | refine LeO.bind ?_ (fun _ => ?_)
    · intro y0 y1 y2 y3 y4 y5 y6 y7 y8 y9 y10 y11 y12
      unfold sweep_marks.j1
      repeat' first
      | (with_reducible exact ih0 _ _ _ _ _ _)
      | (with_reducible exact ih1 _ _ _ _ _ _ _ _ _ _ _ _ _)
      | (with_reducible exact fix_Floor.mono _ _ _)
      | (with_reducible exact LeO.refl _)
      | (with_reducible exact LeO.none _)
      | (with_reducible refine LeO.ite ?_ ?_)
      | (with_reducible refine LeO.bind ?_ (fun _ => ?_))
      | exact ih0 _ _ _ _ _ _
      | exact ih1 _ _ _ _ _ _ _ _ _ _ _ _ _
      | exact fix_Floor.mono _ _ _
      | exact LeO.none _
      | refine LeO.ite ?_ ?_
      | refine LeO.bind ?_ (fun _ => ?_)
theorem sweep_marks.mono : ∀ a0 a1 a2 k, LeO (sweep_marks.f k a0 a1 a2) (sweep_marks.f (k + 1) a0 a1 a2) := by
  intro a0 a1 a2 k
  obtain ⟨ih0, ih1⟩ := sweep_marks.mono_l k
  unfold sweep_marks.f
  repeat' first
      | (with_reducible exact ih0 _ _ _ _ _ _)
      | (with_reducible exact ih1 _ _ _ _ _ _ _ _ _ _ _ _ _)
      | (with_reducible exact fix_Floor.mono _ _ _)
      | (with_reducible exact LeO.refl _)
      | (with_reducible exact LeO.none _)
      | (with_reducible refine LeO.ite ?_ ?_)
      | (with_reducible refine LeO.bind ?_ (fun _ => ?_))
      | exact ih0 _ _ _ _ _ _
      | exact ih1 _ _ _ _ _ _ _ _ _ _ _ _ _
      | exact fix_Floor.mono _ _ _
      | exact LeO.none _
      | refine LeO.ite ?_ ?_
      | refine LeO.bind ?_ (fun _ => ?_)
set_option maxHeartbeats 8000000 in
set_option maxRecDepth 100000 in
theorem sweep_marks.calls (k : Nat) (A0 : Option Addr) (c0 : Nat) (l0 : List (S27)) (a1 : Int) (a2 : Int) (r : List (S61)) (w : World) (hr0 : Kd.C k27 w A0 l0.length l0) (hc0 : l0.length ≤ c0) (h : sweep_marks.f k l0 a1 a2 = some r) :
    Calls Try.prog 29 #[.slice A0 l0.length c0, .int .i64 a1, .int .i64 a2] w fun e w' => ∃ v0_ : Value, e = .returned (v0_) ∧ Kd.R k61 61 w' w.heap.size (fun _ => True) v0_ r ∧ Below w.heap.size w w' := by
  have hu27 := Try.underlying27
  have hu25 := Try.underlying25
  have hu61 := Try.underlying61
  have HR0 := Aside0.mk hr0
  have HC0 := Aside0.mk hc0
  clear hr0 hc0
  have HB := Aside0.mk (Below.refl w.heap.size w)
  have H : (sweep_marks.l0 k a1 a2 ([] : List (S61)) l0 (l0.length : Int) 0) = some r := h
  clear h
  have H' := Aside0.mk H
  clear H
  go_enter Try.func29, Try.ntmps29
  go_wp2
  go_loopg [7, 19] k (fun kq v7 v19 w' => ∃ (x7_1 : List (S61)) (x19_1 : Int), v19 = .int .i64 x19_1 ∧ Aside0 (sweep_marks.l0 kq a1 a2 x7_1 l0 (l0.length : Int) x19_1 = some r) ∧ Aside0 (kq ≤ k) ∧ Aside0 (Kd.R k61 61 w' w.heap.size (fun _ => True) v7 x7_1) ∧ Aside0 (Below w.heap.size w w'))
  case atStart => exact ⟨(([] : List (S61))), (0), (by first | rfl | (simp; done) | (simp [*]; done)), H', ⟨Nat.le_refl _⟩, ⟨by first | exact Kd.R_nil _ _ _ _ _ | exact Kd.N_nil _ _ _ _ _ | exact Kd.V_nil _ _ _ _ _ | exact Kd.Q_nil _ _ _ _ _ | exact Kd.S_nil _ _ _ _ _⟩, ⟨by repeat (first | (with_reducible first | exact HB.out | apply below_alloc | apply pw_below_drewN | apply below_drew1) | exact HB.out)⟩⟩
  case round =>
    clear H'
    try clear c2
    try clear p2
    obtain ⟨x7_1, x19_1, rfl, HA, HK1, HO_7, HB⟩ := hrel
    cases gk with
    | zero => exact absurd HA.out (by simp [sweep_marks.l0])
    | succ k1 =>
      have H := HA.out
      clear HA
      simp only [sweep_marks.l0] at H
      by_cases c4 : x19_1 < (l0.length : Int)
      · rw [if_pos c4] at H
        have c4b0 : decide (x19_1 < (l0.length : Int)) = true := decide_eq_true c4
        clear c4
        by_cases c5 : 0 ≤ x19_1
        · rw [if_pos c5] at H
          have c5b0 : decide (0 ≤ x19_1) = true := decide_eq_true c5
          clear c5
          by_cases c6 : x19_1 < (l0.length : Int)
          · rw [if_pos c6] at H
            have c6b0 : decide (x19_1 < (l0.length : Int)) = true := decide_eq_true c6
            clear c6
            replace H := Option.bind_eq_some_iff.mp H
            obtain ⟨⟨t153, t154, t155, t156, t157, t158⟩, A70, H⟩ := H
            replace H : (if a1 < t154 then (sweep_marks.j1 k1 a1 a2 x7_1 t157 t158 l0 (l0.length : Int) x19_1 true t153 t154 t155 t156) else (sweep_marks.j1 k1 a1 a2 x7_1 t157 t158 l0 (l0.length : Int) x19_1 (decide (a1 > t156)) t153 t154 t155 t156)) = some r := H
            have A7 := Aside0.mk A70
            clear A70
            have HC8 := Aside0.mk H
            clear H
            have p151 : 0 ≤ (x19_1 : Int) := of_decide_eq_true (by first | (with_reducible assumption) | assumption)
            have q151 : x19_1 < (l0.length : Int) := of_decide_eq_true (by first | (with_reducible assumption) | assumption)
            obtain ⟨ad151, e151, hx151_0, hx151_1, hx151_2, hx151_3, hx151_4, hx151_5⟩ := at_T27 HR0.out x19_1 p151 q151
            cases e151
            replace hx151_0 := (HB.out.cell (World.block_lt_of_cell? w _ hx151_0)).trans hx151_0
            replace hx151_1 := (HB.out.cell (World.block_lt_of_cell? w _ hx151_1)).trans hx151_1
            replace hx151_2 := (HB.out.cell (World.block_lt_of_cell? w _ hx151_2)).trans hx151_2
            replace hx151_3 := (HB.out.cell (World.block_lt_of_cell? w _ hx151_3)).trans hx151_3
            replace hx151_4 := (HB.out.cell (World.block_lt_of_cell? w _ hx151_4)).trans hx151_4
            replace hx151_5 := (HB.out.cell (World.block_lt_of_cell? w _ hx151_5)).trans hx151_5
            replace p151 := eq_true p151
            replace q151 := eq_true q151
            go_upto_region 6 with (first | ((with_reducible refine gate_dst (N := 9) rfl ?_); refine box_event ?hg (N := 9) ?hd (cs := #[.int .i64 0, .int .i64 0, .int .i64 0, .int .i64 0, .int .i64 0, .int .i64 0]) (t := 27) ?hr ?_; (case hd => rfl); (case hg => rfl); (case hr => first | (go_simp; done) | (go_simp; rfl)); intro gb152 hg w9 hbox hb; have n0_ := Aside0.mk (Kd.R_below (by (with_reducible repeat (first | apply Kd.R_alloc | apply Kd.R_drewN | apply Kd.R_drew)); exact HO_7.out) hb); have n1_ := Aside0.mk (below_step (by repeat (first | (with_reducible first | exact HB.out | apply below_alloc | apply pw_below_drewN | apply below_drew1) | exact HB.out)) hb); have n2_ := Aside0.mk (hbox); have n3_ := Aside0.mk ((by rw [hg]; exact (below_size (by repeat (first | (with_reducible first | exact HB.out | apply below_alloc | apply pw_below_drewN | apply below_drew1) | exact HB.out))) : w.heap.size ≤ gb152)); have n4_ := Aside0.mk ((by rw [hg]; exact (below_size (by repeat (first | (with_reducible first | exact HB.out | apply below_alloc | apply pw_below_drewN | apply below_drew1) | exact HB.out))) : w.heap.size ≤ gb152)); clear HO_7; clear HB; have HO_7 := n0_; have HB := n1_; have BK152 := n2_; have GW152 := n3_; have GE152 := n4_; clear n0_ n1_ n2_ n3_ n4_; clear hb hbox hg; have hcz10_0 : w9.cell? ⟨gb152, 0, none⟩ = some (.int .i64 0) := (blk_cell BK152.out 0).trans rfl; have hcz10_1 : w9.cell? ⟨gb152, 1, none⟩ = some (.int .i64 0) := (blk_cell BK152.out 1).trans rfl; have hcz10_2 : w9.cell? ⟨gb152, 2, none⟩ = some (.int .i64 0) := (blk_cell BK152.out 2).trans rfl; have hcz10_3 : w9.cell? ⟨gb152, 3, none⟩ = some (.int .i64 0) := (blk_cell BK152.out 3).trans rfl; have hcz10_4 : w9.cell? ⟨gb152, 4, none⟩ = some (.int .i64 0) := (blk_cell BK152.out 4).trans rfl; have hcz10_5 : w9.cell? ⟨gb152, 5, none⟩ = some (.int .i64 0) := (blk_cell BK152.out 5).trans rfl; have hfz10_0 := blk_frozen BK152.out 0; have hfz10_1 := blk_frozen BK152.out 1; have hfz10_2 := blk_frozen BK152.out 2; have hfz10_3 := blk_frozen BK152.out 3; have hfz10_4 := blk_frozen BK152.out 4; have hfz10_5 := blk_frozen BK152.out 5) | ((with_reducible refine gate_callee (f := 25) rfl ?_); refine goesL_ (some 25) rfl rfl Try.func25 (by kernel_rfl) rfl #[.agg #[.int .i64 ((rd_T27 l0 x19_1).f0.f0), .int .i64 ((rd_T27 l0 x19_1).f0.f1), .int .i64 ((rd_T27 l0 x19_1).f1.f0), .int .i64 ((rd_T27 l0 x19_1).f1.f1), .int .i64 ((rd_T27 l0 x19_1).f2), .int .i64 ((rd_T27 l0 x19_1).f3)]] rfl (by (try simp only [List.map_toArray, List.map_cons, List.map_nil]); first | done | rfl | (simp only [List.length_drop, List.length_take]; rfl)) ?_; (with_reducible refine (sweep_down.calls ((rd_T27 l0 x19_1).f0.f0) ((rd_T27 l0 x19_1).f0.f1) ((rd_T27 l0 x19_1).f1.f0) ((rd_T27 l0 x19_1).f1.f1) ((rd_T27 l0 x19_1).f2) ((rd_T27 l0 x19_1).f3) t153 t154 t155 t156 t157 t158 _ A7.out).mono ?_); rintro e w11 ⟨rfl, hb⟩; refine ⟨_, rfl, ?_⟩; have n0_ := Aside0.mk (Kd.R_below (by (with_reducible repeat (first | apply Kd.R_alloc | apply Kd.R_drewN | apply Kd.R_drew)); exact (Kd.R_mono (Kd.R_far (p := ⟨gb152, 5, none⟩) (Kd.R_far (p := ⟨gb152, 4, none⟩) (Kd.R_far (p := ⟨gb152, 3, none⟩) (Kd.R_far (p := ⟨gb152, 2, none⟩) (Kd.R_far (p := ⟨gb152, 1, none⟩) (Kd.R_far (p := ⟨gb152, 0, none⟩) (Kd.R_types HO_7.out BK152.out (by decide)) (fun _ hk => hk.2) (.int .i64 ((rd_T27 l0 x19_1).f0.f0))) (fun _ hk => hk.2) (.int .i64 ((rd_T27 l0 x19_1).f0.f1))) (fun _ hk => hk.2) (.int .i64 ((rd_T27 l0 x19_1).f1.f0))) (fun _ hk => hk.2) (.int .i64 ((rd_T27 l0 x19_1).f1.f1))) (fun _ hk => hk.2) (.int .i64 ((rd_T27 l0 x19_1).f2))) (fun _ hk => hk.2) (.int .i64 ((rd_T27 l0 x19_1).f3))) (fun _ h_ => h_.1))) hb); have n1_ := Aside0.mk (blk_below (g := gb152) (o := .cells #[.int .i64 ((rd_T27 l0 x19_1).f0.f0), .int .i64 ((rd_T27 l0 x19_1).f0.f1), .int .i64 ((rd_T27 l0 x19_1).f1.f0), .int .i64 ((rd_T27 l0 x19_1).f1.f1), .int .i64 ((rd_T27 l0 x19_1).f2), .int .i64 ((rd_T27 l0 x19_1).f3)] 27 (0, 0)) (by (with_reducible repeat (first | refine blk_drewN ?_ _ | refine blk_drew ?_ | refine blk_alloc ?_ _)); refine blk_put (cs := #[.int .i64 ((rd_T27 l0 x19_1).f0.f0), .int .i64 ((rd_T27 l0 x19_1).f0.f1), .int .i64 ((rd_T27 l0 x19_1).f1.f0), .int .i64 ((rd_T27 l0 x19_1).f1.f1), .int .i64 ((rd_T27 l0 x19_1).f2), .int .i64 0]) ?_ 5 _ rfl; (with_reducible repeat (first | refine blk_drewN ?_ _ | refine blk_drew ?_ | refine blk_alloc ?_ _)); refine blk_put (cs := #[.int .i64 ((rd_T27 l0 x19_1).f0.f0), .int .i64 ((rd_T27 l0 x19_1).f0.f1), .int .i64 ((rd_T27 l0 x19_1).f1.f0), .int .i64 ((rd_T27 l0 x19_1).f1.f1), .int .i64 0, .int .i64 0]) ?_ 4 _ rfl; (with_reducible repeat (first | refine blk_drewN ?_ _ | refine blk_drew ?_ | refine blk_alloc ?_ _)); refine blk_put (cs := #[.int .i64 ((rd_T27 l0 x19_1).f0.f0), .int .i64 ((rd_T27 l0 x19_1).f0.f1), .int .i64 ((rd_T27 l0 x19_1).f1.f0), .int .i64 0, .int .i64 0, .int .i64 0]) ?_ 3 _ rfl; (with_reducible repeat (first | refine blk_drewN ?_ _ | refine blk_drew ?_ | refine blk_alloc ?_ _)); refine blk_put (cs := #[.int .i64 ((rd_T27 l0 x19_1).f0.f0), .int .i64 ((rd_T27 l0 x19_1).f0.f1), .int .i64 0, .int .i64 0, .int .i64 0, .int .i64 0]) ?_ 2 _ rfl; (with_reducible repeat (first | refine blk_drewN ?_ _ | refine blk_drew ?_ | refine blk_alloc ?_ _)); refine blk_put (cs := #[.int .i64 ((rd_T27 l0 x19_1).f0.f0), .int .i64 0, .int .i64 0, .int .i64 0, .int .i64 0, .int .i64 0]) ?_ 1 _ rfl; (with_reducible repeat (first | refine blk_drewN ?_ _ | refine blk_drew ?_ | refine blk_alloc ?_ _)); refine blk_put (cs := #[.int .i64 0, .int .i64 0, .int .i64 0, .int .i64 0, .int .i64 0, .int .i64 0]) ?_ 0 _ rfl; (with_reducible repeat (first | refine blk_drewN ?_ _ | refine blk_drew ?_ | refine blk_alloc ?_ _)); exact BK152.out) hb); have n2_ := Aside0.mk (below_step (by repeat (first | (with_reducible first | exact HB.out | apply below_alloc | apply pw_below_drewN | apply below_drew1 | refine below_set ?_ GE152.out) | exact HB.out)) hb); clear HO_7; clear BK152; clear HB; have HO_7 := n0_; have BK152 := n1_; have HB := n2_; clear n0_ n1_ n2_; (try clear hb); (try clear hb2); (try clear hk); (try clear hi)) | ((with_reducible refine gate_dst (N := 10) rfl ?_); refine box_event ?hg (N := 10) ?hd (cs := #[.int .i64 0, .int .i64 0]) (t := 25) ?hr ?_; (case hd => rfl); (case hg => rfl); (case hr => first | (go_simp; done) | (go_simp; rfl)); intro gb159 hg w12 hbox hb; have n0_ := Aside0.mk (Kd.R_below (by (with_reducible repeat (first | apply Kd.R_alloc | apply Kd.R_drewN | apply Kd.R_drew)); exact HO_7.out) hb); have n1_ := Aside0.mk (blk_below (g := gb152) (o := .cells #[.int .i64 ((rd_T27 l0 x19_1).f0.f0), .int .i64 ((rd_T27 l0 x19_1).f0.f1), .int .i64 ((rd_T27 l0 x19_1).f1.f0), .int .i64 ((rd_T27 l0 x19_1).f1.f1), .int .i64 ((rd_T27 l0 x19_1).f2), .int .i64 ((rd_T27 l0 x19_1).f3)] 27 (0, 0)) (by (with_reducible repeat (first | refine blk_drewN ?_ _ | refine blk_drew ?_ | refine blk_alloc ?_ _)); exact BK152.out) hb); have n2_ := Aside0.mk (below_step (by repeat (first | (with_reducible first | exact HB.out | apply below_alloc | apply pw_below_drewN | apply below_drew1 | refine below_set ?_ GE152.out) | exact HB.out)) hb); have n3_ := Aside0.mk (hbox); have n4_ := Aside0.mk ((by rw [hg]; exact (below_size (by repeat (first | (with_reducible first | exact HB.out | apply below_alloc | apply pw_below_drewN | apply below_drew1 | refine below_set ?_ GE152.out) | exact HB.out))) : w.heap.size ≤ gb159)); have n5_ := Aside0.mk ((by rw [hg]; exact (below_size (by repeat (first | (with_reducible first | exact HB.out | apply below_alloc | apply pw_below_drewN | apply below_drew1 | refine below_set ?_ GE152.out) | exact HB.out))) : w.heap.size ≤ gb159)); have n6_ := Aside0.mk ((by rw [hg]; exact Nat.ne_of_lt (blk_lt (g := gb152) (o := .cells #[.int .i64 ((rd_T27 l0 x19_1).f0.f0), .int .i64 ((rd_T27 l0 x19_1).f0.f1), .int .i64 ((rd_T27 l0 x19_1).f1.f0), .int .i64 ((rd_T27 l0 x19_1).f1.f1), .int .i64 ((rd_T27 l0 x19_1).f2), .int .i64 ((rd_T27 l0 x19_1).f3)] 27 (0, 0)) (by (with_reducible repeat (first | refine blk_drewN ?_ _ | refine blk_drew ?_ | refine blk_alloc ?_ _)); exact BK152.out)) : gb152 ≠ gb159)); have n7_ := Aside0.mk ((by rw [hg]; exact Nat.ne_of_gt (blk_lt (g := gb152) (o := .cells #[.int .i64 ((rd_T27 l0 x19_1).f0.f0), .int .i64 ((rd_T27 l0 x19_1).f0.f1), .int .i64 ((rd_T27 l0 x19_1).f1.f0), .int .i64 ((rd_T27 l0 x19_1).f1.f1), .int .i64 ((rd_T27 l0 x19_1).f2), .int .i64 ((rd_T27 l0 x19_1).f3)] 27 (0, 0)) (by (with_reducible repeat (first | refine blk_drewN ?_ _ | refine blk_drew ?_ | refine blk_alloc ?_ _)); exact BK152.out)) : gb159 ≠ gb152)); clear HO_7; clear BK152; clear HB; have HO_7 := n0_; have BK152 := n1_; have HB := n2_; have BK159 := n3_; have GW159 := n4_; have GE159 := n5_; have NB152_159 := n6_; have NB159_152 := n7_; clear n0_ n1_ n2_ n3_ n4_ n5_ n6_ n7_; clear hb hbox hg) | ((with_reducible refine gate_dst (N := 11) rfl ?_); refine box_event ?hg (N := 11) ?hd (cs := #[.int .i64 0, .int .i64 0]) (t := 25) ?hr ?_; (case hd => rfl); (case hg => rfl); (case hr => first | (go_simp; done) | (go_simp; rfl)); intro gb160 hg w13 hbox hb; have n0_ := Aside0.mk (Kd.R_below (by (with_reducible repeat (first | apply Kd.R_alloc | apply Kd.R_drewN | apply Kd.R_drew)); exact HO_7.out) hb); have n1_ := Aside0.mk (blk_below (g := gb152) (o := .cells #[.int .i64 ((rd_T27 l0 x19_1).f0.f0), .int .i64 ((rd_T27 l0 x19_1).f0.f1), .int .i64 ((rd_T27 l0 x19_1).f1.f0), .int .i64 ((rd_T27 l0 x19_1).f1.f1), .int .i64 ((rd_T27 l0 x19_1).f2), .int .i64 ((rd_T27 l0 x19_1).f3)] 27 (0, 0)) (by (with_reducible repeat (first | refine blk_drewN ?_ _ | refine blk_drew ?_ | refine blk_alloc ?_ _)); exact BK152.out) hb); have n2_ := Aside0.mk (blk_below (g := gb159) (o := .cells #[.int .i64 0, .int .i64 0] 25 (0, 0)) (by (with_reducible repeat (first | refine blk_drewN ?_ _ | refine blk_drew ?_ | refine blk_alloc ?_ _)); exact BK159.out) hb); have n3_ := Aside0.mk (below_step (by repeat (first | (with_reducible first | exact HB.out | apply below_alloc | apply pw_below_drewN | apply below_drew1 | refine below_set ?_ GE152.out | refine below_set ?_ GE159.out) | exact HB.out)) hb); have n4_ := Aside0.mk (hbox); have n5_ := Aside0.mk ((by rw [hg]; exact (below_size (by repeat (first | (with_reducible first | exact HB.out | apply below_alloc | apply pw_below_drewN | apply below_drew1 | refine below_set ?_ GE152.out | refine below_set ?_ GE159.out) | exact HB.out))) : w.heap.size ≤ gb160)); have n6_ := Aside0.mk ((by rw [hg]; exact (below_size (by repeat (first | (with_reducible first | exact HB.out | apply below_alloc | apply pw_below_drewN | apply below_drew1 | refine below_set ?_ GE152.out | refine below_set ?_ GE159.out) | exact HB.out))) : w.heap.size ≤ gb160)); have n7_ := Aside0.mk ((by rw [hg]; exact Nat.ne_of_lt (blk_lt (g := gb152) (o := .cells #[.int .i64 ((rd_T27 l0 x19_1).f0.f0), .int .i64 ((rd_T27 l0 x19_1).f0.f1), .int .i64 ((rd_T27 l0 x19_1).f1.f0), .int .i64 ((rd_T27 l0 x19_1).f1.f1), .int .i64 ((rd_T27 l0 x19_1).f2), .int .i64 ((rd_T27 l0 x19_1).f3)] 27 (0, 0)) (by (with_reducible repeat (first | refine blk_drewN ?_ _ | refine blk_drew ?_ | refine blk_alloc ?_ _)); exact BK152.out)) : gb152 ≠ gb160)); have n8_ := Aside0.mk ((by rw [hg]; exact Nat.ne_of_gt (blk_lt (g := gb152) (o := .cells #[.int .i64 ((rd_T27 l0 x19_1).f0.f0), .int .i64 ((rd_T27 l0 x19_1).f0.f1), .int .i64 ((rd_T27 l0 x19_1).f1.f0), .int .i64 ((rd_T27 l0 x19_1).f1.f1), .int .i64 ((rd_T27 l0 x19_1).f2), .int .i64 ((rd_T27 l0 x19_1).f3)] 27 (0, 0)) (by (with_reducible repeat (first | refine blk_drewN ?_ _ | refine blk_drew ?_ | refine blk_alloc ?_ _)); exact BK152.out)) : gb160 ≠ gb152)); have n9_ := Aside0.mk ((by rw [hg]; exact Nat.ne_of_lt (blk_lt (g := gb159) (o := .cells #[.int .i64 0, .int .i64 0] 25 (0, 0)) (by (with_reducible repeat (first | refine blk_drewN ?_ _ | refine blk_drew ?_ | refine blk_alloc ?_ _)); exact BK159.out)) : gb159 ≠ gb160)); have n10_ := Aside0.mk ((by rw [hg]; exact Nat.ne_of_gt (blk_lt (g := gb159) (o := .cells #[.int .i64 0, .int .i64 0] 25 (0, 0)) (by (with_reducible repeat (first | refine blk_drewN ?_ _ | refine blk_drew ?_ | refine blk_alloc ?_ _)); exact BK159.out)) : gb160 ≠ gb159)); clear HO_7; clear BK152; clear BK159; clear HB; have HO_7 := n0_; have BK152 := n1_; have BK159 := n2_; have HB := n3_; have BK160 := n4_; have GW160 := n5_; have GE160 := n6_; have NB152_160 := n7_; have NB160_152 := n8_; have NB159_160 := n9_; have NB160_159 := n10_; clear n0_ n1_ n2_ n3_ n4_ n5_ n6_ n7_ n8_ n9_ n10_; clear hb hbox hg; have hnb14 := NB159_152.out; have hnc14 := NB152_159.out; have hnb15 := NB159_160.out; have hnc15 := NB160_159.out; have hcz16_0 : w13.cell? ⟨gb159, 0, none⟩ = some (.int .i64 0) := (blk_cell BK159.out 0).trans rfl; have hcz16_1 : w13.cell? ⟨gb159, 1, none⟩ = some (.int .i64 0) := (blk_cell BK159.out 1).trans rfl; have hfz16_0 := blk_frozen BK159.out 0; have hfz16_1 := blk_frozen BK159.out 1; have hnb17 := NB160_152.out; have hnc17 := NB152_160.out; have hcz18_0 : w13.cell? ⟨gb160, 0, none⟩ = some (.int .i64 0) := (blk_cell BK160.out 0).trans rfl; have hcz18_1 : w13.cell? ⟨gb160, 1, none⟩ = some (.int .i64 0) := (blk_cell BK160.out 1).trans rfl; have hfz18_0 := blk_frozen BK160.out 0; have hfz18_1 := blk_frozen BK160.out 1))
            (try simp only [Act.put, List.setIfInBounds_toArray, List.set_cons_zero, List.set_cons_succ])
            go_cut [39] (fun v39 wc => ∃ (kq : Nat) (x39_7 : Bool), v39 = .bool x39_7 ∧ Aside0 (sweep_marks.j1 kq a1 a2 x7_1 t157 t158 l0 (l0.length : Int) x19_1 x39_7 t153 t154 t155 t156 = some r) ∧ Aside0 (kq ≤ k1) ∧ Aside0 (Kd.R k61 61 wc w.heap.size (fun _ => True) u7 x7_1) ∧ Aside0 (wc.heap[gb152]? = some (.cells #[.int .i64 ((rd_T27 l0 x19_1).f0.f0), .int .i64 ((rd_T27 l0 x19_1).f0.f1), .int .i64 ((rd_T27 l0 x19_1).f1.f0), .int .i64 ((rd_T27 l0 x19_1).f1.f1), .int .i64 ((rd_T27 l0 x19_1).f2), .int .i64 ((rd_T27 l0 x19_1).f3)] 27 (0, 0))) ∧ Aside0 (wc.heap[gb159]? = some (.cells #[.int .i64 t153, .int .i64 t154] 25 (0, 0))) ∧ Aside0 (wc.heap[gb160]? = some (.cells #[.int .i64 t155, .int .i64 t156] 25 (0, 0))) ∧ Aside0 (Below w.heap.size w wc))
            case first =>
              have H := HC8.out
              clear HC8
              by_cases c19 : a1 < t154
              · rw [if_pos c19] at H
                have c19b0 : decide (a1 < t154) = true := decide_eq_true c19
                clear c19
                (first | rw [c19b0] | (simp only [i64_w, i32_w]; rw [c19b0]) | skip)
                have H' := Aside0.mk H
                clear H
                have hnb20 := NB159_152.out
                have hnc20 := NB152_159.out
                have hnb21 := NB159_160.out
                have hnc21 := NB160_159.out
                have hcz22_0 : w13.cell? ⟨gb159, 0, none⟩ = some (.int .i64 0) := (blk_cell BK159.out 0).trans rfl
                have hcz22_1 : w13.cell? ⟨gb159, 1, none⟩ = some (.int .i64 0) := (blk_cell BK159.out 1).trans rfl
                have hfz22_0 := blk_frozen BK159.out 0
                have hfz22_1 := blk_frozen BK159.out 1
                go_wp2
                go_meet
                case rel => exact ⟨_, (true), (by first | rfl | (simp; done) | (simp [*]; done)), H', ⟨by have := HK1.out; first | omega | exact Nat.le_refl _⟩, ⟨by (with_reducible repeat (first | apply Kd.R_alloc | apply Kd.R_drewN | apply Kd.R_drew)); exact Kd.R_mono (Kd.R_far (p := ⟨gb160, 1, none⟩) (Kd.R_far (p := ⟨gb160, 0, none⟩) (Kd.R_far (p := ⟨gb159, 1, none⟩) (Kd.R_far (p := ⟨gb159, 0, none⟩) (Kd.R_types (Kd.R_types HO_7.out BK159.out (by decide)) BK160.out (by decide)) (fun _ hk => hk.1.2) (.int .i64 t153)) (fun _ hk => hk.1.2) (.int .i64 t154)) (fun _ hk => hk.2) (.int .i64 t155)) (fun _ hk => hk.2) (.int .i64 t156)) (fun _ hk => trivial)⟩, ⟨by (with_reducible repeat (first | refine blk_drewN ?_ _ | refine blk_drew ?_ | refine blk_alloc ?_ _)); refine blk_far ?_ NB152_160.out _; (with_reducible repeat (first | refine blk_drewN ?_ _ | refine blk_drew ?_ | refine blk_alloc ?_ _)); refine blk_far ?_ NB152_160.out _; (with_reducible repeat (first | refine blk_drewN ?_ _ | refine blk_drew ?_ | refine blk_alloc ?_ _)); refine blk_far ?_ NB152_159.out _; (with_reducible repeat (first | refine blk_drewN ?_ _ | refine blk_drew ?_ | refine blk_alloc ?_ _)); refine blk_far ?_ NB152_159.out _; (with_reducible repeat (first | refine blk_drewN ?_ _ | refine blk_drew ?_ | refine blk_alloc ?_ _)); exact BK152.out⟩, ⟨by (with_reducible repeat (first | refine blk_drewN ?_ _ | refine blk_drew ?_ | refine blk_alloc ?_ _)); refine blk_far ?_ NB159_160.out _; (with_reducible repeat (first | refine blk_drewN ?_ _ | refine blk_drew ?_ | refine blk_alloc ?_ _)); refine blk_far ?_ NB159_160.out _; (with_reducible repeat (first | refine blk_drewN ?_ _ | refine blk_drew ?_ | refine blk_alloc ?_ _)); refine blk_put (cs := #[.int .i64 t153, .int .i64 0]) ?_ 1 _ rfl; (with_reducible repeat (first | refine blk_drewN ?_ _ | refine blk_drew ?_ | refine blk_alloc ?_ _)); refine blk_put (cs := #[.int .i64 0, .int .i64 0]) ?_ 0 _ rfl; (with_reducible repeat (first | refine blk_drewN ?_ _ | refine blk_drew ?_ | refine blk_alloc ?_ _)); exact BK159.out⟩, ⟨by (with_reducible repeat (first | refine blk_drewN ?_ _ | refine blk_drew ?_ | refine blk_alloc ?_ _)); refine blk_put (cs := #[.int .i64 t155, .int .i64 0]) ?_ 1 _ rfl; (with_reducible repeat (first | refine blk_drewN ?_ _ | refine blk_drew ?_ | refine blk_alloc ?_ _)); refine blk_put (cs := #[.int .i64 0, .int .i64 0]) ?_ 0 _ rfl; (with_reducible repeat (first | refine blk_drewN ?_ _ | refine blk_drew ?_ | refine blk_alloc ?_ _)); refine blk_far ?_ NB160_159.out _; (with_reducible repeat (first | refine blk_drewN ?_ _ | refine blk_drew ?_ | refine blk_alloc ?_ _)); refine blk_far ?_ NB160_159.out _; (with_reducible repeat (first | refine blk_drewN ?_ _ | refine blk_drew ?_ | refine blk_alloc ?_ _)); exact BK160.out⟩, ⟨by repeat (first | (with_reducible first | exact HB.out | apply below_alloc | apply pw_below_drewN | apply below_drew1 | refine below_set ?_ GE152.out | refine below_set ?_ GE159.out | refine below_set ?_ GE160.out) | exact HB.out)⟩⟩
              · rw [if_neg c19] at H
                have c19b0 : decide (a1 < t154) = false := decide_eq_false c19
                clear c19
                (first | rw [c19b0] | (simp only [i64_w, i32_w]; rw [c19b0]) | skip)
                have H' := Aside0.mk H
                clear H
                have hnb23 := NB159_152.out
                have hnc23 := NB152_159.out
                have hnb24 := NB159_160.out
                have hnc24 := NB160_159.out
                have hcz25_0 : w13.cell? ⟨gb159, 0, none⟩ = some (.int .i64 0) := (blk_cell BK159.out 0).trans rfl
                have hcz25_1 : w13.cell? ⟨gb159, 1, none⟩ = some (.int .i64 0) := (blk_cell BK159.out 1).trans rfl
                have hfz25_0 := blk_frozen BK159.out 0
                have hfz25_1 := blk_frozen BK159.out 1
                have hnb26 := NB160_152.out
                have hnc26 := NB152_160.out
                have hcz27_0 : w13.cell? ⟨gb160, 0, none⟩ = some (.int .i64 0) := (blk_cell BK160.out 0).trans rfl
                have hcz27_1 : w13.cell? ⟨gb160, 1, none⟩ = some (.int .i64 0) := (blk_cell BK160.out 1).trans rfl
                have hfz27_0 := blk_frozen BK160.out 0
                have hfz27_1 := blk_frozen BK160.out 1
                go_wp2
                go_meet
                case rel => exact ⟨_, (decide (a1 > t156)), (by first | rfl | (simp; done) | (simp [*]; done)), H', ⟨by have := HK1.out; first | omega | exact Nat.le_refl _⟩, ⟨by (with_reducible repeat (first | apply Kd.R_alloc | apply Kd.R_drewN | apply Kd.R_drew)); exact Kd.R_mono (Kd.R_far (p := ⟨gb160, 1, none⟩) (Kd.R_far (p := ⟨gb160, 0, none⟩) (Kd.R_far (p := ⟨gb159, 1, none⟩) (Kd.R_far (p := ⟨gb159, 0, none⟩) (Kd.R_types (Kd.R_types HO_7.out BK159.out (by decide)) BK160.out (by decide)) (fun _ hk => hk.1.2) (.int .i64 t153)) (fun _ hk => hk.1.2) (.int .i64 t154)) (fun _ hk => hk.2) (.int .i64 t155)) (fun _ hk => hk.2) (.int .i64 t156)) (fun _ hk => trivial)⟩, ⟨by (with_reducible repeat (first | refine blk_drewN ?_ _ | refine blk_drew ?_ | refine blk_alloc ?_ _)); refine blk_far ?_ NB152_160.out _; (with_reducible repeat (first | refine blk_drewN ?_ _ | refine blk_drew ?_ | refine blk_alloc ?_ _)); refine blk_far ?_ NB152_160.out _; (with_reducible repeat (first | refine blk_drewN ?_ _ | refine blk_drew ?_ | refine blk_alloc ?_ _)); refine blk_far ?_ NB152_159.out _; (with_reducible repeat (first | refine blk_drewN ?_ _ | refine blk_drew ?_ | refine blk_alloc ?_ _)); refine blk_far ?_ NB152_159.out _; (with_reducible repeat (first | refine blk_drewN ?_ _ | refine blk_drew ?_ | refine blk_alloc ?_ _)); exact BK152.out⟩, ⟨by (with_reducible repeat (first | refine blk_drewN ?_ _ | refine blk_drew ?_ | refine blk_alloc ?_ _)); refine blk_far ?_ NB159_160.out _; (with_reducible repeat (first | refine blk_drewN ?_ _ | refine blk_drew ?_ | refine blk_alloc ?_ _)); refine blk_far ?_ NB159_160.out _; (with_reducible repeat (first | refine blk_drewN ?_ _ | refine blk_drew ?_ | refine blk_alloc ?_ _)); refine blk_put (cs := #[.int .i64 t153, .int .i64 0]) ?_ 1 _ rfl; (with_reducible repeat (first | refine blk_drewN ?_ _ | refine blk_drew ?_ | refine blk_alloc ?_ _)); refine blk_put (cs := #[.int .i64 0, .int .i64 0]) ?_ 0 _ rfl; (with_reducible repeat (first | refine blk_drewN ?_ _ | refine blk_drew ?_ | refine blk_alloc ?_ _)); exact BK159.out⟩, ⟨by (with_reducible repeat (first | refine blk_drewN ?_ _ | refine blk_drew ?_ | refine blk_alloc ?_ _)); refine blk_put (cs := #[.int .i64 t155, .int .i64 0]) ?_ 1 _ rfl; (with_reducible repeat (first | refine blk_drewN ?_ _ | refine blk_drew ?_ | refine blk_alloc ?_ _)); refine blk_put (cs := #[.int .i64 0, .int .i64 0]) ?_ 0 _ rfl; (with_reducible repeat (first | refine blk_drewN ?_ _ | refine blk_drew ?_ | refine blk_alloc ?_ _)); refine blk_far ?_ NB160_159.out _; (with_reducible repeat (first | refine blk_drewN ?_ _ | refine blk_drew ?_ | refine blk_alloc ?_ _)); refine blk_far ?_ NB160_159.out _; (with_reducible repeat (first | refine blk_drewN ?_ _ | refine blk_drew ?_ | refine blk_alloc ?_ _)); exact BK160.out⟩, ⟨by repeat (first | (with_reducible first | exact HB.out | apply below_alloc | apply pw_below_drewN | apply below_drew1 | refine below_set ?_ GE152.out | refine below_set ?_ GE159.out | refine below_set ?_ GE160.out) | exact HB.out)⟩⟩
            case rest =>
              clear HC8
              try clear c1
              try clear p1
              try clear q1
              try clear hx1
              try clear c2
              try clear p2
              try clear c4
              try clear c4b0
              try clear c5
              try clear c5b0
              try clear c6
              try clear c6b0
              try clear c14
              try clear c15
              try clear p15
              try clear q15
              try clear hx15
              try clear c17
              try clear c19
              try clear c19b0
              try clear c20
              try clear c21
              try clear c23
              try clear c24
              try clear c25
              try clear c26
              try clear hcz10_0
              try clear hcz10_1
              try clear hcz10_2
              try clear hcz10_3
              try clear hcz10_4
              try clear hcz10_5
              try clear hcz16_0
              try clear hcz16_1
              try clear hcz18_0
              try clear hcz18_1
              try clear hcz22_0
              try clear hcz22_1
              try clear hcz25_0
              try clear hcz25_1
              try clear hcz27_0
              try clear hcz27_1
              try clear hfz10_0
              try clear hfz10_1
              try clear hfz10_2
              try clear hfz10_3
              try clear hfz10_4
              try clear hfz10_5
              try clear hfz16_0
              try clear hfz16_1
              try clear hfz18_0
              try clear hfz18_1
              try clear hfz22_0
              try clear hfz22_1
              try clear hfz25_0
              try clear hfz25_1
              try clear hfz27_0
              try clear hfz27_1
              try clear hx151_0
              try clear hx151_1
              try clear hx151_2
              try clear hx151_3
              try clear hx151_4
              try clear hx151_5
              try clear p151
              try clear p2
              try clear q151
              obtain ⟨kq, x39_7, rfl, HA, HJ7, HO_7, BK152, BK159, BK160, HB⟩ := hcut
              cases kq with
              | zero => exact absurd HA.out (by simp [sweep_marks.j1])
              | succ kj7 =>
                have H := HA.out
                clear HA
                simp only [sweep_marks.j1] at H
                by_cases c28 : x39_7 = true
                · subst c28
                  have H1 : (sweep_marks.l0 kj7 a1 a2 x7_1 l0 (l0.length : Int) (wrap64 (x19_1 + 1))) = some r := by rw [if_pos rfl] at H; exact H
                  clear H
                  have H := H1
                  clear H1
                  have H' := Aside0.mk H
                  clear H
                  go_wp2
                  go_roundg kj7
                  case measure => have := HK1.out; have := HJ7.out; omega
                  case rel => exact ⟨(x7_1), (wrap64 (x19_1 + 1)), (by first | rfl | (simp; done) | (simp [*]; done)), H', ⟨by have := HK1.out; have := HJ7.out; omega⟩, ⟨by (with_reducible repeat (first | apply Kd.R_alloc | apply Kd.R_drewN | apply Kd.R_drew)); exact HO_7.out⟩, ⟨by repeat (first | (with_reducible first | exact HB.out | apply below_alloc | apply pw_below_drewN | apply below_drew1 | refine below_set ?_ GE152.out | refine below_set ?_ GE159.out | refine below_set ?_ GE160.out) | exact HB.out)⟩⟩
                · replace c28 := Bool.eq_false_iff.mpr c28
                  subst c28
                  have H1 : ((fix_Floor.f kj7 (wrap64 ((wrap64 ((wrap64 ((wrap64 ((wrap64 (t155 - t153)) * (wrap64 (a1 - t154)))) + (wrap64 ((wrap64 (t153 - 7)) * (wrap64 (t156 - t154)))))) + (wrap64 (16 * (wrap64 (t156 - t154)))))) - 1)) (wrap64 (16 * (wrap64 (t156 - t154))))).bind fun bt161 => (if bt161.1 < a2 then (if x7_1.length < 5864062014805 then (sweep_marks.l0 kj7 a1 a2 (x7_1 ++ [(⟨mx bt161.1 0, t157, t158⟩ : S61)]) l0 (l0.length : Int) (wrap64 (x19_1 + 1))) else (none)) else (sweep_marks.l0 kj7 a1 a2 x7_1 l0 (l0.length : Int) (wrap64 (x19_1 + 1))))) = some r := by rw [if_neg (show ¬ (false = true) by decide)] at H; exact H
                  clear H
                  have H := H1
                  clear H1
                  replace H := Option.bind_eq_some_iff.mp H
                  obtain ⟨⟨t161, t162⟩, A290, H⟩ := H
                  replace H : (if t161 < a2 then (if x7_1.length < 5864062014805 then (sweep_marks.l0 kj7 a1 a2 (x7_1 ++ [(⟨mx t161 0, t157, t158⟩ : S61)]) l0 (l0.length : Int) (wrap64 (x19_1 + 1))) else (none)) else (sweep_marks.l0 kj7 a1 a2 x7_1 l0 (l0.length : Int) (wrap64 (x19_1 + 1)))) = some r := H
                  have A29 := Aside0.mk A290
                  clear A290
                  by_cases c30 : t161 < a2
                  · rw [if_pos c30] at H
                    have c30b0 : decide (t161 < a2) = true := decide_eq_true c30
                    clear c30
                    obtain ⟨ji31, hji31⟩ : ∃ j_ : Int, (mx t161 0) = j_ := ⟨_, rfl⟩
                    replace H : (if x7_1.length < 5864062014805 then (sweep_marks.l0 kj7 a1 a2 (x7_1 ++ [(⟨ji31, t157, t158⟩ : S61)]) l0 (l0.length : Int) (wrap64 (x19_1 + 1))) else (none)) = some r := by first | (rw [hji31] at H; exact H) | (simp only [hji31] at H ⊢; exact H)
                    (try rw [hji31] at A29)
                    (try (have hji31l : 0 ≤ ji31 := by (rw [← hji31]; unfold mx; (repeat' split) <;> omega)))
                    (try (have hji31m : 0 ≤ ji31 := by omega))
                    have hji31_ : (if t161 < 0 then 0 else t161) = ji31 := hji31
                    by_cases c32 : x7_1.length < 5864062014805
                    · rw [if_pos c32] at H
                      have LMc32 := Aside0.mk c32
                      clear c32
                      obtain ⟨y163, hy163⟩ : ∃ y_ : List (S61), y_ = (x7_1 ++ [(⟨ji31, t157, t158⟩ : S61)]) := ⟨_, rfl⟩
                      replace H : (sweep_marks.l0 kj7 a1 a2 y163 l0 (l0.length : Int) (wrap64 (x19_1 + 1))) = some r := by first | (rw [hy163]; with_reducible exact H) | (have H2_ := (Option.bind_some _ _).symm.trans H; rw [hy163]; with_reducible exact H2_) | (have H2_ := (Option.bind_some _ _).symm.trans H; with_reducible exact H2_) | with_reducible exact H | (rw [hy163]; exact H) | exact H
                      have Ny163 := Aside0.mk hy163
                      clear hy163
                      have H' := Aside0.mk H
                      clear H
                      have hnb33 := NB160_152.out
                      have hnc33 := NB152_160.out
                      have hnb34 := NB160_159.out
                      have hnc34 := NB159_160.out
                      have hcz35_0 : wc.cell? ⟨gb160, 0, none⟩ = some (.int .i64 t155) := (blk_cell BK160.out 0).trans rfl
                      have hcz35_1 : wc.cell? ⟨gb160, 1, none⟩ = some (.int .i64 t156) := (blk_cell BK160.out 1).trans rfl
                      have hfz35_0 := blk_frozen BK160.out 0
                      have hfz35_1 := blk_frozen BK160.out 1
                      have hnb36 := NB159_152.out
                      have hnc36 := NB152_159.out
                      have hcz37_0 : wc.cell? ⟨gb159, 0, none⟩ = some (.int .i64 t153) := (blk_cell BK159.out 0).trans rfl
                      have hcz37_1 : wc.cell? ⟨gb159, 1, none⟩ = some (.int .i64 t154) := (blk_cell BK159.out 1).trans rfl
                      have hfz37_0 := blk_frozen BK159.out 0
                      have hfz37_1 := blk_frozen BK159.out 1
                      go_wp2_with (first | ((with_reducible refine gate_callee (f := 31) rfl ?_); refine goesL_ (some 68) rfl rfl Try.func31 (by kernel_rfl) rfl #[.int .i64 (wrap64 ((wrap64 ((wrap64 ((wrap64 ((wrap64 (t155 - t153)) * (wrap64 (a1 - t154)))) + (wrap64 ((wrap64 (t153 - 7)) * (wrap64 (t156 - t154)))))) + (wrap64 (16 * (wrap64 (t156 - t154)))))) - 1)), .int .i64 (wrap64 (16 * (wrap64 (t156 - t154))))] rfl (by (try simp only [List.map_toArray, List.map_cons, List.map_nil]); first | done | rfl | (simp only [List.length_drop, List.length_take]; rfl)) ?_; (with_reducible refine (fix_Floor.calls kj7 (wrap64 ((wrap64 ((wrap64 ((wrap64 ((wrap64 (t155 - t153)) * (wrap64 (a1 - t154)))) + (wrap64 ((wrap64 (t153 - 7)) * (wrap64 (t156 - t154)))))) + (wrap64 (16 * (wrap64 (t156 - t154)))))) - 1)) (wrap64 (16 * (wrap64 (t156 - t154)))) t161 t162 _ A29.out).mono ?_); rintro e w38 ⟨rfl, hb⟩; refine ⟨_, rfl, ?_⟩; have n0_ := Aside0.mk (Kd.R_below (by (with_reducible repeat (first | apply Kd.R_alloc | apply Kd.R_drewN | apply Kd.R_drew)); exact HO_7.out) hb); have n1_ := Aside0.mk (blk_below (g := gb152) (o := .cells #[.int .i64 ((rd_T27 l0 x19_1).f0.f0), .int .i64 ((rd_T27 l0 x19_1).f0.f1), .int .i64 ((rd_T27 l0 x19_1).f1.f0), .int .i64 ((rd_T27 l0 x19_1).f1.f1), .int .i64 ((rd_T27 l0 x19_1).f2), .int .i64 ((rd_T27 l0 x19_1).f3)] 27 (0, 0)) (by (with_reducible repeat (first | refine blk_drewN ?_ _ | refine blk_drew ?_ | refine blk_alloc ?_ _)); exact BK152.out) hb); have n2_ := Aside0.mk (blk_below (g := gb159) (o := .cells #[.int .i64 t153, .int .i64 t154] 25 (0, 0)) (by (with_reducible repeat (first | refine blk_drewN ?_ _ | refine blk_drew ?_ | refine blk_alloc ?_ _)); exact BK159.out) hb); have n3_ := Aside0.mk (blk_below (g := gb160) (o := .cells #[.int .i64 t155, .int .i64 t156] 25 (0, 0)) (by (with_reducible repeat (first | refine blk_drewN ?_ _ | refine blk_drew ?_ | refine blk_alloc ?_ _)); exact BK160.out) hb); have n4_ := Aside0.mk (below_step (by repeat (first | (with_reducible first | exact HB.out | apply below_alloc | apply pw_below_drewN | apply below_drew1 | refine below_set ?_ GE152.out | refine below_set ?_ GE159.out | refine below_set ?_ GE160.out) | exact HB.out)) hb); clear HO_7; clear BK152; clear BK159; clear BK160; clear HB; have HO_7 := n0_; have BK152 := n1_; have BK159 := n2_; have BK160 := n3_; have HB := n4_; clear n0_ n1_ n2_ n3_ n4_; (try clear hb); (try clear hb2); (try clear hk); (try clear hi)) | ((with_reducible refine gate_builtin (b := .append) (xs := #[.tmp 74, .tmp 80]) rfl ?_); at_builtin; refine Kd.R_append k61 (w0 := w) w.heap.size rfl (.tmp 74) (.tmp 80) 57 61 (.agg #[(.int .i64 0), (.int .i64 0), (.int .i64 0)]) 24 rfl Try.underlying57 info61 rfl (by decide) (by omega) u7 x7_1 (⟨ji31, t157, t158⟩ : S61) [.int .i64 ji31, .int .i64 t157, .int .i64 t158] (fun _ => True) (fun _ => False) rfl rfl ?aP (fun _ hk => hk.elim) ?aF ?aO ?aB ?aS ?aL ?_; (case aP => exact k61_mkM _ _ _ (⟨ji31, t157, t158⟩ : S61)); (case aB => exact (by repeat (first | (with_reducible first | exact HB.out | apply below_alloc | apply pw_below_drewN | apply below_drew1 | refine below_set ?_ GE152.out | refine below_set ?_ GE159.out | refine below_set ?_ GE160.out) | exact HB.out))); (case aF => exact (fun _ _ => trivial)); (case aO => exact (by (with_reducible repeat (first | apply Kd.R_alloc | apply Kd.R_drewN | apply Kd.R_drew)); exact HO_7.out)); (case aS => exact (below_size (by repeat (first | (with_reducible first | exact HB.out | apply below_alloc | apply pw_below_drewN | apply below_drew1 | refine below_set ?_ GE152.out | refine below_set ?_ GE159.out | refine below_set ?_ GE160.out) | exact HB.out)))); (case aL => have := LMc32.out; omega); intro v164 w39 ho hb hg hat; rw [← Ny163.out] at ho; have n0_ := Aside0.mk (blk_grown (g := gb152) (o := .cells #[.int .i64 ((rd_T27 l0 x19_1).f0.f0), .int .i64 ((rd_T27 l0 x19_1).f0.f1), .int .i64 ((rd_T27 l0 x19_1).f1.f0), .int .i64 ((rd_T27 l0 x19_1).f1.f1), .int .i64 ((rd_T27 l0 x19_1).f2), .int .i64 ((rd_T27 l0 x19_1).f3)] 27 (0, 0)) (by (with_reducible repeat (first | refine blk_drewN ?_ _ | refine blk_drew ?_ | refine blk_alloc ?_ _)); exact BK152.out) hg (Kd.R_ne HO_7.out BK152.out (by decide))); have n1_ := Aside0.mk (blk_grown (g := gb159) (o := .cells #[.int .i64 t153, .int .i64 t154] 25 (0, 0)) (by (with_reducible repeat (first | refine blk_drewN ?_ _ | refine blk_drew ?_ | refine blk_alloc ?_ _)); exact BK159.out) hg (Kd.R_ne HO_7.out BK159.out (by decide))); have n2_ := Aside0.mk (blk_grown (g := gb160) (o := .cells #[.int .i64 t155, .int .i64 t156] 25 (0, 0)) (by (with_reducible repeat (first | refine blk_drewN ?_ _ | refine blk_drew ?_ | refine blk_alloc ?_ _)); exact BK160.out) hg (Kd.R_ne HO_7.out BK160.out (by decide))); have n3_ := Aside0.mk (hb); have n4_ := Aside0.mk (ho); clear BK152; clear BK159; clear BK160; clear HB; clear HO_7; have BK152 := n0_; have BK159 := n1_; have BK160 := n2_; have HB := n3_; have HO165 := n4_; clear n0_ n1_ n2_ n3_ n4_; clear ho hb hg hat))
                      go_roundg kj7
                      case measure => have := HK1.out; have := HJ7.out; omega
                      case rel => exact ⟨(y163), (wrap64 (x19_1 + 1)), (by first | rfl | (simp; done) | (simp [*]; done)), H', ⟨by have := HK1.out; have := HJ7.out; omega⟩, ⟨by (with_reducible repeat (first | apply Kd.R_alloc | apply Kd.R_drewN | apply Kd.R_drew)); exact HO165.out⟩, ⟨by repeat (first | (with_reducible first | exact HB.out | apply below_alloc | apply pw_below_drewN | apply below_drew1 | refine below_set ?_ GE152.out | refine below_set ?_ GE159.out | refine below_set ?_ GE160.out) | exact HB.out)⟩⟩
                    · rw [if_neg c32] at H
                      exact absurd H (by simp)
                  · rw [if_neg c30] at H
                    have c30b0 : decide (t161 < a2) = false := decide_eq_false c30
                    clear c30
                    have H' := Aside0.mk H
                    clear H
                    have hnb40 := NB160_152.out
                    have hnc40 := NB152_160.out
                    have hnb41 := NB160_159.out
                    have hnc41 := NB159_160.out
                    have hcz42_0 : wc.cell? ⟨gb160, 0, none⟩ = some (.int .i64 t155) := (blk_cell BK160.out 0).trans rfl
                    have hcz42_1 : wc.cell? ⟨gb160, 1, none⟩ = some (.int .i64 t156) := (blk_cell BK160.out 1).trans rfl
                    have hfz42_0 := blk_frozen BK160.out 0
                    have hfz42_1 := blk_frozen BK160.out 1
                    have hnb43 := NB159_152.out
                    have hnc43 := NB152_159.out
                    have hcz44_0 : wc.cell? ⟨gb159, 0, none⟩ = some (.int .i64 t153) := (blk_cell BK159.out 0).trans rfl
                    have hcz44_1 : wc.cell? ⟨gb159, 1, none⟩ = some (.int .i64 t154) := (blk_cell BK159.out 1).trans rfl
                    have hfz44_0 := blk_frozen BK159.out 0
                    have hfz44_1 := blk_frozen BK159.out 1
                    go_wp2_with (first | ((with_reducible refine gate_callee (f := 31) rfl ?_); refine goesL_ (some 68) rfl rfl Try.func31 (by kernel_rfl) rfl #[.int .i64 (wrap64 ((wrap64 ((wrap64 ((wrap64 ((wrap64 (t155 - t153)) * (wrap64 (a1 - t154)))) + (wrap64 ((wrap64 (t153 - 7)) * (wrap64 (t156 - t154)))))) + (wrap64 (16 * (wrap64 (t156 - t154)))))) - 1)), .int .i64 (wrap64 (16 * (wrap64 (t156 - t154))))] rfl (by (try simp only [List.map_toArray, List.map_cons, List.map_nil]); first | done | rfl | (simp only [List.length_drop, List.length_take]; rfl)) ?_; (with_reducible refine (fix_Floor.calls kj7 (wrap64 ((wrap64 ((wrap64 ((wrap64 ((wrap64 (t155 - t153)) * (wrap64 (a1 - t154)))) + (wrap64 ((wrap64 (t153 - 7)) * (wrap64 (t156 - t154)))))) + (wrap64 (16 * (wrap64 (t156 - t154)))))) - 1)) (wrap64 (16 * (wrap64 (t156 - t154)))) t161 t162 _ A29.out).mono ?_); rintro e w45 ⟨rfl, hb⟩; refine ⟨_, rfl, ?_⟩; have n0_ := Aside0.mk (Kd.R_below (by (with_reducible repeat (first | apply Kd.R_alloc | apply Kd.R_drewN | apply Kd.R_drew)); exact HO_7.out) hb); have n1_ := Aside0.mk (blk_below (g := gb152) (o := .cells #[.int .i64 ((rd_T27 l0 x19_1).f0.f0), .int .i64 ((rd_T27 l0 x19_1).f0.f1), .int .i64 ((rd_T27 l0 x19_1).f1.f0), .int .i64 ((rd_T27 l0 x19_1).f1.f1), .int .i64 ((rd_T27 l0 x19_1).f2), .int .i64 ((rd_T27 l0 x19_1).f3)] 27 (0, 0)) (by (with_reducible repeat (first | refine blk_drewN ?_ _ | refine blk_drew ?_ | refine blk_alloc ?_ _)); exact BK152.out) hb); have n2_ := Aside0.mk (blk_below (g := gb159) (o := .cells #[.int .i64 t153, .int .i64 t154] 25 (0, 0)) (by (with_reducible repeat (first | refine blk_drewN ?_ _ | refine blk_drew ?_ | refine blk_alloc ?_ _)); exact BK159.out) hb); have n3_ := Aside0.mk (blk_below (g := gb160) (o := .cells #[.int .i64 t155, .int .i64 t156] 25 (0, 0)) (by (with_reducible repeat (first | refine blk_drewN ?_ _ | refine blk_drew ?_ | refine blk_alloc ?_ _)); exact BK160.out) hb); have n4_ := Aside0.mk (below_step (by repeat (first | (with_reducible first | exact HB.out | apply below_alloc | apply pw_below_drewN | apply below_drew1 | refine below_set ?_ GE152.out | refine below_set ?_ GE159.out | refine below_set ?_ GE160.out) | exact HB.out)) hb); clear HO_7; clear BK152; clear BK159; clear BK160; clear HB; have HO_7 := n0_; have BK152 := n1_; have BK159 := n2_; have BK160 := n3_; have HB := n4_; clear n0_ n1_ n2_ n3_ n4_; (try clear hb); (try clear hb2); (try clear hk); (try clear hi)))
                    go_roundg kj7
                    case measure => have := HK1.out; have := HJ7.out; omega
                    case rel => exact ⟨(x7_1), (wrap64 (x19_1 + 1)), (by first | rfl | (simp; done) | (simp [*]; done)), H', ⟨by have := HK1.out; have := HJ7.out; omega⟩, ⟨by (with_reducible repeat (first | apply Kd.R_alloc | apply Kd.R_drewN | apply Kd.R_drew)); exact HO_7.out⟩, ⟨by repeat (first | (with_reducible first | exact HB.out | apply below_alloc | apply pw_below_drewN | apply below_drew1 | refine below_set ?_ GE152.out | refine below_set ?_ GE159.out | refine below_set ?_ GE160.out) | exact HB.out)⟩⟩
          · rw [if_neg c6] at H
            exact absurd H (by simp)
        · rw [if_neg c5] at H
          exact absurd H (by simp)
      · rw [if_neg c4] at H
        have c4b0 : decide (x19_1 < (l0.length : Int)) = false := decide_eq_false c4
        clear c4
        replace H := Option.bind_eq_some_iff.mp H
        obtain ⟨t150, A460, H⟩ := H
        replace H : (some t150) = some r := H
        have A46 := Aside0.mk A460
        clear A460
        obtain rfl := Option.some.inj H
        obtain ⟨Ao47, co47, eo47⟩ := Kd.R_slice HO_7.out
        subst eo47
        go_wp2_with (first | ((with_reducible refine gate_callee (f := 32) rfl ?_); refine goesL_ (some 84) rfl rfl Try.func32 (by kernel_rfl) rfl #[.slice Ao47 x7_1.length co47, .func (.func 33) #[] #[]] rfl (by (try simp only [List.map_toArray, List.map_cons, List.map_nil]); first | done | rfl | (simp only [List.length_drop, List.length_take]; rfl)) ?_; (with_reducible refine (sweep_mark.calls (fun k_ => some k_ = (.slice Ao47 x7_1.length co47 : Value).ownBlock) (.slice Ao47 x7_1.length co47) x7_1  t150 w _ ?side1 ?side2 A46.out).mono ?_); (case side1 => repeat (first | (with_reducible first | exact HB.out | apply below_alloc | apply pw_below_drewN | apply below_drew1) | exact HB.out)); (case side2 => exact Kd.R_tight rfl HO_7.out); rintro e w48 ⟨rfl, hy0, hb, hkp⟩; refine ⟨_, rfl, ?_⟩; have n0_ := Aside0.mk (Kd.R_reok rfl hy0 (fun k_ e_ => HO_7.out.1 k_ e_)); have n1_ := Aside0.mk (hb); clear HO_7; clear HB; have HO_7 := n0_; have HB := n1_; clear n0_ n1_; (try clear hb); (try clear hkp); (try clear hy0)))
        go_ret
        exact ⟨_, by first | rfl | (simp [errW_none, errW_some] <;> rfl) | (simp [*, errW_none, errW_some] <;> rfl), by (with_reducible repeat (first | apply Kd.R_alloc | apply Kd.R_drewN | apply Kd.R_drew)); exact HO_7.out, by repeat (first | (with_reducible first | exact HB.out | apply below_alloc | apply pw_below_drewN | apply below_drew1) | exact HB.out)⟩

end Go.Proofs.Ytgmegmhioiljcaa.P
