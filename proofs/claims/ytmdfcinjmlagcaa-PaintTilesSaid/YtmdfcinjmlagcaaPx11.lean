/- Printed by printx.py (wip/tool) out of the translation: plain functions that tell what the program answers, and the proofs that the program comes to these answers, for all arguments of their kinds. Lean checks it. -/
import Derived.Test.YtmdfcinjmlagcaaPx0
import Derived.Test.YtmdfcinjmlagcaaPx4
namespace Go.Proofs.Ytmdfcinjmlagcaa.P
open Go.RowKit Go.Proofs.YtmdfcinjmlagcaaW.PrintWords Go.Proofs.YtmdfcinjmlagcaaW.PrintLast Go.Proofs.YtmdfcinjmlagcaaW.PrintMore
attribute [local go_sem] max2_int min2_int max_two min_two max_three min_three max_four min_four max_five min_five max_six min_six   -- for this text's walks alone
set_option linter.unusedVariables false
set_option linter.unusedSimpArgs false

/-! ### field_RightCx: function 50 -/
def field_RightCx.f (k : Nat) (a0_0 : Int) (a0_1 : Int) (a0_2 : Int) (a0_3 : Int) (a0_4 : Int) (a0_5 : Int) (a0_6 : Int) (a0_7 : Int) : Option (Bool) := (field_within.f k (-512) 512 [a0_0, a0_1, a0_2, a0_3]).bind fun t => (if t = true then (field_within.f k (-255) 255 [a0_4, a0_5, a0_6, a0_7]) else (some false))
theorem field_RightCx.mono : ∀ a0 a1 a2 a3 a4 a5 a6 a7 k, LeO (field_RightCx.f k a0 a1 a2 a3 a4 a5 a6 a7) (field_RightCx.f (k + 1) a0 a1 a2 a3 a4 a5 a6 a7) := by
  intro a0 a1 a2 a3 a4 a5 a6 a7 k
  unfold field_RightCx.f
  exact LeO.bind (field_within.mono _ _ _ _) (fun _ => LeO.ite (field_within.mono _ _ _ _) (LeO.refl _))
theorem row4 (p o : Nat) (w : World) (a b c d : Int) (h0 : w.cell? ⟨p, o, none⟩ = some (.int .i64 a)) (h1 : w.cell? ⟨p, o + 1, none⟩ = some (.int .i64 b)) (h2 : w.cell? ⟨p, o + 2, none⟩ = some (.int .i64 c)) (h3 : w.cell? ⟨p, o + 3, none⟩ = some (.int .i64 d)) :
    Kd.C (Kd.int .i64) w (some ⟨p, o, none⟩) 4 [a, b, c, d] := by
  refine ⟨rfl, by decide, fun _ => ⟨⟨p, o, none⟩, rfl, fun j x hj => ⟨[.int .i64 x], rfl, rfl, fun i u hi => ?_⟩⟩⟩
  have hi0 : i = 0 := by
    rcases Nat.eq_zero_or_pos i with h | h
    · exact h
    · rw [List.getElem?_eq_none (by simp; omega)] at hi; cases hi
  subst hi0
  have hu : Value.int .i64 x = u := by simpa using hi
  subst hu
  have ea : (⟨p, o, none⟩ : Addr).add (j * (Kd.int .i64).sz + 0) = ⟨p, o + j, none⟩ := by
    show (⟨p, o, none⟩ : Addr).add (j * 1 + 0) = _
    rw [Nat.mul_one, Nat.add_zero]
    unfold Addr.add
    split
    · next h => subst h; rfl
    · rfl
  rw [ea]
  match j, hj with
  | 0, hj => have e : a = x := by simpa using hj
             subst e; exact h0
  | 1, hj => have e : b = x := by simpa using hj
             subst e; exact h1
  | 2, hj => have e : c = x := by simpa using hj
             subst e; exact h2
  | 3, hj => have e : d = x := by simpa using hj
             subst e; exact h3
  | n + 4, hj => rw [List.getElem?_eq_none (by simp)] at hj; cases hj
theorem field_within.four (k : Nat) (lo hi a b c d : Int) (r : Bool) (p o : Nat) (w : World) (h0 : w.cell? ⟨p, o, none⟩ = some (.int .i64 a)) (h1 : w.cell? ⟨p, o + 1, none⟩ = some (.int .i64 b)) (h2 : w.cell? ⟨p, o + 2, none⟩ = some (.int .i64 c)) (h3 : w.cell? ⟨p, o + 3, none⟩ = some (.int .i64 d)) (h : field_within.f k lo hi [a, b, c, d] = some r) :
    Calls Try.prog 44 #[.int .i64 lo, .int .i64 hi, .slice (some ⟨p, o, none⟩) 4 4] w fun e w' => e = .returned (.bool r) ∧ Drawn0 w w' :=
  field_within.calls k lo hi (some ⟨p, o, none⟩) 4 [a, b, c, d] r w (row4 p o w a b c d h0 h1 h2 h3) (Nat.le_refl _) h
set_option maxHeartbeats 4000000 in
set_option maxRecDepth 100000 in
theorem field_RightCx.calls (k : Nat) (a0_0 : Int) (a0_1 : Int) (a0_2 : Int) (a0_3 : Int) (a0_4 : Int) (a0_5 : Int) (a0_6 : Int) (a0_7 : Int) (r : Bool) (w : World) (h : field_RightCx.f k a0_0 a0_1 a0_2 a0_3 a0_4 a0_5 a0_6 a0_7 = some r) :
    Calls Try.prog 50 #[.agg #[.int .i64 a0_0, .int .i64 a0_1, .int .i64 a0_2, .int .i64 a0_3, .int .i64 a0_4, .int .i64 a0_5, .int .i64 a0_6, .int .i64 a0_7]] w fun e w' => e = .returned (.bool r) ∧ Below w.heap.size w w' := by
  have HB := Aside0.mk (Below.refl w.heap.size w)
  unfold field_RightCx.f at h
  obtain ⟨t, A1, H⟩ := Option.bind_eq_some_iff.mp h
  clear h
  replace A1 := Aside0.mk A1
  cases t with
  | true =>
    rw [if_pos rfl] at H
    replace H := Aside0.mk H
    go_enter Try.func50, Try.ntmps50
    go_wp2_with (first
      | (go_at_call 44; (with_reducible refine (field_within.four k (-512) 512 a0_0 a0_1 a0_2 a0_3 true _ _ _ ?h0 ?h1 ?h2 ?h3 A1.out).mono ?_); (case h0 => exact (blk_cell (blk_new w _) 0).trans rfl); (case h1 => exact (blk_cell (blk_new w _) 1).trans rfl); (case h2 => exact (blk_cell (blk_new w _) 2).trans rfl); (case h3 => exact (blk_cell (blk_new w _) 3).trans rfl); rintro e w' ⟨rfl, ⟨nd, rfl⟩⟩)
      | (go_at_call 44; (with_reducible refine (field_within.four k (-255) 255 a0_4 a0_5 a0_6 a0_7 r _ _ _ ?h0 ?h1 ?h2 ?h3 H.out).mono ?_); (case h0 => exact (blk_cell (blk_drewN (blk_new w _) _) 4).trans rfl); (case h1 => exact (blk_cell (blk_drewN (blk_new w _) _) 5).trans rfl); (case h2 => exact (blk_cell (blk_drewN (blk_new w _) _) 6).trans rfl); (case h3 => exact (blk_cell (blk_drewN (blk_new w _) _) 7).trans rfl); rintro e w' ⟨rfl, ⟨nd, rfl⟩⟩))
    go_ret
    exact ⟨by first | rfl | (simp; done) | (simp [*]; done), by repeat (first | (with_reducible first | exact HB.out | apply below_alloc | apply pw_below_drewN | apply below_drew1) | exact HB.out)⟩
  | false =>
    rw [if_neg (by simp)] at H
    obtain rfl := Option.some.inj H
    clear H
    go_enter Try.func50, Try.ntmps50
    go_wp2_with (first
      | (go_at_call 44; (with_reducible refine (field_within.four k (-512) 512 a0_0 a0_1 a0_2 a0_3 false _ _ _ ?h0 ?h1 ?h2 ?h3 A1.out).mono ?_); (case h0 => exact (blk_cell (blk_new w _) 0).trans rfl); (case h1 => exact (blk_cell (blk_new w _) 1).trans rfl); (case h2 => exact (blk_cell (blk_new w _) 2).trans rfl); (case h3 => exact (blk_cell (blk_new w _) 3).trans rfl); rintro e w' ⟨rfl, ⟨nd, rfl⟩⟩))
    go_ret
    exact ⟨by first | rfl | (simp; done) | (simp [*]; done), by repeat (first | (with_reducible first | exact HB.out | apply below_alloc | apply pw_below_drewN | apply below_drew1) | exact HB.out)⟩

/-! ### affine_clamp: function 51 -/
def affine_clamp.f (a0 : Int) (a1 : Int) (a2 : Int) : Option (Int) := some (mn (mx a0 a1) a2)
set_option maxHeartbeats 8000000 in
set_option maxRecDepth 100000 in
theorem affine_clamp.calls (a0 : Int) (a1 : Int) (a2 : Int) (r : Int) (w : World) (h : affine_clamp.f a0 a1 a2 = some r) :
    Calls Try.prog 51 #[.int .i64 a0, .int .i64 a1, .int .i64 a2] w fun e w' => e = .returned (.int .i64 r) ∧ Below w.heap.size w w' := by
  have HB := Aside0.mk (Below.refl w.heap.size w)
  have H : (some (mn (mx a0 a1) a2)) = some r := h
  clear h
  obtain ⟨ji4, hji4⟩ : ∃ j_ : Int, (mx a0 a1) = j_ := ⟨_, rfl⟩
  replace H : (some (mn (ji4) a2)) = some r := by first | (rw [hji4] at H; exact H) | (simp only [hji4] at H ⊢; exact H)
  have hji4_ : (if a0 < a1 then a1 else a0) = ji4 := hji4
  obtain ⟨ji5, hji5⟩ : ∃ j_ : Int, (mn (ji4) a2) = j_ := ⟨_, rfl⟩
  replace H : (some ji5) = some r := by first | (rw [hji5] at H; exact H) | (simp only [hji5] at H ⊢; exact H)
  have hji5_ : (if a2 < (ji4) then a2 else (ji4)) = ji5 := hji5
  obtain rfl := Option.some.inj H
  go_enter Try.func51, Try.ntmps51
  go_wp2
  go_ret
  exact ⟨by first | rfl | (simp [errW_none, errW_some] <;> rfl) | (simp only [← hji4, ← hji5]; first | rfl | (simp [errW_none, errW_some] <;> rfl)) | (simp [*, errW_none, errW_some] <;> rfl), by repeat (first | (with_reducible first | exact HB.out | apply below_alloc | apply pw_below_drewN | apply below_drew1) | exact HB.out)⟩

end Go.Proofs.Ytmdfcinjmlagcaa.P
