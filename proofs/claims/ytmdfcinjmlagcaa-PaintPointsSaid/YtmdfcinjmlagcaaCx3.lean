/- Walks by cw.py (wip/tool): plain functions that tell what the program answers, and the proofs that the program comes to these answers, for all arguments of their kinds. -/
import Derived.Test.YtmdfcinjmlagcaaCx0
namespace Go.Proofs.Ytmdfcinjmlagcaa.P
open Go.RowKit Go.Proofs.YtmdfcinjmlagcaaW.PrintWords Go.Proofs.YtmdfcinjmlagcaaW.PrintLast Go.Proofs.YtmdfcinjmlagcaaW.PrintMore
attribute [local go_sem] max2_int min2_int max_two min_two max_three min_three max_four min_four max_five min_five max_six min_six
set_option linter.unusedVariables false
set_option linter.unusedSimpArgs false

/-! ### field_RightCx: function 50 -/
def field_RightCx.f (k : Nat) (a0_0 : Int) (a0_1 : Int) (a0_2 : Int) (a0_3 : Int) (a0_4 : Int) (a0_5 : Int) (a0_6 : Int) (a0_7 : Int) : Option (Bool) := (field_within.f k (-512) 512 [a0_0, a0_1, a0_2, a0_3]).bind fun t => (if t = true then (field_within.f k (-255) 255 [a0_4, a0_5, a0_6, a0_7]) else (some false))
theorem field_RightCx.mono : ∀ a0 a1 a2 a3 a4 a5 a6 a7 k, LeO (field_RightCx.f k a0 a1 a2 a3 a4 a5 a6 a7) (field_RightCx.f (k + 1) a0 a1 a2 a3 a4 a5 a6 a7) := by
  intro a0 a1 a2 a3 a4 a5 a6 a7 k
  unfold field_RightCx.f
  exact LeO.bind (field_within.mono _ _ _ _) (fun _ => LeO.ite (field_within.mono _ _ _ _) (LeO.refl _))
theorem row4 (p o : Nat) (w : World) (a b c d : Int) (h0 : w.cell? ⟨p, o, none⟩ = some (.int .i64 a)) (h1 : w.cell? ⟨p, o + 1, none⟩ = some (.int .i64 b)) (h2 : w.cell? ⟨p, o + 2, none⟩ = some (.int .i64 c)) (h3 : w.cell? ⟨p, o + 3, none⟩ = some (.int .i64 d)) :
    Kd.C (Kd.int .i64) w (some ⟨p, o, none⟩) 4 [a, b, c, d] := by
  refine ⟨rfl, by decide, fun _ => ⟨⟨p, o, none⟩, rfl, fun j x hj => ⟨[.int .i64 x], rfl, rfl, fun i u hi => ?_⟩⟩⟩
  have hi0 : i = 0 := by
    rcases Nat.eq_zero_or_pos i with h | h
    · exact h
    · rw [List.getElem?_eq_none (by simp; omega)] at hi; cases hi
  subst hi0
  have hu : Value.int .i64 x = u := by simpa using hi
  subst hu
  have ea : (⟨p, o, none⟩ : Addr).add (j * (Kd.int .i64).sz + 0) = ⟨p, o + j, none⟩ := by
    show (⟨p, o, none⟩ : Addr).add (j * 1 + 0) = _
    rw [Nat.mul_one, Nat.add_zero]
    unfold Addr.add
    split
    · next h => subst h; rfl
    · rfl
  rw [ea]
  match j, hj with
  | 0, hj => have e : a = x := by simpa using hj
             subst e; exact h0
  | 1, hj => have e : b = x := by simpa using hj
             subst e; exact h1
  | 2, hj => have e : c = x := by simpa using hj
             subst e; exact h2
  | 3, hj => have e : d = x := by simpa using hj
             subst e; exact h3
  | n + 4, hj => rw [List.getElem?_eq_none (by simp)] at hj; cases hj
theorem field_within.four (k : Nat) (lo hi a b c d : Int) (r : Bool) (p o : Nat) (w : World) (h0 : w.cell? ⟨p, o, none⟩ = some (.int .i64 a)) (h1 : w.cell? ⟨p, o + 1, none⟩ = some (.int .i64 b)) (h2 : w.cell? ⟨p, o + 2, none⟩ = some (.int .i64 c)) (h3 : w.cell? ⟨p, o + 3, none⟩ = some (.int .i64 d)) (h : field_within.f k lo hi [a, b, c, d] = some r) :
    Calls Try.prog 44 #[.int .i64 lo, .int .i64 hi, .slice (some ⟨p, o, none⟩) 4 4] w fun e w' => e = .returned (.bool r) ∧ Drawn0 w w' :=
  field_within.calls k lo hi (some ⟨p, o, none⟩) 4 [a, b, c, d] r w (row4 p o w a b c d h0 h1 h2 h3) (Nat.le_refl _) h
set_option maxHeartbeats 4000000 in
set_option maxRecDepth 100000 in
theorem field_RightCx.calls (k : Nat) (a0_0 : Int) (a0_1 : Int) (a0_2 : Int) (a0_3 : Int) (a0_4 : Int) (a0_5 : Int) (a0_6 : Int) (a0_7 : Int) (r : Bool) (w : World) (h : field_RightCx.f k a0_0 a0_1 a0_2 a0_3 a0_4 a0_5 a0_6 a0_7 = some r) :
    Calls Try.prog 50 #[.agg #[.int .i64 a0_0, .int .i64 a0_1, .int .i64 a0_2, .int .i64 a0_3, .int .i64 a0_4, .int .i64 a0_5, .int .i64 a0_6, .int .i64 a0_7]] w fun e w' => e = .returned (.bool r) ∧ Below w.heap.size w w' := by
  have HB := Aside0.mk (Below.refl w.heap.size w)
  unfold field_RightCx.f at h
  obtain ⟨t, A1, H⟩ := Option.bind_eq_some_iff.mp h
  clear h
  replace A1 := Aside0.mk A1
  cases t with
  | true =>
    rw [if_pos rfl] at H
    replace H := Aside0.mk H
    go_enter Try.func50, Try.ntmps50
    go_wp2_with (first
      | (go_at_call 44; (with_reducible refine (field_within.four k (-512) 512 a0_0 a0_1 a0_2 a0_3 true _ _ _ ?h0 ?h1 ?h2 ?h3 A1.out).mono ?_); (case h0 => exact (blk_cell (blk_new w _) 0).trans rfl); (case h1 => exact (blk_cell (blk_new w _) 1).trans rfl); (case h2 => exact (blk_cell (blk_new w _) 2).trans rfl); (case h3 => exact (blk_cell (blk_new w _) 3).trans rfl); rintro e w' ⟨rfl, ⟨nd, rfl⟩⟩)
      | (go_at_call 44; (with_reducible refine (field_within.four k (-255) 255 a0_4 a0_5 a0_6 a0_7 r _ _ _ ?h0 ?h1 ?h2 ?h3 H.out).mono ?_); (case h0 => exact (blk_cell (blk_drewN (blk_new w _) _) 4).trans rfl); (case h1 => exact (blk_cell (blk_drewN (blk_new w _) _) 5).trans rfl); (case h2 => exact (blk_cell (blk_drewN (blk_new w _) _) 6).trans rfl); (case h3 => exact (blk_cell (blk_drewN (blk_new w _) _) 7).trans rfl); rintro e w' ⟨rfl, ⟨nd, rfl⟩⟩))
    go_ret
    exact ⟨by first | rfl | (simp; done) | (simp [*]; done), by repeat (first | (with_reducible first | exact HB.out | apply below_alloc | apply pw_below_drewN | apply below_drew1) | exact HB.out)⟩
  | false =>
    rw [if_neg (by simp)] at H
    obtain rfl := Option.some.inj H
    clear H
    go_enter Try.func50, Try.ntmps50
    go_wp2_with (first
      | (go_at_call 44; (with_reducible refine (field_within.four k (-512) 512 a0_0 a0_1 a0_2 a0_3 false _ _ _ ?h0 ?h1 ?h2 ?h3 A1.out).mono ?_); (case h0 => exact (blk_cell (blk_new w _) 0).trans rfl); (case h1 => exact (blk_cell (blk_new w _) 1).trans rfl); (case h2 => exact (blk_cell (blk_new w _) 2).trans rfl); (case h3 => exact (blk_cell (blk_new w _) 3).trans rfl); rintro e w' ⟨rfl, ⟨nd, rfl⟩⟩))
    go_ret
    exact ⟨by first | rfl | (simp; done) | (simp [*]; done), by repeat (first | (with_reducible first | exact HB.out | apply below_alloc | apply pw_below_drewN | apply below_drew1) | exact HB.out)⟩
theorem field_RightCx.cn {a0_0 a0_1 a0_2 a0_3 a0_4 a0_5 a0_6 a0_7 : Int} {k : Nat} {r : Bool} {w : World} (h : field_RightCx.f k a0_0 a0_1 a0_2 a0_3 a0_4 a0_5 a0_6 a0_7 = some r) :
    Calls Try.prog 50 #[.agg #[.int .i64 a0_0, .int .i64 a0_1, .int .i64 a0_2, .int .i64 a0_3, .int .i64 a0_4, .int .i64 a0_5, .int .i64 a0_6, .int .i64 a0_7]] w fun e w' => e = .returned (.bool r) ∧ Below w.heap.size w w' := by
  apply field_RightCx.calls <;> assumption

/-! ### affine_clamp: function 51 -/
def affine_clamp.f (a0 : Int) (a1 : Int) (a2 : Int) : Option (Int) := some (mn (mx a0 a1) a2)

set_option maxHeartbeats 8000000 in
set_option maxRecDepth 100000 in
theorem affine_clamp.cn {a0 a1 a2 r : Int} {w : World} (h : affine_clamp.f a0 a1 a2 = some r) :
    Calls Try.prog 51 #[.int .i64 a0, .int .i64 a1, .int .i64 a2] w fun e w' => e = .returned (.int .i64 r) ∧ Below w.heap.size w w' := by
  have hmx : ∀ a b : Int, (if a < b then b else a) = mx a b := fun _ _ => rfl
  have hmn : ∀ a b : Int, (if b < a then b else a) = mn a b := fun _ _ => rfl
  unfold affine_clamp.f at h
  repeat' first
    | (with_reducible replace h := zs h)
    | (with_reducible replace h := zez h (by assumption) (by decide))
    | (with_reducible replace h := zb h; obtain ⟨t, A, h⟩ := h)
    | (with_reducible first | replace h := z1 h | replace h := z0 h | replace h := zep h (by assumption) | replace h := zen h (by assumption) | replace h := zcp h (by assumption) | replace h := zcn h (by assumption) | replace h := zbp h (by assumption) | replace h := zbn h (by assumption))
    | (with_reducible (first | replace h := zx h | replace h := zt h); obtain ⟨rfl, h⟩ | ⟨rfl, h⟩ := h)
    | (with_reducible (first | replace h := zd h | replace h := zl h | replace h := zm h); obtain ⟨c, h⟩ | ⟨c, h⟩ := h)
    | (with_reducible (first | replace h := ze h | replace h := zg h); obtain ⟨c, c', h⟩ | ⟨c, c', h⟩ := h)
    | (with_reducible replace h := zt h; obtain ⟨c, h⟩ | ⟨c, h⟩ := h)
    | (with_reducible replace h := Option.some.inj h; subst h)
    | (with_reducible exact (zn h).elim)
  all_goals
    try (have H' := za h; clear h)
    go_enter Try.func51, Try.ntmps51
    go_wp2_with (first
      | ((with_reducible refine zq ?_); first | go_quiet (fail)))
  all_goals first
    | (go_ret; exact ⟨rfl, Bw.out⟩)

/-! ### affine_Color: function 29 -/
mutual
def affine_Color.j0 : Nat → Bool → Int → Int → Int → Int → Int → Int → Int → Int → Int → Int → Int → Int → Option (Int × Int × Int × Int)
  | 0, _, _, _, _, _, _, _, _, _, _, _, _, _ => none
  | k + 1, x15, x224000, x224001, x224002, x224003, x224004, x224005, x224006, x224007, x225000, x225001, x225002, x225003 => if x15 = true then (some (0, 0, 0, 0)) else (affine_Color.l0 k 0 x225000 x225001 x225002 x225003 x224000 x224001 x224002 x224003 x224004 x224005 x224006 x224007 x225000 x225001 x225002 x225003)
def affine_Color.l0 : Nat → Int → Int → Int → Int → Int → Int → Int → Int → Int → Int → Int → Int → Int → Int → Int → Int → Int → Option (Int × Int × Int × Int)
  | 0, _, _, _, _, _, _, _, _, _, _, _, _, _, _, _, _, _ => none
  | k + 1, x27, x808, x809, x810, x811, x224000, x224001, x224002, x224003, x224004, x224005, x224006, x224007, x229000, x229001, x229002, x229003 => if x27 < 4 then (if x27 = 0 then ((affine_clamp.f (wrap64 (((wrap64 (x808 * x224000)) / 256) + x224004)) 0 255).bind fun t229 => (affine_Color.l0 k (0 + 1) x808 x809 x810 x811 x224000 x224001 x224002 x224003 x224004 x224005 x224006 x224007 t229 x229001 x229002 x229003)) else (if x27 = 1 then ((affine_clamp.f (wrap64 (((wrap64 (x809 * x224001)) / 256) + x224005)) 0 255).bind fun t230 => (affine_Color.l0 k (1 + 1) x808 x809 x810 x811 x224000 x224001 x224002 x224003 x224004 x224005 x224006 x224007 x229000 t230 x229002 x229003)) else (if x27 = 2 then ((affine_clamp.f (wrap64 (((wrap64 (x810 * x224002)) / 256) + x224006)) 0 255).bind fun t231 => (affine_Color.l0 k (2 + 1) x808 x809 x810 x811 x224000 x224001 x224002 x224003 x224004 x224005 x224006 x224007 x229000 x229001 t231 x229003)) else (if x27 = 3 then ((affine_clamp.f (wrap64 (((wrap64 (x811 * x224003)) / 256) + x224007)) 0 255).bind fun t232 => (affine_Color.l0 k (3 + 1) x808 x809 x810 x811 x224000 x224001 x224002 x224003 x224004 x224005 x224006 x224007 x229000 x229001 x229002 t232)) else (none))))) else (some (x229000, x229001, x229002, x229003))
end
def affine_Color.f (k : Nat) (a0_0 : Int) (a0_1 : Int) (a0_2 : Int) (a0_3 : Int) (a0_4 : Int) (a0_5 : Int) (a0_6 : Int) (a0_7 : Int) (a1_0 : Int) (a1_1 : Int) (a1_2 : Int) (a1_3 : Int) : Option (Int × Int × Int × Int) := (field_RightCx.f k a0_0 a0_1 a0_2 a0_3 a0_4 a0_5 a0_6 a0_7).bind fun t226 => (if t226 = true then ((field_RightRGBA.f k a1_0 a1_1 a1_2 a1_3).bind fun t227 => (affine_Color.j0 k (!t227) a0_0 a0_1 a0_2 a0_3 a0_4 a0_5 a0_6 a0_7 a1_0 a1_1 a1_2 a1_3)) else (affine_Color.j0 k true a0_0 a0_1 a0_2 a0_3 a0_4 a0_5 a0_6 a0_7 a1_0 a1_1 a1_2 a1_3))
def affine_Color.O7 : List Nat := [0, 1, 2, 3, 4, 8, 9, 10, 5, 6, 7, 11, 12, 13, 14, 15]
def affine_Color.T7 : Bool × List (List Nat × List Nat) := (true, [([], []), ([], []), ([], []), ([], []), ([3, 2], [2, 3]), ([4], [4]), ([1, 5], [1, 5]), ([6], [6]), ([], []), ([], []), ([9, 8], [8, 9]), ([10], [10]), ([7, 11], [7, 11]), ([12], [12]), ([0, 0, 1, 2, 3, 4, 5, 6, 7, 8, 9, 10, 11, 12, 13], [0]), ([14, 13, 13, 0, 1, 2, 3, 4, 5, 6, 7, 8, 9, 10, 11, 12, 13], [13, 14])])
theorem affine_Color.tab7 : rtab .any (opsOf Try.f29 7) = affine_Color.T7 := by kernel_rfl
theorem affine_Color.mono_l : ∀ k, (∀ y0 y1 y2 y3 y4 y5 y6 y7 y8 y9 y10 y11 y12, LeO (affine_Color.j0 k y0 y1 y2 y3 y4 y5 y6 y7 y8 y9 y10 y11 y12) (affine_Color.j0 (k + 1) y0 y1 y2 y3 y4 y5 y6 y7 y8 y9 y10 y11 y12)) ∧ (∀ y0 y1 y2 y3 y4 y5 y6 y7 y8 y9 y10 y11 y12 y13 y14 y15 y16, LeO (affine_Color.l0 k y0 y1 y2 y3 y4 y5 y6 y7 y8 y9 y10 y11 y12 y13 y14 y15 y16) (affine_Color.l0 (k + 1) y0 y1 y2 y3 y4 y5 y6 y7 y8 y9 y10 y11 y12 y13 y14 y15 y16))
  | 0 => ⟨fun _ _ _ _ _ _ _ _ _ _ _ _ _ r h => by simp [affine_Color.j0] at h, fun _ _ _ _ _ _ _ _ _ _ _ _ _ _ _ _ _ r h => by simp [affine_Color.l0] at h⟩
  | k + 1 => by
    obtain ⟨ih0, ih1⟩ := affine_Color.mono_l k
    refine ⟨?_, ?_⟩
    · intro y0 y1 y2 y3 y4 y5 y6 y7 y8 y9 y10 y11 y12
      unfold affine_Color.j0
      repeat' first
      | with_reducible exact ih0 _ _ _ _ _ _ _ _ _ _ _ _ _
      | with_reducible exact ih1 _ _ _ _ _ _ _ _ _ _ _ _ _ _ _ _ _
      | with_reducible exact field_RightCx.mono _ _ _ _ _ _ _ _ _
      | with_reducible exact field_RightRGBA.mono _ _ _ _ _
      | with_reducible exact LeO.refl _
      | with_reducible exact LeO.none _
      | with_reducible refine LeO.ite ?_ ?_
      | with_reducible refine LeO.bind ?_ (fun _ => ?_)
    · intro y0 y1 y2 y3 y4 y5 y6 y7 y8 y9 y10 y11 y12 y13 y14 y15 y16
      unfold affine_Color.l0
      repeat' first
      | with_reducible exact ih0 _ _ _ _ _ _ _ _ _ _ _ _ _
      | with_reducible exact ih1 _ _ _ _ _ _ _ _ _ _ _ _ _ _ _ _ _
      | with_reducible exact field_RightCx.mono _ _ _ _ _ _ _ _ _
      | with_reducible exact field_RightRGBA.mono _ _ _ _ _
      | with_reducible exact LeO.refl _
      | with_reducible exact LeO.none _
      | with_reducible refine LeO.ite ?_ ?_
      | with_reducible refine LeO.bind ?_ (fun _ => ?_)
theorem affine_Color.mono : ∀ a0 a1 a2 a3 a4 a5 a6 a7 a8 a9 a10 a11 k, LeO (affine_Color.f k a0 a1 a2 a3 a4 a5 a6 a7 a8 a9 a10 a11) (affine_Color.f (k + 1) a0 a1 a2 a3 a4 a5 a6 a7 a8 a9 a10 a11) := by
  intro a0 a1 a2 a3 a4 a5 a6 a7 a8 a9 a10 a11 k
  obtain ⟨ih0, ih1⟩ := affine_Color.mono_l k
  unfold affine_Color.f
  repeat' first
      | with_reducible exact ih0 _ _ _ _ _ _ _ _ _ _ _ _ _
      | with_reducible exact ih1 _ _ _ _ _ _ _ _ _ _ _ _ _ _ _ _ _
      | with_reducible exact field_RightCx.mono _ _ _ _ _ _ _ _ _
      | with_reducible exact field_RightRGBA.mono _ _ _ _ _
      | with_reducible exact LeO.refl _
      | with_reducible exact LeO.none _
      | with_reducible refine LeO.ite ?_ ?_
      | with_reducible refine LeO.bind ?_ (fun _ => ?_)
set_option maxHeartbeats 8000000 in
set_option maxRecDepth 100000 in
theorem affine_Color.cn {a0_0 a0_1 a0_2 a0_3 a0_4 a0_5 a0_6 a0_7 a1_0 a1_1 a1_2 a1_3 r1 r2 r3 r4 : Int} {k : Nat} {w : World} (h : affine_Color.f k a0_0 a0_1 a0_2 a0_3 a0_4 a0_5 a0_6 a0_7 a1_0 a1_1 a1_2 a1_3 = some (r1, r2, r3, r4)) :
    Calls Try.prog 29 #[.agg #[.int .i64 a0_0, .int .i64 a0_1, .int .i64 a0_2, .int .i64 a0_3, .int .i64 a0_4, .int .i64 a0_5, .int .i64 a0_6, .int .i64 a0_7], .agg #[.int .i64 a1_0, .int .i64 a1_1, .int .i64 a1_2, .int .i64 a1_3]] w fun e w' => e = .returned (.agg #[.int .i64 r1, .int .i64 r2, .int .i64 r3, .int .i64 r4]) ∧ Below w.heap.size w w' := by
  have hu23 := Try.underlying23
  have hu32 := Try.underlying32
  have hu34 := Try.underlying34
  have hix32_0 : ∀ (c0_ c1_ c2_ c3_ : Value) (W : World), (Instr.index 32 (.agg #[c0_, c1_, c2_, c3_]) (.int .i64 0)).run Try.prog W = .ok (c0_) W := fun c0_ c1_ c2_ c3_ W => by kernel_rfl
  have hix32_1 : ∀ (c0_ c1_ c2_ c3_ : Value) (W : World), (Instr.index 32 (.agg #[c0_, c1_, c2_, c3_]) (.int .i64 1)).run Try.prog W = .ok (c1_) W := fun c0_ c1_ c2_ c3_ W => by kernel_rfl
  have hix32_2 : ∀ (c0_ c1_ c2_ c3_ : Value) (W : World), (Instr.index 32 (.agg #[c0_, c1_, c2_, c3_]) (.int .i64 2)).run Try.prog W = .ok (c2_) W := fun c0_ c1_ c2_ c3_ W => by kernel_rfl
  have hix32_3 : ∀ (c0_ c1_ c2_ c3_ : Value) (W : World), (Instr.index 32 (.agg #[c0_, c1_, c2_, c3_]) (.int .i64 3)).run Try.prog W = .ok (c3_) W := fun c0_ c1_ c2_ c3_ W => by kernel_rfl
  unfold affine_Color.f at h
  repeat' first
    | (with_reducible replace h := zs h)
    | (with_reducible replace h := zez h (by assumption) (by decide))
    | (with_reducible replace h := zb h; obtain ⟨t, A, h⟩ := h)
    | (with_reducible first | replace h := z1 h | replace h := z0 h | replace h := zep h (by assumption) | replace h := zen h (by assumption) | replace h := zcp h (by assumption) | replace h := zcn h (by assumption) | replace h := zbp h (by assumption) | replace h := zbn h (by assumption))
    | (with_reducible (first | replace h := zx h | replace h := zt h); obtain ⟨rfl, h⟩ | ⟨rfl, h⟩ := h)
    | (with_reducible (first | replace h := zd h | replace h := zl h | replace h := zm h); obtain ⟨c, h⟩ | ⟨c, h⟩ := h)
    | (with_reducible replace h := zlt h; obtain ⟨rfl, h⟩ | ⟨c, h⟩ := h)
    | (with_reducible (first | replace h := ze h | replace h := zg h); obtain ⟨c, c', h⟩ | ⟨c, c', h⟩ := h)
    | (with_reducible replace h := zt h; obtain ⟨c, h⟩ | ⟨c, h⟩ := h)
    | (with_reducible replace h := Option.some.inj h; subst h)
    | (with_reducible exact (zn h).elim)
    | (obtain _ | k := k; exact absurd h (by simp [affine_Color.j0]); simp only [affine_Color.j0, if_true, if_false, Bool.false_eq_true] at h)
    | (simp only [Option.some.injEq, Prod.mk.injEq] at h; obtain ⟨rfl, rfl, rfl, rfl⟩ := h)
  all_goals
    try (have H' := za h; clear h)
    go_enter Try.func29, Try.ntmps29
    go_wp2_with (first
      | ((with_reducible refine zq ?_); first | go_quiet (fail))
      | (go_at_call 51; refine (affine_clamp.cn (by assumption : Aside0 _).out).mono ?_; rintro e w' ⟨rfl, hb⟩; (with_reducible first | replace hb := zkd hb | replace hb := zkn hb | replace hb := zk hb); obtain ⟨hb, hc, hf⟩ := hb; have hy := zy w w'; simp only [zL, Nat.add_zero] at hy; try (have hy := zy wB w'; simp only [zL, Nat.add_zero] at hy))
      | (go_at_call 50; refine (field_RightCx.cn (by assumption : Aside0 _).out).mono ?_; rintro e w' ⟨rfl, hb⟩; (with_reducible first | replace hb := zkd hb | replace hb := zkn hb | replace hb := zk hb); obtain ⟨hb, hc, hf⟩ := hb; have hy := zy w w'; simp only [zL, Nat.add_zero] at hy; try (have hy := zy wB w'; simp only [zL, Nat.add_zero] at hy))
      | (go_at_call 24; refine (field_RightRGBA.cn (by assumption : Aside0 _).out).mono ?_; rintro e wB ⟨rfl, hb⟩; (with_reducible first | replace hb := zkd hb | replace hb := zkn hb | replace hb := zk hb); obtain ⟨hb, hc, hf⟩ := hb; have hy := zy w wB; simp only [zL, Nat.add_zero] at hy)
      | ((with_reducible refine zq ?_); refine rS 16 affine_Color.O7 [15] (by kernel_rfl) (by rfl) affine_Color.tab7 (fun HT => ?_); (repeat (first | (refine rP HT.out rfl rfl (v := undef) (a' := ?_) (by kernel_rfl) (fun _ _ _ h => h) (Or.inr ⟨by rfl, rfl⟩) ?_ ?_; rotate_left; (show Act.put _ (some _) _ = _; simp only [Act.put, q1, q2, q3, i64_w, i32_w]; rfl)) | (refine rP HT.out rfl rfl (v := ?_) (a' := ?_) (by kernel_rfl) (fun _ _ _ h => h) (Or.inl ⟨by rfl, ?_⟩) ?_ ?_; rotate_left 2; (intro w'; go_simp; with_reducible rfl); (show Act.put _ (some _) _ = _; simp only [Act.put, q1, q2, q3, i64_w, i32_w]; rfl)) | (refine rT HT.out rfl rfl (v := ?_) (a' := ?_) (by kernel_rfl) (fun _ _ _ h => h) (Or.inl ⟨by rfl, ?_⟩) (by infer_instance) ?_ ?_; rotate_left 2; (intro w' hS; obtain ⟨hc, hf⟩ := rH hS; go_simp; with_reducible rfl); (show Act.put _ (some _) _ = _; simp only [Act.put, q1, q2, q3, i64_w, i32_w]; rfl)) | (refine rO HT.out rfl (by rfl) (by decide) (by rfl) (fun K hK => ?_); go_wp2_with (first | (go_at_call 51; refine (affine_clamp.cn (by assumption : Aside0 _).out).mono ?_; rintro e w' ⟨rfl, hb⟩; (with_reducible first | replace hb := zkd hb | replace hb := zkn hb | replace hb := zk hb); obtain ⟨hb, hc, hf⟩ := hb; have hy := zy w w'; simp only [zL, Nat.add_zero] at hy; try (have hy := zy wB w'; simp only [zL, Nat.add_zero] at hy)) | (go_at_call 50; refine (field_RightCx.cn (by assumption : Aside0 _).out).mono ?_; rintro e w' ⟨rfl, hb⟩; (with_reducible first | replace hb := zkd hb | replace hb := zkn hb | replace hb := zk hb); obtain ⟨hb, hc, hf⟩ := hb; have hy := zy w w'; simp only [zL, Nat.add_zero] at hy; try (have hy := zy wB w'; simp only [zL, Nat.add_zero] at hy)) | (go_at_call 24; refine (field_RightRGBA.cn (by assumption : Aside0 _).out).mono ?_; rintro e wB ⟨rfl, hb⟩; (with_reducible first | replace hb := zkd hb | replace hb := zkn hb | replace hb := zk hb); obtain ⟨hb, hc, hf⟩ := hb; have hy := zy w wB; simp only [zL, Nat.add_zero] at hy)); refine Shut.out hK _ _ (by infer_instance) ?_) | (refine rL HT.out rfl (by rfl) (by decide) (by rfl) (fun K hK => ?_); go_wp2_with (first | (go_at_call 51; refine (affine_clamp.cn (by assumption : Aside0 _).out).mono ?_; rintro e w' ⟨rfl, hb⟩; (with_reducible first | replace hb := zkd hb | replace hb := zkn hb | replace hb := zk hb); obtain ⟨hb, hc, hf⟩ := hb; have hy := zy w w'; simp only [zL, Nat.add_zero] at hy; try (have hy := zy wB w'; simp only [zL, Nat.add_zero] at hy)) | (go_at_call 50; refine (field_RightCx.cn (by assumption : Aside0 _).out).mono ?_; rintro e w' ⟨rfl, hb⟩; (with_reducible first | replace hb := zkd hb | replace hb := zkn hb | replace hb := zk hb); obtain ⟨hb, hc, hf⟩ := hb; have hy := zy w w'; simp only [zL, Nat.add_zero] at hy; try (have hy := zy wB w'; simp only [zL, Nat.add_zero] at hy)) | (go_at_call 24; refine (field_RightRGBA.cn (by assumption : Aside0 _).out).mono ?_; rintro e wB ⟨rfl, hb⟩; (with_reducible first | replace hb := zkd hb | replace hb := zkn hb | replace hb := zk hb); obtain ⟨hb, hc, hf⟩ := hb; have hy := zy w wB; simp only [zL, Nat.add_zero] at hy)); refine Shut.out hK _ _ ?_))); refine rD HT.out (by kernel_rfl) ?_))
  all_goals first
    | (first | (go_ret; exact ⟨rfl, Bw.out⟩) | (go_ret3; exact ⟨rfl, Bw.out⟩) | (refine bodyPost_ret (v := ?_) ?_ rfl ?_; rotate_left 2; (refine ⟨?_, Bw.out⟩; rfl); exact results_cell_row rfl _ _ _ 23 _ (0, 0) _ rfl (by (with_reducible repeat (first | exact (by assumption : Aside0 _).out | (focus (refine znew ?_; simp only [World.size_alloc, World.heap_drewN, heap_drew]; done)) | refine blk_alloc ?_ _ | refine blk_drewN ?_ _ | refine blk_drew ?_ | refine blk_below ?_ Bs.out | apply zput | (refine zfar ?_ ?_; (focus omega)))) <;> rfl) Try.underlying23 rfl (by kernel_rfl)))
    | (go_loopg [27] k (fun kq v27 w' => ∃ (x27_2 : Int) (x229000_2 : Int) (x229001_2 : Int) (x229002_2 : Int) (x229003_2 : Int), v27 = .int .i64 x27_2 ∧ Aside0 (affine_Color.l0 kq x27_2 a1_0 a1_1 a1_2 a1_3 a0_0 a0_1 a0_2 a0_3 a0_4 a0_5 a0_6 a0_7 x229000_2 x229001_2 x229002_2 x229003_2 = some (r1, r2, r3, r4)) ∧ Aside0 (kq ≤ k) ∧ Aside0 (w'.heap[w.heap.size]? = some (.cells #[.int .i64 a0_0, .int .i64 a0_1, .int .i64 a0_2, .int .i64 a0_3, .int .i64 a0_4, .int .i64 a0_5, .int .i64 a0_6, .int .i64 a0_7] 34 (0, 0))) ∧ Aside0 (w'.heap[w.heap.size + 1]? = some (.cells #[.int .i64 a1_0, .int .i64 a1_1, .int .i64 a1_2, .int .i64 a1_3] 23 (0, 0))) ∧ Aside0 (w'.heap[w.heap.size + 2]? = some (.cells #[.int .i64 0, .int .i64 0, .int .i64 0, .int .i64 0] 23 (0, 0))) ∧ Aside0 (w'.heap[wB.heap.size]? = some (.cells #[.int .i64 x229000_2, .int .i64 x229001_2, .int .i64 x229002_2, .int .i64 x229003_2] 32 (0, 0))) ∧ Aside0 (Below w.heap.size w w'))
       case atStart => exact ⟨_, _, _, _, _, rfl, H', ⟨Nat.le_refl _⟩, ⟨by (with_reducible repeat (first | exact (by assumption : Aside0 _).out | (focus (refine znew ?_; simp only [World.size_alloc, World.heap_drewN, heap_drew]; done)) | refine blk_alloc ?_ _ | refine blk_drewN ?_ _ | refine blk_drew ?_ | refine blk_below ?_ Bs.out | apply zput | (refine zfar ?_ ?_; (focus omega)))) <;> rfl⟩, ⟨by (with_reducible repeat (first | exact (by assumption : Aside0 _).out | (focus (refine znew ?_; simp only [World.size_alloc, World.heap_drewN, heap_drew]; done)) | refine blk_alloc ?_ _ | refine blk_drewN ?_ _ | refine blk_drew ?_ | refine blk_below ?_ Bs.out | apply zput | (refine zfar ?_ ?_; (focus omega)))) <;> rfl⟩, ⟨by (with_reducible repeat (first | exact (by assumption : Aside0 _).out | (focus (refine znew ?_; simp only [World.size_alloc, World.heap_drewN, heap_drew]; done)) | refine blk_alloc ?_ _ | refine blk_drewN ?_ _ | refine blk_drew ?_ | refine blk_below ?_ Bs.out | apply zput | (refine zfar ?_ ?_; (focus omega)))) <;> rfl⟩, ⟨by (with_reducible repeat (first | exact (by assumption : Aside0 _).out | (focus (refine znew ?_; simp only [World.size_alloc, World.heap_drewN, heap_drew]; done)) | refine blk_alloc ?_ _ | refine blk_drewN ?_ _ | refine blk_drew ?_ | refine blk_below ?_ Bs.out | apply zput | (refine zfar ?_ ?_; (focus omega)))) <;> rfl⟩, ⟨Bw.out⟩⟩
       case round =>
        obtain ⟨x27_2, x229000_2, x229001_2, x229002_2, x229003_2, rfl, HA, HK1, BK0, BK1, BK2, BK3, HB⟩ := hrel
        have HB := Bw.mk HB.out; clear H'
        cases gk with
        | zero => exact absurd HA.out (by simp [affine_Color.l0])
        | succ k1 =>
          have h := HA.out; clear HA; simp only [affine_Color.l0] at h
          repeat' first
            | (with_reducible replace h := zs h)
            | (with_reducible replace h := zez h (by assumption) (by decide))
            | (with_reducible replace h := zb h; obtain ⟨t, A, h⟩ := h)
            | (with_reducible first | replace h := z1 h | replace h := z0 h | replace h := zep h (by assumption) | replace h := zen h (by assumption) | replace h := zcp h (by assumption) | replace h := zcn h (by assumption) | replace h := zbp h (by assumption) | replace h := zbn h (by assumption))
            | (with_reducible (first | replace h := zx h | replace h := zt h); obtain ⟨rfl, h⟩ | ⟨rfl, h⟩ := h)
            | (with_reducible (first | replace h := zd h | replace h := zl h | replace h := zm h); obtain ⟨c, h⟩ | ⟨c, h⟩ := h)
            | (with_reducible replace h := zlt h; obtain ⟨rfl, h⟩ | ⟨c, h⟩ := h)
            | (with_reducible (first | replace h := ze h | replace h := zg h); obtain ⟨c, c', h⟩ | ⟨c, c', h⟩ := h)
            | (with_reducible replace h := zt h; obtain ⟨c, h⟩ | ⟨c, h⟩ := h)
            | (with_reducible replace h := Option.some.inj h; subst h)
            | (with_reducible exact (zn h).elim)
            | (obtain _ | k1 := k1; exact absurd h (by simp [affine_Color.j0]); simp only [affine_Color.j0, if_true, if_false, Bool.false_eq_true] at h)
            | (simp only [Option.some.injEq, Prod.mk.injEq] at h; obtain ⟨rfl, rfl, rfl, rfl⟩ := h)
          all_goals
            obtain ⟨hc0, hf0, hz0⟩ := zo BK0.out
            obtain ⟨hc1, hf1, hz1⟩ := zo BK1.out
            obtain ⟨hc2, hf2, hz2⟩ := zo BK2.out
            obtain ⟨hc3, hf3, hz3⟩ := zo BK3.out
            have HN : Lw w wr 4 := ⟨by have := blk_lt BK3.out; omega⟩
            try (have H' := za h; clear h)
            go_wp2_with (first
              | ((with_reducible refine zq ?_); first | go_quiet (fail))
              | (go_at_call 51; refine (affine_clamp.cn (by assumption : Aside0 _).out).mono ?_; rintro e w' ⟨rfl, hb⟩; (with_reducible first | replace hb := zkd hb | replace hb := zkn hb | replace hb := zk hb); obtain ⟨hb, hc, hf⟩ := hb; have hy := zy w w'; simp only [zL, Nat.add_zero] at hy; have hy := zy wr w'; simp only [zL, Nat.add_zero] at hy; try (have hy := zy wB w'; simp only [zL, Nat.add_zero] at hy))
              | (go_at_call 50; refine (field_RightCx.cn (by assumption : Aside0 _).out).mono ?_; rintro e w' ⟨rfl, hb⟩; (with_reducible first | replace hb := zkd hb | replace hb := zkn hb | replace hb := zk hb); obtain ⟨hb, hc, hf⟩ := hb; have hy := zy w w'; simp only [zL, Nat.add_zero] at hy; have hy := zy wr w'; simp only [zL, Nat.add_zero] at hy; try (have hy := zy wB w'; simp only [zL, Nat.add_zero] at hy))
              | (go_at_call 24; refine (field_RightRGBA.cn (by assumption : Aside0 _).out).mono ?_; rintro e wB ⟨rfl, hb⟩; (with_reducible first | replace hb := zkd hb | replace hb := zkn hb | replace hb := zk hb); obtain ⟨hb, hc, hf⟩ := hb; have hy := zy w wB; simp only [zL, Nat.add_zero] at hy; have hy := zy wr wB; simp only [zL, Nat.add_zero] at hy)
              | ((with_reducible refine zq ?_); refine rS 16 affine_Color.O7 [15] (by kernel_rfl) (by rfl) affine_Color.tab7 (fun HT => ?_); (repeat (first | (refine rP HT.out rfl rfl (v := undef) (a' := ?_) (by kernel_rfl) (fun _ _ _ h => h) (Or.inr ⟨by rfl, rfl⟩) ?_ ?_; rotate_left; (show Act.put _ (some _) _ = _; simp only [Act.put, q1, q2, q3, i64_w, i32_w]; rfl)) | (refine rP HT.out rfl rfl (v := ?_) (a' := ?_) (by kernel_rfl) (fun _ _ _ h => h) (Or.inl ⟨by rfl, ?_⟩) ?_ ?_; rotate_left 2; (intro w'; go_simp; with_reducible rfl); (show Act.put _ (some _) _ = _; simp only [Act.put, q1, q2, q3, i64_w, i32_w]; rfl)) | (refine rT HT.out rfl rfl (v := ?_) (a' := ?_) (by kernel_rfl) (fun _ _ _ h => h) (Or.inl ⟨by rfl, ?_⟩) (by infer_instance) ?_ ?_; rotate_left 2; (intro w' hS; obtain ⟨hc, hf⟩ := rH hS; go_simp; with_reducible rfl); (show Act.put _ (some _) _ = _; simp only [Act.put, q1, q2, q3, i64_w, i32_w]; rfl)) | (refine rO HT.out rfl (by rfl) (by decide) (by rfl) (fun K hK => ?_); go_wp2_with (first | (go_at_call 51; refine (affine_clamp.cn (by assumption : Aside0 _).out).mono ?_; rintro e w' ⟨rfl, hb⟩; (with_reducible first | replace hb := zkd hb | replace hb := zkn hb | replace hb := zk hb); obtain ⟨hb, hc, hf⟩ := hb; have hy := zy w w'; simp only [zL, Nat.add_zero] at hy; have hy := zy wr w'; simp only [zL, Nat.add_zero] at hy; try (have hy := zy wB w'; simp only [zL, Nat.add_zero] at hy)) | (go_at_call 50; refine (field_RightCx.cn (by assumption : Aside0 _).out).mono ?_; rintro e w' ⟨rfl, hb⟩; (with_reducible first | replace hb := zkd hb | replace hb := zkn hb | replace hb := zk hb); obtain ⟨hb, hc, hf⟩ := hb; have hy := zy w w'; simp only [zL, Nat.add_zero] at hy; have hy := zy wr w'; simp only [zL, Nat.add_zero] at hy; try (have hy := zy wB w'; simp only [zL, Nat.add_zero] at hy)) | (go_at_call 24; refine (field_RightRGBA.cn (by assumption : Aside0 _).out).mono ?_; rintro e wB ⟨rfl, hb⟩; (with_reducible first | replace hb := zkd hb | replace hb := zkn hb | replace hb := zk hb); obtain ⟨hb, hc, hf⟩ := hb; have hy := zy w wB; simp only [zL, Nat.add_zero] at hy; have hy := zy wr wB; simp only [zL, Nat.add_zero] at hy)); refine Shut.out hK _ _ (by infer_instance) ?_) | (refine rL HT.out rfl (by rfl) (by decide) (by rfl) (fun K hK => ?_); go_wp2_with (first | (go_at_call 51; refine (affine_clamp.cn (by assumption : Aside0 _).out).mono ?_; rintro e w' ⟨rfl, hb⟩; (with_reducible first | replace hb := zkd hb | replace hb := zkn hb | replace hb := zk hb); obtain ⟨hb, hc, hf⟩ := hb; have hy := zy w w'; simp only [zL, Nat.add_zero] at hy; have hy := zy wr w'; simp only [zL, Nat.add_zero] at hy; try (have hy := zy wB w'; simp only [zL, Nat.add_zero] at hy)) | (go_at_call 50; refine (field_RightCx.cn (by assumption : Aside0 _).out).mono ?_; rintro e w' ⟨rfl, hb⟩; (with_reducible first | replace hb := zkd hb | replace hb := zkn hb | replace hb := zk hb); obtain ⟨hb, hc, hf⟩ := hb; have hy := zy w w'; simp only [zL, Nat.add_zero] at hy; have hy := zy wr w'; simp only [zL, Nat.add_zero] at hy; try (have hy := zy wB w'; simp only [zL, Nat.add_zero] at hy)) | (go_at_call 24; refine (field_RightRGBA.cn (by assumption : Aside0 _).out).mono ?_; rintro e wB ⟨rfl, hb⟩; (with_reducible first | replace hb := zkd hb | replace hb := zkn hb | replace hb := zk hb); obtain ⟨hb, hc, hf⟩ := hb; have hy := zy w wB; simp only [zL, Nat.add_zero] at hy; have hy := zy wr wB; simp only [zL, Nat.add_zero] at hy)); refine Shut.out hK _ _ ?_))); refine rD HT.out (by kernel_rfl) ?_))
          all_goals first
            | (first | (go_ret; exact ⟨rfl, Bw.out⟩) | (go_ret3; exact ⟨rfl, Bw.out⟩) | (refine bodyPost_ret (v := ?_) ?_ rfl ?_; rotate_left 2; (refine ⟨?_, Bw.out⟩; rfl); exact results_cell_row rfl _ _ _ 23 _ (0, 0) _ rfl (by (with_reducible repeat (first | exact (by assumption : Aside0 _).out | (focus (refine znew ?_; simp only [World.size_alloc, World.heap_drewN, heap_drew]; done)) | refine blk_alloc ?_ _ | refine blk_drewN ?_ _ | refine blk_drew ?_ | refine blk_below ?_ Bs.out | apply zput | (refine zfar ?_ ?_; (focus omega)))) <;> rfl) Try.underlying23 rfl (by kernel_rfl)))
            | (go_roundg k1
               case measure => have := HK1.out; omega
               case rel => exact ⟨_, _, _, _, _, rfl, H', ⟨by have := HK1.out; omega⟩, ⟨by (with_reducible repeat (first | exact (by assumption : Aside0 _).out | (focus (refine znew ?_; simp only [World.size_alloc, World.heap_drewN, heap_drew]; done)) | refine blk_alloc ?_ _ | refine blk_drewN ?_ _ | refine blk_drew ?_ | refine blk_below ?_ Bs.out | apply zput | (refine zfar ?_ ?_; (focus omega)))) <;> rfl⟩, ⟨by (with_reducible repeat (first | exact (by assumption : Aside0 _).out | (focus (refine znew ?_; simp only [World.size_alloc, World.heap_drewN, heap_drew]; done)) | refine blk_alloc ?_ _ | refine blk_drewN ?_ _ | refine blk_drew ?_ | refine blk_below ?_ Bs.out | apply zput | (refine zfar ?_ ?_; (focus omega)))) <;> rfl⟩, ⟨by (with_reducible repeat (first | exact (by assumption : Aside0 _).out | (focus (refine znew ?_; simp only [World.size_alloc, World.heap_drewN, heap_drew]; done)) | refine blk_alloc ?_ _ | refine blk_drewN ?_ _ | refine blk_drew ?_ | refine blk_below ?_ Bs.out | apply zput | (refine zfar ?_ ?_; (focus omega)))) <;> rfl⟩, ⟨by (with_reducible repeat (first | exact (by assumption : Aside0 _).out | (focus (refine znew ?_; simp only [World.size_alloc, World.heap_drewN, heap_drew]; done)) | refine blk_alloc ?_ _ | refine blk_drewN ?_ _ | refine blk_drew ?_ | refine blk_below ?_ Bs.out | apply zput | (refine zfar ?_ ?_; (focus omega)))) <;> rfl⟩, ⟨Bw.out⟩⟩))

end Go.Proofs.Ytmdfcinjmlagcaa.P
