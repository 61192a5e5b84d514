/- Walks by cw.py (wip/tool): plain functions that tell what the program answers, and the proofs that the program comes to these answers, for all arguments of their kinds. -/
import Derived.Test.YtlldbmodidhidaaCx2
namespace Go.Proofs.Ytlldbmodidhidaa.P
open Go.RowKit Go.Proofs.YtlldbmodidhidaaW.PrintWords Go.Proofs.YtlldbmodidhidaaW.PrintLast Go.Proofs.YtlldbmodidhidaaW.PrintMore
attribute [local go_sem] max2_int min2_int max_two min_two max_three min_three max_four min_four max_five min_five max_six min_six
set_option linter.unusedVariables false
set_option linter.unusedSimpArgs false

/-! ### shape_RightRecords: function 32 -/
mutual
def shape_RightRecords.j0 : Nat → Int → Int → List (S49) → Int → Bool → Option (Bool)
  | 0, _, _, _, _, _ => none
  | k + 1, x0, x1, x2, x3, x26 => if x26 = true then (some false) else (shape_RightRecords.l0 k x0 x1 x3 x2 (x2.length : Int) 0)
def shape_RightRecords.l0 : Nat → Int → Int → Int → List (S49) → Int → Int → Option (Bool)
  | 0, _, _, _, _, _, _ => none
  | k + 1, x0, x1, x3, x27, x28, x29 => if x29 < x28 then (if 0 ≤ x29 then (if x29 < (x27.length : Int) then ((shape_sound.f k ((rd_T49 x27 x29).f0) ((rd_T49 x27 x29).f1) ((rd_T49 x27 x29).f2) ((rd_T49 x27 x29).f3) ((rd_T49 x27 x29).f4) ((rd_T49 x27 x29).f5) ((rd_T49 x27 x29).f6) ((rd_T49 x27 x29).f7) ((rd_T49 x27 x29).f8) ((rd_T49 x27 x29).f9) x0 x1).bind fun t206 => (if t206 = true then (if ((rd_T49 x27 x29).f0) = 3 then (if x3 = 0 then (if ((rd_T49 x27 x29).f0) = 2 then (shape_RightRecords.j2 k x0 x1 x3 x27 x28 x29 (x3 == 2) ((rd_T49 x27 x29).f0) ((rd_T49 x27 x29).f1) ((rd_T49 x27 x29).f2) ((rd_T49 x27 x29).f3) ((rd_T49 x27 x29).f4) ((rd_T49 x27 x29).f5) ((rd_T49 x27 x29).f6) ((rd_T49 x27 x29).f7) ((rd_T49 x27 x29).f8) ((rd_T49 x27 x29).f9)) else (shape_RightRecords.j2 k x0 x1 x3 x27 x28 x29 false ((rd_T49 x27 x29).f0) ((rd_T49 x27 x29).f1) ((rd_T49 x27 x29).f2) ((rd_T49 x27 x29).f3) ((rd_T49 x27 x29).f4) ((rd_T49 x27 x29).f5) ((rd_T49 x27 x29).f6) ((rd_T49 x27 x29).f7) ((rd_T49 x27 x29).f8) ((rd_T49 x27 x29).f9))) else (shape_RightRecords.j2 k x0 x1 x3 x27 x28 x29 true ((rd_T49 x27 x29).f0) ((rd_T49 x27 x29).f1) ((rd_T49 x27 x29).f2) ((rd_T49 x27 x29).f3) ((rd_T49 x27 x29).f4) ((rd_T49 x27 x29).f5) ((rd_T49 x27 x29).f6) ((rd_T49 x27 x29).f7) ((rd_T49 x27 x29).f8) ((rd_T49 x27 x29).f9))) else (if ((rd_T49 x27 x29).f0) = 2 then (shape_RightRecords.j2 k x0 x1 x3 x27 x28 x29 (x3 == 2) ((rd_T49 x27 x29).f0) ((rd_T49 x27 x29).f1) ((rd_T49 x27 x29).f2) ((rd_T49 x27 x29).f3) ((rd_T49 x27 x29).f4) ((rd_T49 x27 x29).f5) ((rd_T49 x27 x29).f6) ((rd_T49 x27 x29).f7) ((rd_T49 x27 x29).f8) ((rd_T49 x27 x29).f9)) else (shape_RightRecords.j2 k x0 x1 x3 x27 x28 x29 false ((rd_T49 x27 x29).f0) ((rd_T49 x27 x29).f1) ((rd_T49 x27 x29).f2) ((rd_T49 x27 x29).f3) ((rd_T49 x27 x29).f4) ((rd_T49 x27 x29).f5) ((rd_T49 x27 x29).f6) ((rd_T49 x27 x29).f7) ((rd_T49 x27 x29).f8) ((rd_T49 x27 x29).f9)))) else (shape_RightRecords.j2 k x0 x1 x3 x27 x28 x29 true ((rd_T49 x27 x29).f0) ((rd_T49 x27 x29).f1) ((rd_T49 x27 x29).f2) ((rd_T49 x27 x29).f3) ((rd_T49 x27 x29).f4) ((rd_T49 x27 x29).f5) ((rd_T49 x27 x29).f6) ((rd_T49 x27 x29).f7) ((rd_T49 x27 x29).f8) ((rd_T49 x27 x29).f9)))) else (none)) else (none)) else (some true)
def shape_RightRecords.j2 : Nat → Int → Int → Int → List (S49) → Int → Int → Bool → Int → Int → Int → Int → Int → Int → Int → Int → List (S65) → List (S79) → Option (Bool)
  | 0, _, _, _, _, _, _, _, _, _, _, _, _, _, _, _, _, _ => none
  | k + 1, x0, x1, x3, x27, x28, x29, x55, x206000, x206001, x206002, x206003, x206004, x206005, x206006, x206007, x206008, x206009 => if x55 = true then (some false) else (if x206000 = 3 then (shape_RightRecords.l0 k (x206008.length : Int) (x206009.length : Int) x3 x27 x28 (wrap64 (x29 + 1))) else (shape_RightRecords.l0 k x0 x1 x3 x27 x28 (wrap64 (x29 + 1))))
end
def shape_RightRecords.f (k : Nat) (a0 : Int) (a1 : Int) (l2 : List (S49)) (a3 : Int) : Option (Bool) := (shape_within.f 0 15 (([a0, a1] : List Int))).bind fun t199 => (if t199 = true then ((shape_within.f 0 2 (([a3] : List Int))).bind fun t203 => (if t203 = true then (shape_RightRecords.j0 k a0 a1 l2 a3 (decide ((l2.length : Int) > 512))) else (shape_RightRecords.j0 k a0 a1 l2 a3 true))) else (shape_RightRecords.j0 k a0 a1 l2 a3 true))
theorem shape_RightRecords.mono_l : ∀ k, (∀ y0 y1 y2 y3 y4, LeO (shape_RightRecords.j0 k y0 y1 y2 y3 y4) (shape_RightRecords.j0 (k + 1) y0 y1 y2 y3 y4)) ∧ (∀ y0 y1 y2 y3 y4 y5, LeO (shape_RightRecords.l0 k y0 y1 y2 y3 y4 y5) (shape_RightRecords.l0 (k + 1) y0 y1 y2 y3 y4 y5)) ∧ (∀ y0 y1 y2 y3 y4 y5 y6 y7 y8 y9 y10 y11 y12 y13 y14 y15 y16, LeO (shape_RightRecords.j2 k y0 y1 y2 y3 y4 y5 y6 y7 y8 y9 y10 y11 y12 y13 y14 y15 y16) (shape_RightRecords.j2 (k + 1) y0 y1 y2 y3 y4 y5 y6 y7 y8 y9 y10 y11 y12 y13 y14 y15 y16))
  | 0 => ⟨fun _ _ _ _ _ r h => by simp [shape_RightRecords.j0] at h, fun _ _ _ _ _ _ r h => by simp [shape_RightRecords.l0] at h, fun _ _ _ _ _ _ _ _ _ _ _ _ _ _ _ _ _ r h => by simp [shape_RightRecords.j2] at h⟩
  | k + 1 => by
    obtain ⟨ih0, ih1, ih2⟩ := shape_RightRecords.mono_l k
    refine ⟨?_, ?_, ?_⟩
    · intro y0 y1 y2 y3 y4
      unfold shape_RightRecords.j0
      repeat' first
      | with_reducible exact ih0 _ _ _ _ _
      | with_reducible exact ih1 _ _ _ _ _ _
      | with_reducible exact ih2 _ _ _ _ _ _ _ _ _ _ _ _ _ _ _ _ _
      | with_reducible exact shape_sound.mono _ _ _ _ _ _ _ _ _ _ _ _ _
      | with_reducible exact LeO.refl _
      | with_reducible exact LeO.none _
      | with_reducible refine LeO.ite ?_ ?_
      | with_reducible refine LeO.bind ?_ (fun _ => ?_)
    · intro y0 y1 y2 y3 y4 y5
      unfold shape_RightRecords.l0
      repeat' first
      | with_reducible exact ih0 _ _ _ _ _
      | with_reducible exact ih1 _ _ _ _ _ _
      | with_reducible exact ih2 _ _ _ _ _ _ _ _ _ _ _ _ _ _ _ _ _
      | with_reducible exact shape_sound.mono _ _ _ _ _ _ _ _ _ _ _ _ _
      | with_reducible exact LeO.refl _
      | with_reducible exact LeO.none _
      | with_reducible refine LeO.ite ?_ ?_
      | with_reducible refine LeO.bind ?_ (fun _ => ?_)
    · intro y0 y1 y2 y3 y4 y5 y6 y7 y8 y9 y10 y11 y12 y13 y14 y15 y16
      unfold shape_RightRecords.j2
      repeat' first
      | with_reducible exact ih0 _ _ _ _ _
      | with_reducible exact ih1 _ _ _ _ _ _
      | with_reducible exact ih2 _ _ _ _ _ _ _ _ _ _ _ _ _ _ _ _ _
      | with_reducible exact shape_sound.mono _ _ _ _ _ _ _ _ _ _ _ _ _
      | with_reducible exact LeO.refl _
      | with_reducible exact LeO.none _
      | with_reducible refine LeO.ite ?_ ?_
      | with_reducible refine LeO.bind ?_ (fun _ => ?_)
theorem shape_RightRecords.mono : ∀ a0 a1 a2 a3 k, LeO (shape_RightRecords.f k a0 a1 a2 a3) (shape_RightRecords.f (k + 1) a0 a1 a2 a3) := by
  intro a0 a1 a2 a3 k
  obtain ⟨ih0, ih1, ih2⟩ := shape_RightRecords.mono_l k
  unfold shape_RightRecords.f
  repeat' first
      | with_reducible exact ih0 _ _ _ _ _
      | with_reducible exact ih1 _ _ _ _ _ _
      | with_reducible exact ih2 _ _ _ _ _ _ _ _ _ _ _ _ _ _ _ _ _
      | with_reducible exact shape_sound.mono _ _ _ _ _ _ _ _ _ _ _ _ _
      | with_reducible exact LeO.refl _
      | with_reducible exact LeO.none _
      | with_reducible refine LeO.ite ?_ ?_
      | with_reducible refine LeO.bind ?_ (fun _ => ?_)
set_option maxHeartbeats 8000000 in
set_option maxRecDepth 100000 in
theorem shape_RightRecords.cn {a0 a1 a3 : Int} {k : Nat} {A2 : Option Addr} {n2 c2 : Nat} {l2 : List (S49)} {r : Bool} {w : World} (h : shape_RightRecords.f k a0 a1 l2 a3 = some r) (hr2 : Kd.C k49 w A2 n2 l2) (hc2 : n2 ≤ c2) :
    Calls Try.prog 32 #[.int .i64 a0, .int .i64 a1, .slice A2 n2 c2, .int .i64 a3] w fun e w' => e = .returned (.bool r) ∧ Below w.heap.size w w' := by
  obtain rfl := hr2.1
  have HC2 := za hr2; have HL2 := za hc2; clear hr2 hc2
  have hu49 := Try.underlying49
  unfold shape_RightRecords.f at h
  repeat' first
    | (with_reducible replace h := zs h)
    | (with_reducible replace h := zez h (by assumption) (by decide))
    | (with_reducible replace h := zb h; obtain ⟨t, A, h⟩ := h)
    | (with_reducible first | replace h := z1 h | replace h := z0 h | replace h := zep h (by assumption) | replace h := zen h (by assumption) | replace h := zcp h (by assumption) | replace h := zcn h (by assumption) | replace h := zbp h (by assumption) | replace h := zbn h (by assumption))
    | (with_reducible (first | replace h := zx h | replace h := zt h); obtain ⟨rfl, h⟩ | ⟨rfl, h⟩ := h)
    | (with_reducible (first | replace h := zd h | replace h := zl h | replace h := zm h); obtain ⟨c, h⟩ | ⟨c, h⟩ := h)
    | (with_reducible (first | replace h := ze h | replace h := zg h); obtain ⟨c, c', h⟩ | ⟨c, c', h⟩ := h)
    | (with_reducible replace h := zt h; obtain ⟨c, h⟩ | ⟨c, h⟩ := h)
    | (with_reducible replace h := Option.some.inj h; subst h)
    | (with_reducible exact (zn h).elim)
    | (obtain _ | k := k; exact absurd h (by simp [shape_RightRecords.j0, shape_RightRecords.j2]); simp only [shape_RightRecords.j0, shape_RightRecords.j2, if_true, if_false, Bool.false_eq_true] at h)
  all_goals
    try (have H' := za h; clear h)
    go_enter Try.func32, Try.ntmps32
    go_wp2_with (first
      | ((with_reducible refine zq ?_); first | go_quiet (fail))
      | (go_at_call 47; refine (shape_sound.cn (by assumption : Aside0 _).out ?_ ?_ ?_ ?_).mono ?_; (focus with_reducible first | exact znil | exact zC (by assumption)); (first | exact Nat.le_refl _ | exact (by assumption : Aside0 _).out); (focus with_reducible first | exact znil | exact zC (by assumption)); (first | exact Nat.le_refl _ | exact (by assumption : Aside0 _).out); rintro e w' ⟨rfl, hb⟩; obtain ⟨hb, hc, hf⟩ := zk hb; have hy := zy w w'; simp only [zL, Nat.add_zero] at hy)
      | (go_at_call 29; refine (shape_within.cn (by assumption : Aside0 _).out ?_ ?_).mono ?_; (focus first | with_reducible exact zC (by assumption) | (with_reducible first | refine zlit1 (t := 3) ?_ | refine zlit2 (t := 3) ?_ | refine zlit3 (t := 3) ?_ | refine zlit4 (t := 3) ?_ | refine zlit6 (t := 3) ?_); ((with_reducible repeat (first | exact (by assumption : Aside0 _).out | (refine znew ?_; simp only [World.size_alloc, World.heap_drewN, heap_drew]; done) | refine blk_alloc ?_ _ | refine blk_drewN ?_ _ | refine blk_drew ?_ | refine blk_below ?_ Bs.out | apply zput | (refine zfar ?_ ?_; (focus omega)))) <;> rfl); done); (first | exact Nat.le_refl _ | exact (by assumption : Aside0 _).out); rintro e w' ⟨rfl, hb⟩; obtain ⟨hb, hc, hf⟩ := zk hb; have hy := zy w w'; simp only [zL, Nat.add_zero] at hy))
  all_goals first
    | (go_ret; exact ⟨rfl, Bw.out⟩)
    | (go_loopg [0, 1, 29] k (fun kq v0 v1 v29 w' => ∃ (x0_2 : Int) (x1_2 : Int) (x29_2 : Int), v0 = .int .i64 x0_2 ∧ v1 = .int .i64 x1_2 ∧ v29 = .int .i64 x29_2 ∧ Aside0 (shape_RightRecords.l0 kq x0_2 x1_2 a3 l2 (l2.length : Int) x29_2 = some r) ∧ Aside0 (kq ≤ k) ∧ Aside0 (Below w.heap.size w w'))
       case atStart => exact ⟨_, _, _, rfl, rfl, rfl, H', ⟨Nat.le_refl _⟩, ⟨Bw.out⟩⟩
       case round =>
        obtain ⟨x0_2, x1_2, x29_2, rfl, rfl, rfl, HA, HK1, HB⟩ := hrel
        have HB := Bw.mk HB.out; clear H'
        cases gk with
        | zero => exact absurd HA.out (by simp [shape_RightRecords.l0])
        | succ k1 =>
          have h := HA.out; clear HA; simp only [shape_RightRecords.l0] at h
          repeat' first
            | (with_reducible replace h := zs h)
            | (with_reducible replace h := zez h (by assumption) (by decide))
            | (with_reducible replace h := zb h; obtain ⟨t, A, h⟩ := h)
            | (with_reducible first | replace h := z1 h | replace h := z0 h | replace h := zep h (by assumption) | replace h := zen h (by assumption) | replace h := zcp h (by assumption) | replace h := zcn h (by assumption) | replace h := zbp h (by assumption) | replace h := zbn h (by assumption))
            | (with_reducible (first | replace h := zx h | replace h := zt h); obtain ⟨rfl, h⟩ | ⟨rfl, h⟩ := h)
            | (with_reducible (first | replace h := zd h | replace h := zl h | replace h := zm h); obtain ⟨c, h⟩ | ⟨c, h⟩ := h)
            | (with_reducible (first | replace h := ze h | replace h := zg h); obtain ⟨c, c', h⟩ | ⟨c, c', h⟩ := h)
            | (with_reducible replace h := zt h; obtain ⟨c, h⟩ | ⟨c, h⟩ := h)
            | (with_reducible replace h := Option.some.inj h; subst h)
            | (with_reducible exact (zn h).elim)
            | (obtain _ | k1 := k1; exact absurd h (by simp [shape_RightRecords.j0, shape_RightRecords.j2]); simp only [shape_RightRecords.j0, shape_RightRecords.j2, if_true, if_false, Bool.false_eq_true] at h)
          all_goals
            have HN : Lw w wr 0 := ⟨HB.out.size⟩
            try (refine zat49 (W := wr) HC2 x29_2 ?_ ?_ ?_; assumption; assumption; rintro ad ⟨⟩; intros)
            try (have H' := za h; clear h)
            go_wp2_with (first
              | ((with_reducible refine zq ?_); first | go_quiet (fail))
              | (go_at_call 47; refine (shape_sound.cn (by assumption : Aside0 _).out ?_ ?_ ?_ ?_).mono ?_; (focus with_reducible first | exact znil | exact zC (by assumption)); (first | exact Nat.le_refl _ | exact (by assumption : Aside0 _).out); (focus with_reducible first | exact znil | exact zC (by assumption)); (first | exact Nat.le_refl _ | exact (by assumption : Aside0 _).out); rintro e w' ⟨rfl, hb⟩; obtain ⟨hb, hc, hf⟩ := zk hb; have hy := zy w w'; simp only [zL, Nat.add_zero] at hy; have hy := zy wr w'; simp only [zL, Nat.add_zero] at hy)
              | (go_at_call 29; refine (shape_within.cn (by assumption : Aside0 _).out ?_ ?_).mono ?_; (focus first | with_reducible exact zC (by assumption) | (with_reducible first | refine zlit1 (t := 3) ?_ | refine zlit2 (t := 3) ?_ | refine zlit3 (t := 3) ?_ | refine zlit4 (t := 3) ?_ | refine zlit6 (t := 3) ?_); ((with_reducible repeat (first | exact (by assumption : Aside0 _).out | (refine znew ?_; simp only [World.size_alloc, World.heap_drewN, heap_drew]; done) | refine blk_alloc ?_ _ | refine blk_drewN ?_ _ | refine blk_drew ?_ | refine blk_below ?_ Bs.out | apply zput | (refine zfar ?_ ?_; (focus omega)))) <;> rfl); done); (first | exact Nat.le_refl _ | exact (by assumption : Aside0 _).out); rintro e w' ⟨rfl, hb⟩; obtain ⟨hb, hc, hf⟩ := zk hb; have hy := zy w w'; simp only [zL, Nat.add_zero] at hy; have hy := zy wr w'; simp only [zL, Nat.add_zero] at hy))
          all_goals first
            | (go_ret; exact ⟨rfl, Bw.out⟩)
            | (go_roundg k1
               case measure => have := HK1.out; omega
               case rel => exact ⟨_, _, _, rfl, rfl, rfl, H', ⟨by have := HK1.out; omega⟩, ⟨Bw.out⟩⟩))

/-! ### shape_Right: function 19 -/
def shape_Right.f (k : Nat) (a0_0 : Int) (a0_1 : Int) (a0_2 : Int) (a0_3 : Int) (a0_4 : Int) (l0_5 : List (S65)) (l0_6 : List (S79)) (l0_7 : List (S49)) : Option (Bool) := (shape_within.f 0 65535 (([a0_0] : List Int))).bind fun t211 => (if t211 = true then ((field_RightRect.f k a0_1 a0_2 a0_3 a0_4).bind fun t212 => (if t212 = true then ((style_Right.f k l0_5 l0_6).bind fun t213 => (if t213 = true then ((shape_RightRecords.f k (l0_5.length : Int) (l0_6.length : Int) l0_7 0).bind fun t214 => (some t214)) else (some false))) else (some false))) else (some false))
theorem shape_Right.mono : ∀ a0 a1 a2 a3 a4 a5 a6 a7 k, LeO (shape_Right.f k a0 a1 a2 a3 a4 a5 a6 a7) (shape_Right.f (k + 1) a0 a1 a2 a3 a4 a5 a6 a7) := by
  intro a0 a1 a2 a3 a4 a5 a6 a7 k
  unfold shape_Right.f
  repeat' first
      | with_reducible exact field_RightRect.mono _ _ _ _ _
      | with_reducible exact shape_RightRecords.mono _ _ _ _ _
      | with_reducible exact style_Right.mono _ _ _
      | with_reducible exact LeO.refl _
      | with_reducible exact LeO.none _
      | with_reducible refine LeO.ite ?_ ?_
      | with_reducible refine LeO.bind ?_ (fun _ => ?_)
set_option maxHeartbeats 8000000 in
set_option maxRecDepth 100000 in
theorem shape_Right.cn {a0_0 a0_1 a0_2 a0_3 a0_4 : Int} {k : Nat} {A0_5 : Option Addr} {n0_5 c0_5 : Nat} {l0_5 : List (S65)} {A0_6 : Option Addr} {n0_6 c0_6 : Nat} {l0_6 : List (S79)} {A0_7 : Option Addr} {n0_7 c0_7 : Nat} {l0_7 : List (S49)} {r : Bool} {w : World} (h : shape_Right.f k a0_0 a0_1 a0_2 a0_3 a0_4 l0_5 l0_6 l0_7 = some r) (hr0_5 : Kd.C k65 w A0_5 n0_5 l0_5) (hc0_5 : n0_5 ≤ c0_5) (hr0_6 : Kd.C k79 w A0_6 n0_6 l0_6) (hc0_6 : n0_6 ≤ c0_6) (hr0_7 : Kd.C k49 w A0_7 n0_7 l0_7) (hc0_7 : n0_7 ≤ c0_7) :
    Calls Try.prog 19 #[.agg #[.int .i64 a0_0, .int .i64 a0_1, .int .i64 a0_2, .int .i64 a0_3, .int .i64 a0_4, .slice A0_5 n0_5 c0_5, .slice A0_6 n0_6 c0_6, .slice A0_7 n0_7 c0_7]] w fun e w' => e = .returned (.bool r) ∧ Below w.heap.size w w' := by
  obtain rfl := hr0_5.1
  obtain rfl := hr0_6.1
  obtain rfl := hr0_7.1
  have HC0_5 := za hr0_5; have HL0_5 := za hc0_5; clear hr0_5 hc0_5
  have HC0_6 := za hr0_6; have HL0_6 := za hc0_6; clear hr0_6 hc0_6
  have HC0_7 := za hr0_7; have HL0_7 := za hc0_7; clear hr0_7 hc0_7
  have hu23 := Try.underlying23
  have hu28 := Try.underlying28
  unfold shape_Right.f at h
  repeat' first
    | (with_reducible replace h := zs h)
    | (with_reducible replace h := zez h (by assumption) (by decide))
    | (with_reducible replace h := zb h; obtain ⟨t, A, h⟩ := h)
    | (with_reducible first | replace h := z1 h | replace h := z0 h | replace h := zep h (by assumption) | replace h := zen h (by assumption) | replace h := zcp h (by assumption) | replace h := zcn h (by assumption) | replace h := zbp h (by assumption) | replace h := zbn h (by assumption))
    | (with_reducible (first | replace h := zx h | replace h := zt h); obtain ⟨rfl, h⟩ | ⟨rfl, h⟩ := h)
    | (with_reducible (first | replace h := zd h | replace h := zl h | replace h := zm h); obtain ⟨c, h⟩ | ⟨c, h⟩ := h)
    | (with_reducible (first | replace h := ze h | replace h := zg h); obtain ⟨c, c', h⟩ | ⟨c, c', h⟩ := h)
    | (with_reducible replace h := zt h; obtain ⟨c, h⟩ | ⟨c, h⟩ := h)
    | (with_reducible replace h := Option.some.inj h; subst h)
    | (with_reducible exact (zn h).elim)
  all_goals
    try (have H' := za h; clear h)
    go_enter Try.func19, Try.ntmps19
    go_wp2_with (first
      | ((with_reducible refine zq ?_); first | go_quiet (fail))
      | (go_at_call 30; refine (field_RightRect.cn (by assumption : Aside0 _).out).mono ?_; rintro e w' ⟨rfl, hb⟩; obtain ⟨hb, hc, hf⟩ := zk hb; have hy := zy w w'; simp only [zL, Nat.add_zero] at hy)
      | (go_at_call 32; refine (shape_RightRecords.cn (by assumption : Aside0 _).out ?_ ?_).mono ?_; (focus with_reducible first | exact znil | exact zC (by assumption)); (first | exact Nat.le_refl _ | exact (by assumption : Aside0 _).out); rintro e w' ⟨rfl, hb⟩; obtain ⟨hb, hc, hf⟩ := zk hb; have hy := zy w w'; simp only [zL, Nat.add_zero] at hy)
      | (go_at_call 29; refine (shape_within.cn (by assumption : Aside0 _).out ?_ ?_).mono ?_; (focus first | with_reducible exact zC (by assumption) | (with_reducible first | refine zlit1 (t := 3) ?_ | refine zlit2 (t := 3) ?_ | refine zlit3 (t := 3) ?_ | refine zlit4 (t := 3) ?_ | refine zlit6 (t := 3) ?_); ((with_reducible repeat (first | exact (by assumption : Aside0 _).out | (refine znew ?_; simp only [World.size_alloc, World.heap_drewN, heap_drew]; done) | refine blk_alloc ?_ _ | refine blk_drewN ?_ _ | refine blk_drew ?_ | refine blk_below ?_ Bs.out | apply zput | (refine zfar ?_ ?_; (focus omega)))) <;> rfl); done); (first | exact Nat.le_refl _ | exact (by assumption : Aside0 _).out); rintro e w' ⟨rfl, hb⟩; obtain ⟨hb, hc, hf⟩ := zk hb; have hy := zy w w'; simp only [zL, Nat.add_zero] at hy)
      | (go_at_call 31; refine (style_Right.cn (by assumption : Aside0 _).out ?_ ?_ ?_ ?_).mono ?_; (focus with_reducible first | exact znil | exact zC (by assumption)); (first | exact Nat.le_refl _ | exact (by assumption : Aside0 _).out); (focus with_reducible first | exact znil | exact zC (by assumption)); (first | exact Nat.le_refl _ | exact (by assumption : Aside0 _).out); rintro e w' ⟨rfl, hb⟩; obtain ⟨hb, hc, hf⟩ := zk hb; have hy := zy w w'; simp only [zL, Nat.add_zero] at hy))
  all_goals first
    | (go_ret; exact ⟨rfl, Bw.out⟩)
theorem shape_Right.calls (k : Nat) (a0_0 : Int) (a0_1 : Int) (a0_2 : Int) (a0_3 : Int) (a0_4 : Int) (A0_5 : Option Addr) (c0_5 : Nat) (l0_5 : List (S65)) (A0_6 : Option Addr) (c0_6 : Nat) (l0_6 : List (S79)) (A0_7 : Option Addr) (c0_7 : Nat) (l0_7 : List (S49)) (r : Bool) (w : World) (hr0_5 : Kd.C k65 w A0_5 l0_5.length l0_5) (hc0_5 : l0_5.length ≤ c0_5) (hr0_6 : Kd.C k79 w A0_6 l0_6.length l0_6) (hc0_6 : l0_6.length ≤ c0_6) (hr0_7 : Kd.C k49 w A0_7 l0_7.length l0_7) (hc0_7 : l0_7.length ≤ c0_7) (h : shape_Right.f k a0_0 a0_1 a0_2 a0_3 a0_4 l0_5 l0_6 l0_7 = some r) :
    Calls Try.prog 19 #[.agg #[.int .i64 a0_0, .int .i64 a0_1, .int .i64 a0_2, .int .i64 a0_3, .int .i64 a0_4, .slice A0_5 l0_5.length c0_5, .slice A0_6 l0_6.length c0_6, .slice A0_7 l0_7.length c0_7]] w fun e w' => e = .returned (.bool r) ∧ Below w.heap.size w w' := shape_Right.cn h hr0_5 hc0_5 hr0_6 hc0_6 hr0_7 hc0_7

/-! ### edge_style: function 20 -/
def edge_style.f (a0 : Int) (a1 : Int) (a2 : Int) : Option (Int) := if a1 < 0 then (some a0) else (if a1 = 0 then (some 0) else (some (wrap64 (a2 + a1))))

set_option maxHeartbeats 8000000 in
set_option maxRecDepth 100000 in
theorem edge_style.cn {a0 a1 a2 r : Int} {w : World} (h : edge_style.f a0 a1 a2 = some r) :
    Calls Try.prog 20 #[.int .i64 a0, .int .i64 a1, .int .i64 a2] w fun e w' => e = .returned (.int .i64 r) ∧ Drawn0 w w' := by
  have HB := Drawn0.refl w
  unfold edge_style.f at h
  repeat' first
    | (with_reducible replace h := zs h)
    | (with_reducible replace h := zez h (by assumption) (by decide))
    | (with_reducible replace h := zb h; obtain ⟨t, A, h⟩ := h)
    | (with_reducible first | replace h := z1 h | replace h := z0 h | replace h := zep h (by assumption) | replace h := zen h (by assumption) | replace h := zcp h (by assumption) | replace h := zcn h (by assumption) | replace h := zbp h (by assumption) | replace h := zbn h (by assumption))
    | (with_reducible (first | replace h := zx h | replace h := zt h); obtain ⟨rfl, h⟩ | ⟨rfl, h⟩ := h)
    | (with_reducible (first | replace h := zd h | replace h := zl h | replace h := zm h); obtain ⟨c, h⟩ | ⟨c, h⟩ := h)
    | (with_reducible (first | replace h := ze h | replace h := zg h); obtain ⟨c, c', h⟩ | ⟨c, c', h⟩ := h)
    | (with_reducible replace h := zt h; obtain ⟨c, h⟩ | ⟨c, h⟩ := h)
    | (with_reducible replace h := Option.some.inj h; subst h)
    | (with_reducible exact (zn h).elim)
  all_goals
    try (have H' := za h; clear h)
    go_enter Try.func20, Try.ntmps20
    go_wp2_with (first
      | ((with_reducible refine zq ?_); first | go_quiet (fail)))
  all_goals first
    | (go_ret; exact ⟨rfl, by repeat (first | exact HB | exact Drawn0.refl _ | apply Drawn0.step)⟩)
theorem edge_style.calls (a0 : Int) (a1 : Int) (a2 : Int) (r : Int) (w : World) (h : edge_style.f a0 a1 a2 = some r) :
    Calls Try.prog 20 #[.int .i64 a0, .int .i64 a1, .int .i64 a2] w fun e w' => e = .returned (.int .i64 r) ∧ Drawn0 w w' := edge_style.cn h

/-! ### edge_plus: function 21 -/
def edge_plus.f (a0_0 : Int) (a0_1 : Int) (a1 : Int) (a2 : Int) : Option (Int × Int) := some (wrap64 (a0_0 + a1), wrap64 (a0_1 + a2))

set_option maxHeartbeats 8000000 in
set_option maxRecDepth 100000 in
theorem edge_plus.cn {a0_0 a0_1 a1 a2 r1 r2 : Int} {w : World} (h : edge_plus.f a0_0 a0_1 a1 a2 = some (r1, r2)) :
    Calls Try.prog 21 #[.agg #[.int .i64 a0_0, .int .i64 a0_1], .int .i64 a1, .int .i64 a2] w fun e w' => e = .returned (.agg #[.int .i64 r1, .int .i64 r2]) ∧ Below w.heap.size w w' := by
  have hu47 := Try.underlying47
  unfold edge_plus.f at h
  repeat' first
    | (with_reducible replace h := zs h)
    | (with_reducible replace h := zez h (by assumption) (by decide))
    | (with_reducible replace h := zb h; obtain ⟨t, A, h⟩ := h)
    | (with_reducible first | replace h := z1 h | replace h := z0 h | replace h := zep h (by assumption) | replace h := zen h (by assumption) | replace h := zcp h (by assumption) | replace h := zcn h (by assumption) | replace h := zbp h (by assumption) | replace h := zbn h (by assumption))
    | (with_reducible (first | replace h := zx h | replace h := zt h); obtain ⟨rfl, h⟩ | ⟨rfl, h⟩ := h)
    | (with_reducible (first | replace h := zd h | replace h := zl h | replace h := zm h); obtain ⟨c, h⟩ | ⟨c, h⟩ := h)
    | (with_reducible (first | replace h := ze h | replace h := zg h); obtain ⟨c, c', h⟩ | ⟨c, c', h⟩ := h)
    | (with_reducible replace h := zt h; obtain ⟨c, h⟩ | ⟨c, h⟩ := h)
    | (with_reducible replace h := Option.some.inj h; subst h)
    | (with_reducible exact (zn h).elim)
    | (simp only [Option.some.injEq, Prod.mk.injEq] at h; obtain ⟨rfl, rfl⟩ := h)
  all_goals
    try (have H' := za h; clear h)
    go_enter Try.func21, Try.ntmps21
    go_wp2_with (first
      | ((with_reducible refine zq ?_); first | go_quiet (fail)))
  all_goals first
    | (exact bodyPost_ret (v := .agg #[.int .i64 (wrap64 (a0_0 + a1)), .int .i64 (wrap64 (a0_1 + a2))]) (by simp [results, Try.results21, go_sem]) rfl ⟨rfl, Bw.out⟩)
theorem edge_plus.calls (a0_0 : Int) (a0_1 : Int) (a1 : Int) (a2 : Int) (r1 : Int) (r2 : Int) (w : World) (h : edge_plus.f a0_0 a0_1 a1 a2 = some (r1, r2)) :
    Calls Try.prog 21 #[.agg #[.int .i64 a0_0, .int .i64 a0_1], .int .i64 a1, .int .i64 a2] w fun e w' => e = .returned (.agg #[.int .i64 r1, .int .i64 r2]) ∧ Below w.heap.size w w' := edge_plus.cn h

end Go.Proofs.Ytlldbmodidhidaa.P
