/- Walks by cw.py (wip/tool): plain functions that tell what the program answers, and the proofs that the program comes to these answers, for all arguments of their kinds. -/
import Derived.Test.YtlldbmodidhidaaCw
import Derived.Test.YtlldbmodidhidaaPx7
namespace Go.Proofs.Ytlldbmodidhidaa.P
open Go.RowKit Go.Proofs.YtlldbmodidhidaaW.PrintWords Go.Proofs.YtlldbmodidhidaaW.PrintLast Go.Proofs.YtlldbmodidhidaaW.PrintMore
attribute [local go_sem] max2_int min2_int max_two min_two max_three min_three max_four min_four max_five min_five max_six min_six
set_option linter.unusedVariables false
set_option linter.unusedSimpArgs false
attribute [local go_sem high] eqA86

/-! ### celluloidref08_Small: function 17 -/
def celluloidref08_Small.l0 : Nat → List (S65) → List (S79) → Int → Option (Bool)
  | 0, _, _, _ => none
  | k + 1, x0, x1, x5 => if x5 < (x0.length : Int) then (if 0 ≤ x5 then (if (((rd_T65 x0 x5).f4).length : Int) > 20 then (some false) else (celluloidref08_Small.l0 k x0 x1 (wrap64 (x5 + 1)))) else (none)) else (if (x0.length : Int) < 30 then (some (decide ((x1.length : Int) < 30))) else (some false))
def celluloidref08_Small.f (k : Nat) (l0 : List (S65)) (l1 : List (S79)) : Option (Bool) := celluloidref08_Small.l0 k l0 l1 0
theorem celluloidref08_Small.mono_l : ∀ k, (∀ y0 y1 y2, LeO (celluloidref08_Small.l0 k y0 y1 y2) (celluloidref08_Small.l0 (k + 1) y0 y1 y2))
  | 0 => fun _ _ _ r h => by simp [celluloidref08_Small.l0] at h
  | k + 1 => by
    have ih0 := celluloidref08_Small.mono_l k
    · intro y0 y1 y2
      unfold celluloidref08_Small.l0
      repeat' first
      | with_reducible exact ih0 _ _ _
      | with_reducible exact LeO.refl _
      | with_reducible exact LeO.none _
      | with_reducible refine LeO.ite ?_ ?_
      | with_reducible refine LeO.bind ?_ (fun _ => ?_)
theorem celluloidref08_Small.mono : ∀ a0 a1 k, LeO (celluloidref08_Small.f k a0 a1) (celluloidref08_Small.f (k + 1) a0 a1) := by
  intro a0 a1 k
  have ih0 := celluloidref08_Small.mono_l k
  unfold celluloidref08_Small.f
  repeat' first
      | with_reducible exact ih0 _ _ _
      | with_reducible exact LeO.refl _
      | with_reducible exact LeO.none _
      | with_reducible refine LeO.ite ?_ ?_
      | with_reducible refine LeO.bind ?_ (fun _ => ?_)
set_option maxHeartbeats 8000000 in
set_option maxRecDepth 100000 in
theorem celluloidref08_Small.cn {k : Nat} {A0 : Option Addr} {n0 c0 : Nat} {l0 : List (S65)} {A1 : Option Addr} {n1 c1 : Nat} {l1 : List (S79)} {r : Bool} {w : World} (h : celluloidref08_Small.f k l0 l1 = some r) (hr0 : Kd.C k65 w A0 n0 l0) (hc0 : n0 ≤ c0) (hr1 : Kd.C k79 w A1 n1 l1) (hc1 : n1 ≤ c1) :
    Calls Try.prog 17 #[.slice A0 n0 c0, .slice A1 n1 c1] w fun e w' => e = .returned (.bool r) ∧ Drawn0 w w' := by
  obtain rfl := hr0.1
  obtain rfl := hr1.1
  have HC0 := za hr0; have HL0 := za hc0; clear hr0 hc0
  have HC1 := za hr1; have HL1 := za hc1; clear hr1 hc1
  have HB := Drawn0.refl w
  unfold celluloidref08_Small.f at h
  repeat' first
    | (with_reducible replace h := zs h)
    | (with_reducible replace h := zez h (by assumption) (by decide))
    | (with_reducible replace h := zb h; obtain ⟨t, A, h⟩ := h)
    | (with_reducible first | replace h := z1 h | replace h := z0 h | replace h := zep h (by assumption) | replace h := zen h (by assumption) | replace h := zcp h (by assumption) | replace h := zcn h (by assumption) | replace h := zbp h (by assumption) | replace h := zbn h (by assumption))
    | (with_reducible (first | replace h := zx h | replace h := zt h); obtain ⟨rfl, h⟩ | ⟨rfl, h⟩ := h)
    | (with_reducible (first | replace h := zd h | replace h := zl h | replace h := zm h); obtain ⟨c, h⟩ | ⟨c, h⟩ := h)
    | (with_reducible (first | replace h := ze h | replace h := zg h); obtain ⟨c, c', h⟩ | ⟨c, c', h⟩ := h)
    | (with_reducible replace h := zt h; obtain ⟨c, h⟩ | ⟨c, h⟩ := h)
    | (with_reducible replace h := Option.some.inj h; subst h)
    | (with_reducible exact (zn h).elim)
  all_goals
    try (have H' := za h; clear h)
    go_enter Try.func17, Try.ntmps17
    go_wp2_with (first
      | ((with_reducible refine zq ?_); first | go_quiet (fail)))
  all_goals first
    | (go_ret; exact ⟨rfl, by repeat (first | exact HB | exact Drawn0.refl _ | apply Drawn0.step)⟩)
    | (go_loopg [5] k (fun kq v5 w' => ∃ (x5_1 : Int), v5 = .int .i64 x5_1 ∧ Aside0 (celluloidref08_Small.l0 kq l0 l1 x5_1 = some r) ∧ Aside0 (kq ≤ k) ∧ Drawn0 w w')
       case atStart => exact ⟨_, rfl, H', ⟨Nat.le_refl _⟩, by repeat (first | exact HB | exact Drawn0.refl _ | apply Drawn0.step)⟩
       case round =>
        obtain ⟨x5_1, rfl, HA, HK1, HB⟩ := hrel
        have HW := Bw.mk HB.below; clear H'
        cases gk with
        | zero => exact absurd HA.out (by simp [celluloidref08_Small.l0])
        | succ k1 =>
          have h := HA.out; clear HA; simp only [celluloidref08_Small.l0] at h
          repeat' first
            | (with_reducible replace h := zs h)
            | (with_reducible replace h := zez h (by assumption) (by decide))
            | (with_reducible replace h := zb h; obtain ⟨t, A, h⟩ := h)
            | (with_reducible first | replace h := z1 h | replace h := z0 h | replace h := zep h (by assumption) | replace h := zen h (by assumption) | replace h := zcp h (by assumption) | replace h := zcn h (by assumption) | replace h := zbp h (by assumption) | replace h := zbn h (by assumption))
            | (with_reducible (first | replace h := zx h | replace h := zt h); obtain ⟨rfl, h⟩ | ⟨rfl, h⟩ := h)
            | (with_reducible (first | replace h := zd h | replace h := zl h | replace h := zm h); obtain ⟨c, h⟩ | ⟨c, h⟩ := h)
            | (with_reducible (first | replace h := ze h | replace h := zg h); obtain ⟨c, c', h⟩ | ⟨c, c', h⟩ := h)
            | (with_reducible replace h := zt h; obtain ⟨c, h⟩ | ⟨c, h⟩ := h)
            | (with_reducible replace h := Option.some.inj h; subst h)
            | (with_reducible exact (zn h).elim)
          all_goals
            have HN : Lw w wr 0 := ⟨HW.out.size⟩
            try (refine zat65 (W := wr) HC0 x5_1 ?_ ?_ ?_; assumption; assumption; rintro ad ⟨⟩; intros)
            try (have H' := za h; clear h)
            go_wp2_with (first
              | ((with_reducible refine zq ?_); first | go_quiet (fail)))
          all_goals first
            | (go_ret; exact ⟨rfl, by repeat (first | exact HB | exact Drawn0.refl _ | apply Drawn0.step)⟩)
            | (go_roundg k1
               case measure => have := HK1.out; omega
               case rel => exact ⟨_, rfl, H', ⟨by have := HK1.out; omega⟩, by repeat (first | exact HB | exact Drawn0.refl _ | apply Drawn0.step)⟩))

/-! ### celluloidref09_Small: function 18 -/
mutual
def celluloidref09_Small.l0 : Nat → List (S49) → Int → Int → Option (Bool)
  | 0, _, _, _ => none
  | k + 1, x0, x1, x5 => if x5 < (x0.length : Int) then (celluloidref09_Small.j1 k x0 x1 x5 (decide (x5 < x1))) else (celluloidref09_Small.j1 k x0 x1 x5 false)
def celluloidref09_Small.j1 : Nat → List (S49) → Int → Int → Bool → Option (Bool)
  | 0, _, _, _, _ => none
  | k + 1, x0, x1, x5, x14 => if x14 = true then (if 0 ≤ x5 then (if x5 < (x0.length : Int) then ((celluloidref08_Small.f k ((rd_T49 x0 x5).f8) ((rd_T49 x0 x5).f9)).bind fun t104 => (if t104 = true then (celluloidref09_Small.l0 k x0 x1 (wrap64 (x5 + 1))) else (some false))) else (none)) else (none)) else (some (decide ((x0.length : Int) ≤ x1)))
end
def celluloidref09_Small.f (k : Nat) (l0 : List (S49)) (a1 : Int) : Option (Bool) := celluloidref09_Small.l0 k l0 a1 0
theorem celluloidref09_Small.mono_l : ∀ k, (∀ y0 y1 y2, LeO (celluloidref09_Small.l0 k y0 y1 y2) (celluloidref09_Small.l0 (k + 1) y0 y1 y2)) ∧ (∀ y0 y1 y2 y3, LeO (celluloidref09_Small.j1 k y0 y1 y2 y3) (celluloidref09_Small.j1 (k + 1) y0 y1 y2 y3))
  | 0 => ⟨fun _ _ _ r h => by simp [celluloidref09_Small.l0] at h, fun _ _ _ _ r h => by simp [celluloidref09_Small.j1] at h⟩
  | k + 1 => by
    obtain ⟨ih0, ih1⟩ := celluloidref09_Small.mono_l k
    refine ⟨?_, ?_⟩
    · intro y0 y1 y2
      unfold celluloidref09_Small.l0
      repeat' first
      | with_reducible exact ih0 _ _ _
      | with_reducible exact ih1 _ _ _ _
      | with_reducible exact celluloidref08_Small.mono _ _ _
      | with_reducible exact LeO.refl _
      | with_reducible exact LeO.none _
      | with_reducible refine LeO.ite ?_ ?_
      | with_reducible refine LeO.bind ?_ (fun _ => ?_)
    · intro y0 y1 y2 y3
      unfold celluloidref09_Small.j1
      repeat' first
      | with_reducible exact ih0 _ _ _
      | with_reducible exact ih1 _ _ _ _
      | with_reducible exact celluloidref08_Small.mono _ _ _
      | with_reducible exact LeO.refl _
      | with_reducible exact LeO.none _
      | with_reducible refine LeO.ite ?_ ?_
      | with_reducible refine LeO.bind ?_ (fun _ => ?_)
theorem celluloidref09_Small.mono : ∀ a0 a1 k, LeO (celluloidref09_Small.f k a0 a1) (celluloidref09_Small.f (k + 1) a0 a1) := by
  intro a0 a1 k
  obtain ⟨ih0, ih1⟩ := celluloidref09_Small.mono_l k
  unfold celluloidref09_Small.f
  repeat' first
      | with_reducible exact ih0 _ _ _
      | with_reducible exact ih1 _ _ _ _
      | with_reducible exact celluloidref08_Small.mono _ _ _
      | with_reducible exact LeO.refl _
      | with_reducible exact LeO.none _
      | with_reducible refine LeO.ite ?_ ?_
      | with_reducible refine LeO.bind ?_ (fun _ => ?_)
set_option maxHeartbeats 8000000 in
set_option maxRecDepth 100000 in
theorem celluloidref09_Small.cn {a1 : Int} {k : Nat} {A0 : Option Addr} {n0 c0 : Nat} {l0 : List (S49)} {r : Bool} {w : World} (h : celluloidref09_Small.f k l0 a1 = some r) (hr0 : Kd.C k49 w A0 n0 l0) (hc0 : n0 ≤ c0) :
    Calls Try.prog 18 #[.slice A0 n0 c0, .int .i64 a1] w fun e w' => e = .returned (.bool r) ∧ Drawn0 w w' := by
  obtain rfl := hr0.1
  have HC0 := za hr0; have HL0 := za hc0; clear hr0 hc0
  have HB := Drawn0.refl w
  unfold celluloidref09_Small.f at h
  repeat' first
    | (with_reducible replace h := zs h)
    | (with_reducible replace h := zez h (by assumption) (by decide))
    | (with_reducible replace h := zb h; obtain ⟨t, A, h⟩ := h)
    | (with_reducible first | replace h := z1 h | replace h := z0 h | replace h := zep h (by assumption) | replace h := zen h (by assumption) | replace h := zcp h (by assumption) | replace h := zcn h (by assumption) | replace h := zbp h (by assumption) | replace h := zbn h (by assumption))
    | (with_reducible (first | replace h := zx h | replace h := zt h); obtain ⟨rfl, h⟩ | ⟨rfl, h⟩ := h)
    | (with_reducible (first | replace h := zd h | replace h := zl h | replace h := zm h); obtain ⟨c, h⟩ | ⟨c, h⟩ := h)
    | (with_reducible (first | replace h := ze h | replace h := zg h); obtain ⟨c, c', h⟩ | ⟨c, c', h⟩ := h)
    | (with_reducible replace h := zt h; obtain ⟨c, h⟩ | ⟨c, h⟩ := h)
    | (with_reducible replace h := Option.some.inj h; subst h)
    | (with_reducible exact (zn h).elim)
    | (obtain _ | k := k; exact absurd h (by simp [celluloidref09_Small.j1]); simp only [celluloidref09_Small.j1, if_true, if_false, Bool.false_eq_true] at h)
  all_goals
    try (have H' := za h; clear h)
    go_enter Try.func18, Try.ntmps18
    go_wp2_with (first
      | ((with_reducible refine zq ?_); first | go_quiet ((first | (go_at_call 17; refine Calls.quiet_of ((celluloidref08_Small.cn (by assumption : Aside0 _).out ?_ ?_ ?_ ?_).mono fun _ _ h => ⟨h.1, h.2.out⟩); (focus with_reducible first | exact znil | exact zC (by assumption)); (first | exact Nat.le_refl _ | exact (by assumption : Aside0 _).out); (focus with_reducible first | exact znil | exact zC (by assumption)); (first | exact Nat.le_refl _ | exact (by assumption : Aside0 _).out)))))
      | (go_at_call 17; refine (celluloidref08_Small.cn (by assumption : Aside0 _).out ?_ ?_ ?_ ?_).mono ?_; (focus with_reducible first | exact znil | exact zC (by assumption)); (first | exact Nat.le_refl _ | exact (by assumption : Aside0 _).out); (focus with_reducible first | exact znil | exact zC (by assumption)); (first | exact Nat.le_refl _ | exact (by assumption : Aside0 _).out); rintro e w' ⟨rfl, ⟨n, rfl⟩⟩))
  all_goals first
    | (go_ret; exact ⟨rfl, by repeat (first | exact HB | exact Drawn0.refl _ | apply Drawn0.step)⟩)
    | (go_loopg [5] k (fun kq v5 w' => ∃ (x5_1 : Int), v5 = .int .i64 x5_1 ∧ Aside0 (celluloidref09_Small.l0 kq l0 a1 x5_1 = some r) ∧ Aside0 (kq ≤ k) ∧ Drawn0 w w')
       case atStart => exact ⟨_, rfl, H', ⟨Nat.le_refl _⟩, by repeat (first | exact HB | exact Drawn0.refl _ | apply Drawn0.step)⟩
       case round =>
        obtain ⟨x5_1, rfl, HA, HK1, HB⟩ := hrel
        have HW := Bw.mk HB.below; clear H'
        cases gk with
        | zero => exact absurd HA.out (by simp [celluloidref09_Small.l0])
        | succ k1 =>
          have h := HA.out; clear HA; simp only [celluloidref09_Small.l0] at h
          repeat' first
            | (with_reducible replace h := zs h)
            | (with_reducible replace h := zez h (by assumption) (by decide))
            | (with_reducible replace h := zb h; obtain ⟨t, A, h⟩ := h)
            | (with_reducible first | replace h := z1 h | replace h := z0 h | replace h := zep h (by assumption) | replace h := zen h (by assumption) | replace h := zcp h (by assumption) | replace h := zcn h (by assumption) | replace h := zbp h (by assumption) | replace h := zbn h (by assumption))
            | (with_reducible (first | replace h := zx h | replace h := zt h); obtain ⟨rfl, h⟩ | ⟨rfl, h⟩ := h)
            | (with_reducible (first | replace h := zd h | replace h := zl h | replace h := zm h); obtain ⟨c, h⟩ | ⟨c, h⟩ := h)
            | (with_reducible (first | replace h := ze h | replace h := zg h); obtain ⟨c, c', h⟩ | ⟨c, c', h⟩ := h)
            | (with_reducible replace h := zt h; obtain ⟨c, h⟩ | ⟨c, h⟩ := h)
            | (with_reducible replace h := Option.some.inj h; subst h)
            | (with_reducible exact (zn h).elim)
            | (obtain _ | k1 := k1; exact absurd h (by simp [celluloidref09_Small.j1]); simp only [celluloidref09_Small.j1, if_true, if_false, Bool.false_eq_true] at h)
          all_goals
            have HN : Lw w wr 0 := ⟨HW.out.size⟩
            try (refine zat49 (W := wr) HC0 x5_1 ?_ ?_ ?_; assumption; assumption; rintro ad ⟨⟩; intros)
            try (have H' := za h; clear h)
            go_wp2_with (first
              | ((with_reducible refine zq ?_); first | go_quiet ((first | (go_at_call 17; refine Calls.quiet_of ((celluloidref08_Small.cn (by assumption : Aside0 _).out ?_ ?_ ?_ ?_).mono fun _ _ h => ⟨h.1, h.2.out⟩); (focus with_reducible first | exact znil | exact zC (by assumption)); (first | exact Nat.le_refl _ | exact (by assumption : Aside0 _).out); (focus with_reducible first | exact znil | exact zC (by assumption)); (first | exact Nat.le_refl _ | exact (by assumption : Aside0 _).out)))))
              | (go_at_call 17; refine (celluloidref08_Small.cn (by assumption : Aside0 _).out ?_ ?_ ?_ ?_).mono ?_; (focus with_reducible first | exact znil | exact zC (by assumption)); (first | exact Nat.le_refl _ | exact (by assumption : Aside0 _).out); (focus with_reducible first | exact znil | exact zC (by assumption)); (first | exact Nat.le_refl _ | exact (by assumption : Aside0 _).out); rintro e w' ⟨rfl, ⟨n, rfl⟩⟩))
          all_goals first
            | (go_ret; exact ⟨rfl, by repeat (first | exact HB | exact Drawn0.refl _ | apply Drawn0.step)⟩)
            | (go_roundg k1
               case measure => have := HK1.out; omega
               case rel => exact ⟨_, rfl, H', ⟨by have := HK1.out; omega⟩, by repeat (first | exact HB | exact Drawn0.refl _ | apply Drawn0.step)⟩))

/-! ### celluloidlaw15_small: function 8 -/
def celluloidlaw15_small.f (k : Nat) (a0_0 : Int) (a0_1 : Int) (a0_2 : Int) (a0_3 : Int) (a0_4 : Int) (l0_5 : List (S65)) (l0_6 : List (S79)) (l0_7 : List (S49)) : Option (Bool) := (celluloidref08_Small.f k l0_5 l0_6).bind fun t106 => (if t106 = true then ((celluloidref09_Small.f k l0_7 600).bind fun t107 => (some t107)) else (some false))
theorem celluloidlaw15_small.mono : ∀ a0 a1 a2 a3 a4 a5 a6 a7 k, LeO (celluloidlaw15_small.f k a0 a1 a2 a3 a4 a5 a6 a7) (celluloidlaw15_small.f (k + 1) a0 a1 a2 a3 a4 a5 a6 a7) := by
  intro a0 a1 a2 a3 a4 a5 a6 a7 k
  unfold celluloidlaw15_small.f
  repeat' first
      | with_reducible exact celluloidref08_Small.mono _ _ _
      | with_reducible exact celluloidref09_Small.mono _ _ _
      | with_reducible exact LeO.refl _
      | with_reducible exact LeO.none _
      | with_reducible refine LeO.ite ?_ ?_
      | with_reducible refine LeO.bind ?_ (fun _ => ?_)
set_option maxHeartbeats 8000000 in
set_option maxRecDepth 100000 in
theorem celluloidlaw15_small.cn {a0_0 a0_1 a0_2 a0_3 a0_4 : Int} {k : Nat} {A0_5 : Option Addr} {n0_5 c0_5 : Nat} {l0_5 : List (S65)} {A0_6 : Option Addr} {n0_6 c0_6 : Nat} {l0_6 : List (S79)} {A0_7 : Option Addr} {n0_7 c0_7 : Nat} {l0_7 : List (S49)} {r : Bool} {w : World} (h : celluloidlaw15_small.f k a0_0 a0_1 a0_2 a0_3 a0_4 l0_5 l0_6 l0_7 = some r) (hr0_5 : Kd.C k65 w A0_5 n0_5 l0_5) (hc0_5 : n0_5 ≤ c0_5) (hr0_6 : Kd.C k79 w A0_6 n0_6 l0_6) (hc0_6 : n0_6 ≤ c0_6) (hr0_7 : Kd.C k49 w A0_7 n0_7 l0_7) (hc0_7 : n0_7 ≤ c0_7) :
    Calls Try.prog 8 #[.agg #[.int .i64 a0_0, .int .i64 a0_1, .int .i64 a0_2, .int .i64 a0_3, .int .i64 a0_4, .slice A0_5 n0_5 c0_5, .slice A0_6 n0_6 c0_6, .slice A0_7 n0_7 c0_7]] w fun e w' => e = .returned (.bool r) ∧ Below w.heap.size w w' := by
  obtain rfl := hr0_5.1
  obtain rfl := hr0_6.1
  obtain rfl := hr0_7.1
  have HC0_5 := za hr0_5; have HL0_5 := za hc0_5; clear hr0_5 hc0_5
  have HC0_6 := za hr0_6; have HL0_6 := za hc0_6; clear hr0_6 hc0_6
  have HC0_7 := za hr0_7; have HL0_7 := za hc0_7; clear hr0_7 hc0_7
  have hu28 := Try.underlying28
  unfold celluloidlaw15_small.f at h
  repeat' first
    | (with_reducible replace h := zs h)
    | (with_reducible replace h := zez h (by assumption) (by decide))
    | (with_reducible replace h := zb h; obtain ⟨t, A, h⟩ := h)
    | (with_reducible first | replace h := z1 h | replace h := z0 h | replace h := zep h (by assumption) | replace h := zen h (by assumption) | replace h := zcp h (by assumption) | replace h := zcn h (by assumption) | replace h := zbp h (by assumption) | replace h := zbn h (by assumption))
    | (with_reducible (first | replace h := zx h | replace h := zt h); obtain ⟨rfl, h⟩ | ⟨rfl, h⟩ := h)
    | (with_reducible (first | replace h := zd h | replace h := zl h | replace h := zm h); obtain ⟨c, h⟩ | ⟨c, h⟩ := h)
    | (with_reducible (first | replace h := ze h | replace h := zg h); obtain ⟨c, c', h⟩ | ⟨c, c', h⟩ := h)
    | (with_reducible replace h := zt h; obtain ⟨c, h⟩ | ⟨c, h⟩ := h)
    | (with_reducible replace h := Option.some.inj h; subst h)
    | (with_reducible exact (zn h).elim)
  all_goals
    try (have H' := za h; clear h)
    go_enter Try.func8, Try.ntmps8
    go_wp2_with (first
      | ((with_reducible refine zq ?_); first | go_quiet ((first | (go_at_call 17; refine Calls.quiet_of ((celluloidref08_Small.cn (by assumption : Aside0 _).out ?_ ?_ ?_ ?_).mono fun _ _ h => ⟨h.1, h.2.out⟩); (focus with_reducible first | exact znil | exact zC (by assumption)); (first | exact Nat.le_refl _ | exact (by assumption : Aside0 _).out); (focus with_reducible first | exact znil | exact zC (by assumption)); (first | exact Nat.le_refl _ | exact (by assumption : Aside0 _).out)) | (go_at_call 18; refine Calls.quiet_of ((celluloidref09_Small.cn (by assumption : Aside0 _).out ?_ ?_).mono fun _ _ h => ⟨h.1, h.2.out⟩); (focus with_reducible first | exact znil | exact zC (by assumption)); (first | exact Nat.le_refl _ | exact (by assumption : Aside0 _).out)))))
      | (go_at_call 17; refine (celluloidref08_Small.cn (by assumption : Aside0 _).out ?_ ?_ ?_ ?_).mono ?_; (focus with_reducible first | exact znil | exact zC (by assumption)); (first | exact Nat.le_refl _ | exact (by assumption : Aside0 _).out); (focus with_reducible first | exact znil | exact zC (by assumption)); (first | exact Nat.le_refl _ | exact (by assumption : Aside0 _).out); rintro e w' ⟨rfl, ⟨n, rfl⟩⟩)
      | (go_at_call 18; refine (celluloidref09_Small.cn (by assumption : Aside0 _).out ?_ ?_).mono ?_; (focus with_reducible first | exact znil | exact zC (by assumption)); (first | exact Nat.le_refl _ | exact (by assumption : Aside0 _).out); rintro e w' ⟨rfl, ⟨n, rfl⟩⟩))
  all_goals first
    | (go_ret; exact ⟨rfl, Bw.out⟩)

end Go.Proofs.Ytlldbmodidhidaa.P
