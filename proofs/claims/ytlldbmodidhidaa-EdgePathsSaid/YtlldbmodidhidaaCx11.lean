/- Walks by cw.py (wip/tool): plain functions that tell what the program answers, and the proofs that the program comes to these answers, for all arguments of their kinds. -/
import Derived.Test.YtlldbmodidhidaaCx10
namespace Go.Proofs.Ytlldbmodidhidaa.P
open Go.RowKit Go.Proofs.YtlldbmodidhidaaW.PrintWords Go.Proofs.YtlldbmodidhidaaW.PrintLast Go.Proofs.YtlldbmodidhidaaW.PrintMore
attribute [local go_sem] max2_int min2_int max_two min_two max_three min_three max_four min_four max_five min_five max_six min_six
set_option linter.unusedVariables false
set_option linter.unusedSimpArgs false

/-! ### celluloidref09_Records: function 25 -/
mutual
def celluloidref09_Records.j0 : Nat → Int → Int → List (S49) → Int → Bool → Option (Bool)
  | 0, _, _, _, _, _ => none
  | k + 1, x0, x1, x2, x3, x27 => if x27 = true then (some false) else (celluloidref09_Records.l0 k x0 x1 x2 x3 0)
def celluloidref09_Records.l0 : Nat → Int → Int → List (S49) → Int → Int → Option (Bool)
  | 0, _, _, _, _, _ => none
  | k + 1, x0, x1, x2, x3, x9 => if x9 < (x2.length : Int) then (if 0 ≤ x9 then ((celluloidref09_one.f k ((rd_T49 x2 x9).f0) ((rd_T49 x2 x9).f1) ((rd_T49 x2 x9).f2) ((rd_T49 x2 x9).f3) ((rd_T49 x2 x9).f4) ((rd_T49 x2 x9).f5) ((rd_T49 x2 x9).f6) ((rd_T49 x2 x9).f7) ((rd_T49 x2 x9).f8) ((rd_T49 x2 x9).f9) x0 x1).bind fun t329 => (if t329 = true then (if ((rd_T49 x2 x9).f0) = 3 then (if x3 > 0 then (celluloidref09_Records.j2 k x0 x1 x2 x3 x9 true) else (if ((rd_T49 x2 x9).f0) = 2 then (celluloidref09_Records.j2 k x0 x1 x2 x3 x9 (decide (x3 > 1))) else (celluloidref09_Records.j2 k x0 x1 x2 x3 x9 false))) else (if ((rd_T49 x2 x9).f0) = 2 then (celluloidref09_Records.j2 k x0 x1 x2 x3 x9 (decide (x3 > 1))) else (celluloidref09_Records.j2 k x0 x1 x2 x3 x9 false))) else (celluloidref09_Records.j2 k x0 x1 x2 x3 x9 true))) else (none)) else (some true)
def celluloidref09_Records.j2 : Nat → Int → Int → List (S49) → Int → Int → Bool → Option (Bool)
  | 0, _, _, _, _, _, _ => none
  | k + 1, x0, x1, x2, x3, x9, x65 => if x65 = true then (some false) else (if 0 ≤ x9 then (if x9 < (x2.length : Int) then (if ((rd_T49 x2 x9).f0) = 3 then (celluloidref09_Records.l0 k (((rd_T49 x2 x9).f8).length : Int) (((rd_T49 x2 x9).f9).length : Int) x2 x3 (wrap64 (x9 + 1))) else (celluloidref09_Records.l0 k x0 x1 x2 x3 (wrap64 (x9 + 1)))) else (none)) else (none))
end
def celluloidref09_Records.f (k : Nat) (a0 : Int) (a1 : Int) (l2 : List (S49)) (a3 : Int) : Option (Bool) := (celluloidref09_in.f a0 0 15).bind fun t325 => (if t325 = true then ((celluloidref09_in.f a1 0 15).bind fun t326 => (if t326 = true then ((celluloidref09_in.f a3 0 2).bind fun t327 => (if t327 = true then (celluloidref09_Records.j0 k a0 a1 l2 a3 (decide ((l2.length : Int) > 512))) else (celluloidref09_Records.j0 k a0 a1 l2 a3 true))) else (celluloidref09_Records.j0 k a0 a1 l2 a3 true))) else (celluloidref09_Records.j0 k a0 a1 l2 a3 true))
theorem celluloidref09_Records.mono_l : ∀ k, (∀ y0 y1 y2 y3 y4, LeO (celluloidref09_Records.j0 k y0 y1 y2 y3 y4) (celluloidref09_Records.j0 (k + 1) y0 y1 y2 y3 y4)) ∧ (∀ y0 y1 y2 y3 y4, LeO (celluloidref09_Records.l0 k y0 y1 y2 y3 y4) (celluloidref09_Records.l0 (k + 1) y0 y1 y2 y3 y4)) ∧ (∀ y0 y1 y2 y3 y4 y5, LeO (celluloidref09_Records.j2 k y0 y1 y2 y3 y4 y5) (celluloidref09_Records.j2 (k + 1) y0 y1 y2 y3 y4 y5))
  | 0 => ⟨fun _ _ _ _ _ r h => by simp [celluloidref09_Records.j0] at h, fun _ _ _ _ _ r h => by simp [celluloidref09_Records.l0] at h, fun _ _ _ _ _ _ r h => by simp [celluloidref09_Records.j2] at h⟩
  | k + 1 => by
    obtain ⟨ih0, ih1, ih2⟩ := celluloidref09_Records.mono_l k
    refine ⟨?_, ?_, ?_⟩
    · intro y0 y1 y2 y3 y4
      unfold celluloidref09_Records.j0
      repeat' first
      | with_reducible exact ih0 _ _ _ _ _
      | with_reducible exact ih1 _ _ _ _ _
      | with_reducible exact ih2 _ _ _ _ _ _
      | with_reducible exact celluloidref09_one.mono _ _ _ _ _ _ _ _ _ _ _ _ _
      | with_reducible exact LeO.refl _
      | with_reducible exact LeO.none _
      | with_reducible refine LeO.ite ?_ ?_
      | with_reducible refine LeO.bind ?_ (fun _ => ?_)
    · intro y0 y1 y2 y3 y4
      unfold celluloidref09_Records.l0
      repeat' first
      | with_reducible exact ih0 _ _ _ _ _
      | with_reducible exact ih1 _ _ _ _ _
      | with_reducible exact ih2 _ _ _ _ _ _
      | with_reducible exact celluloidref09_one.mono _ _ _ _ _ _ _ _ _ _ _ _ _
      | with_reducible exact LeO.refl _
      | with_reducible exact LeO.none _
      | with_reducible refine LeO.ite ?_ ?_
      | with_reducible refine LeO.bind ?_ (fun _ => ?_)
    · intro y0 y1 y2 y3 y4 y5
      unfold celluloidref09_Records.j2
      repeat' first
      | with_reducible exact ih0 _ _ _ _ _
      | with_reducible exact ih1 _ _ _ _ _
      | with_reducible exact ih2 _ _ _ _ _ _
      | with_reducible exact celluloidref09_one.mono _ _ _ _ _ _ _ _ _ _ _ _ _
      | with_reducible exact LeO.refl _
      | with_reducible exact LeO.none _
      | with_reducible refine LeO.ite ?_ ?_
      | with_reducible refine LeO.bind ?_ (fun _ => ?_)
theorem celluloidref09_Records.mono : ∀ a0 a1 a2 a3 k, LeO (celluloidref09_Records.f k a0 a1 a2 a3) (celluloidref09_Records.f (k + 1) a0 a1 a2 a3) := by
  intro a0 a1 a2 a3 k
  obtain ⟨ih0, ih1, ih2⟩ := celluloidref09_Records.mono_l k
  unfold celluloidref09_Records.f
  repeat' first
      | with_reducible exact ih0 _ _ _ _ _
      | with_reducible exact ih1 _ _ _ _ _
      | with_reducible exact ih2 _ _ _ _ _ _
      | with_reducible exact celluloidref09_one.mono _ _ _ _ _ _ _ _ _ _ _ _ _
      | with_reducible exact LeO.refl _
      | with_reducible exact LeO.none _
      | with_reducible refine LeO.ite ?_ ?_
      | with_reducible refine LeO.bind ?_ (fun _ => ?_)
set_option maxHeartbeats 8000000 in
set_option maxRecDepth 100000 in
theorem celluloidref09_Records.cn {a0 a1 a3 : Int} {k : Nat} {A2 : Option Addr} {n2 c2 : Nat} {l2 : List (S49)} {r : Bool} {w : World} (h : celluloidref09_Records.f k a0 a1 l2 a3 = some r) (hr2 : Kd.C k49 w A2 n2 l2) (hc2 : n2 ≤ c2) :
    Calls Try.prog 25 #[.int .i64 a0, .int .i64 a1, .slice A2 n2 c2, .int .i64 a3] w fun e w' => e = .returned (.bool r) ∧ Below w.heap.size w w' := by
  obtain rfl := hr2.1
  have HC2 := za hr2; have HL2 := za hc2; clear hr2 hc2
  have hu49 := Try.underlying49
  unfold celluloidref09_Records.f at h
  repeat' first
    | (with_reducible replace h := zs h)
    | (with_reducible replace h := zez h (by assumption) (by decide))
    | (with_reducible replace h := zb h; obtain ⟨t, A, h⟩ := h)
    | (with_reducible first | replace h := z1 h | replace h := z0 h | replace h := zep h (by assumption) | replace h := zen h (by assumption) | replace h := zcp h (by assumption) | replace h := zcn h (by assumption) | replace h := zbp h (by assumption) | replace h := zbn h (by assumption))
    | (with_reducible (first | replace h := zx h | replace h := zt h); obtain ⟨rfl, h⟩ | ⟨rfl, h⟩ := h)
    | (with_reducible (first | replace h := zd h | replace h := zl h | replace h := zm h); obtain ⟨c, h⟩ | ⟨c, h⟩ := h)
    | (with_reducible (first | replace h := ze h | replace h := zg h); obtain ⟨c, c', h⟩ | ⟨c, c', h⟩ := h)
    | (with_reducible replace h := zt h; obtain ⟨c, h⟩ | ⟨c, h⟩ := h)
    | (with_reducible replace h := Option.some.inj h; subst h)
    | (with_reducible exact (zn h).elim)
    | (obtain _ | k := k; exact absurd h (by simp [celluloidref09_Records.j0, celluloidref09_Records.j2]); simp only [celluloidref09_Records.j0, celluloidref09_Records.j2, if_true, if_false, Bool.false_eq_true] at h)
  all_goals
    try (have H' := za h; clear h)
    go_enter Try.func25, Try.ntmps25
    go_wp2_with (first
      | ((with_reducible refine zq ?_); first | go_quiet ((first | (go_at_call 22; refine Calls.quiet_of ((celluloidref09_in.cn (by assumption : Aside0 _).out).mono fun _ _ h => ⟨h.1, h.2.out⟩)))))
      | (go_at_call 22; refine (celluloidref09_in.cn (by assumption : Aside0 _).out).mono ?_; rintro e w' ⟨rfl, ⟨n, rfl⟩⟩)
      | (go_at_call 36; refine (celluloidref09_one.cn (by assumption : Aside0 _).out ?_ ?_ ?_ ?_).mono ?_; (focus with_reducible first | exact znil | exact zC (by assumption)); (first | exact Nat.le_refl _ | exact (by assumption : Aside0 _).out); (focus with_reducible first | exact znil | exact zC (by assumption)); (first | exact Nat.le_refl _ | exact (by assumption : Aside0 _).out); rintro e w' ⟨rfl, hb⟩; obtain ⟨hb, hc, hf⟩ := zk hb; have hy := zy w w'; simp only [zL, Nat.add_zero] at hy))
  all_goals first
    | (exfalso; have q := beq_iff_eq.mp (by assumption : ((rd_T49 l2 x9_2).f0 == 3) = true); omega)
    | (go_ret; exact ⟨rfl, Bw.out⟩)
    | (go_loopg [0, 1, 9] k (fun kq v0 v1 v9 w' => ∃ (x0_2 : Int) (x1_2 : Int) (x9_2 : Int), v0 = .int .i64 x0_2 ∧ v1 = .int .i64 x1_2 ∧ v9 = .int .i64 x9_2 ∧ Aside0 (celluloidref09_Records.l0 kq x0_2 x1_2 l2 a3 x9_2 = some r) ∧ Aside0 (kq ≤ k) ∧ Aside0 (Below w.heap.size w w'))
       case atStart => exact ⟨_, _, _, rfl, rfl, rfl, H', ⟨Nat.le_refl _⟩, ⟨Bw.out⟩⟩
       case round =>
        obtain ⟨x0_2, x1_2, x9_2, rfl, rfl, rfl, HA, HK1, HB⟩ := hrel
        have HB := Bw.mk HB.out; clear H'
        cases gk with
        | zero => exact absurd HA.out (by simp [celluloidref09_Records.l0])
        | succ k1 =>
          have h := HA.out; clear HA; simp only [celluloidref09_Records.l0] at h
          repeat' first
            | (with_reducible replace h := zs h)
            | (with_reducible replace h := zez h (by assumption) (by decide))
            | (with_reducible replace h := zb h; obtain ⟨t, A, h⟩ := h)
            | (with_reducible first | replace h := z1 h | replace h := z0 h | replace h := zep h (by assumption) | replace h := zen h (by assumption) | replace h := zcp h (by assumption) | replace h := zcn h (by assumption) | replace h := zbp h (by assumption) | replace h := zbn h (by assumption))
            | (with_reducible (first | replace h := zx h | replace h := zt h); obtain ⟨rfl, h⟩ | ⟨rfl, h⟩ := h)
            | (with_reducible (first | replace h := zd h | replace h := zl h | replace h := zm h); obtain ⟨c, h⟩ | ⟨c, h⟩ := h)
            | (with_reducible (first | replace h := ze h | replace h := zg h); obtain ⟨c, c', h⟩ | ⟨c, c', h⟩ := h)
            | (with_reducible replace h := zt h; obtain ⟨c, h⟩ | ⟨c, h⟩ := h)
            | (with_reducible replace h := Option.some.inj h; subst h)
            | (with_reducible exact (zn h).elim)
            | (obtain _ | k1 := k1; exact absurd h (by simp [celluloidref09_Records.j0, celluloidref09_Records.j2]); simp only [celluloidref09_Records.j0, celluloidref09_Records.j2, if_true, if_false, Bool.false_eq_true] at h)
          all_goals
            have HN : Lw w wr 0 := ⟨HB.out.size⟩
            try (refine zat49 (W := wr) HC2 x9_2 ?_ ?_ ?_; assumption; assumption; rintro ad ⟨⟩; intros)
            try (have H' := za h; clear h)
            go_wp2_with (first
              | ((with_reducible refine zq ?_); first | go_quiet ((first | (go_at_call 22; refine Calls.quiet_of ((celluloidref09_in.cn (by assumption : Aside0 _).out).mono fun _ _ h => ⟨h.1, h.2.out⟩)))))
              | (go_at_call 22; refine (celluloidref09_in.cn (by assumption : Aside0 _).out).mono ?_; rintro e w' ⟨rfl, ⟨n, rfl⟩⟩)
              | (go_at_call 36; refine (celluloidref09_one.cn (by assumption : Aside0 _).out ?_ ?_ ?_ ?_).mono ?_; (focus with_reducible first | exact znil | exact zC (by assumption)); (first | exact Nat.le_refl _ | exact (by assumption : Aside0 _).out); (focus with_reducible first | exact znil | exact zC (by assumption)); (first | exact Nat.le_refl _ | exact (by assumption : Aside0 _).out); rintro e w' ⟨rfl, hb⟩; obtain ⟨hb, hc, hf⟩ := zk hb; have hy := zy w w'; simp only [zL, Nat.add_zero] at hy; have hy := zy wr w'; simp only [zL, Nat.add_zero] at hy; try (refine zat49 (W := w') HC2 x9_2 ?_ ?_ ?_; assumption; assumption; rintro ad ⟨⟩; intros)))
          all_goals first
            | (exfalso; have q := beq_iff_eq.mp (by assumption : ((rd_T49 l2 x9_2).f0 == 3) = true); omega)
            | (go_ret; exact ⟨rfl, Bw.out⟩)
            | (go_roundg k1
               case measure => have := HK1.out; omega
               case rel => exact ⟨_, _, _, rfl, rfl, rfl, H', ⟨by have := HK1.out; omega⟩, ⟨Bw.out⟩⟩))

/-! ### celluloidref09_Right: function 11 -/
def celluloidref09_Right.f (k : Nat) (a0_0 : Int) (a0_1 : Int) (a0_2 : Int) (a0_3 : Int) (a0_4 : Int) (l0_5 : List (S65)) (l0_6 : List (S79)) (l0_7 : List (S49)) : Option (Bool) := (celluloidref09_in.f a0_0 0 65535).bind fun t337 => (if t337 = true then ((celluloidref07_Rect.f a0_1 a0_2 a0_3 a0_4).bind fun t338 => (if t338 = true then ((celluloidref08_Right.f k l0_5 l0_6).bind fun t339 => (if t339 = true then ((celluloidref09_Records.f k (l0_5.length : Int) (l0_6.length : Int) l0_7 0).bind fun t340 => (some t340)) else (some false))) else (some false))) else (some false))
theorem celluloidref09_Right.mono : ∀ a0 a1 a2 a3 a4 a5 a6 a7 k, LeO (celluloidref09_Right.f k a0 a1 a2 a3 a4 a5 a6 a7) (celluloidref09_Right.f (k + 1) a0 a1 a2 a3 a4 a5 a6 a7) := by
  intro a0 a1 a2 a3 a4 a5 a6 a7 k
  unfold celluloidref09_Right.f
  repeat' first
      | with_reducible exact celluloidref08_Right.mono _ _ _
      | with_reducible exact celluloidref09_Records.mono _ _ _ _ _
      | with_reducible exact LeO.refl _
      | with_reducible exact LeO.none _
      | with_reducible refine LeO.ite ?_ ?_
      | with_reducible refine LeO.bind ?_ (fun _ => ?_)
set_option maxHeartbeats 8000000 in
set_option maxRecDepth 100000 in
theorem celluloidref09_Right.cn {a0_0 a0_1 a0_2 a0_3 a0_4 : Int} {k : Nat} {A0_5 : Option Addr} {n0_5 c0_5 : Nat} {l0_5 : List (S65)} {A0_6 : Option Addr} {n0_6 c0_6 : Nat} {l0_6 : List (S79)} {A0_7 : Option Addr} {n0_7 c0_7 : Nat} {l0_7 : List (S49)} {r : Bool} {w : World} (h : celluloidref09_Right.f k a0_0 a0_1 a0_2 a0_3 a0_4 l0_5 l0_6 l0_7 = some r) (hr0_5 : Kd.C k65 w A0_5 n0_5 l0_5) (hc0_5 : n0_5 ≤ c0_5) (hr0_6 : Kd.C k79 w A0_6 n0_6 l0_6) (hc0_6 : n0_6 ≤ c0_6) (hr0_7 : Kd.C k49 w A0_7 n0_7 l0_7) (hc0_7 : n0_7 ≤ c0_7) :
    Calls Try.prog 11 #[.agg #[.int .i64 a0_0, .int .i64 a0_1, .int .i64 a0_2, .int .i64 a0_3, .int .i64 a0_4, .slice A0_5 n0_5 c0_5, .slice A0_6 n0_6 c0_6, .slice A0_7 n0_7 c0_7]] w fun e w' => e = .returned (.bool r) ∧ Below w.heap.size w w' := by
  obtain rfl := hr0_5.1
  obtain rfl := hr0_6.1
  obtain rfl := hr0_7.1
  have HC0_5 := za hr0_5; have HL0_5 := za hc0_5; clear hr0_5 hc0_5
  have HC0_6 := za hr0_6; have HL0_6 := za hc0_6; clear hr0_6 hc0_6
  have HC0_7 := za hr0_7; have HL0_7 := za hc0_7; clear hr0_7 hc0_7
  have hu23 := Try.underlying23
  have hu38 := Try.underlying38
  unfold celluloidref09_Right.f at h
  repeat' first
    | (with_reducible replace h := zs h)
    | (with_reducible replace h := zez h (by assumption) (by decide))
    | (with_reducible replace h := zb h; obtain ⟨t, A, h⟩ := h)
    | (with_reducible first | replace h := z1 h | replace h := z0 h | replace h := zep h (by assumption) | replace h := zen h (by assumption) | replace h := zcp h (by assumption) | replace h := zcn h (by assumption) | replace h := zbp h (by assumption) | replace h := zbn h (by assumption))
    | (with_reducible (first | replace h := zx h | replace h := zt h); obtain ⟨rfl, h⟩ | ⟨rfl, h⟩ := h)
    | (with_reducible (first | replace h := zd h | replace h := zl h | replace h := zm h); obtain ⟨c, h⟩ | ⟨c, h⟩ := h)
    | (with_reducible (first | replace h := ze h | replace h := zg h); obtain ⟨c, c', h⟩ | ⟨c, c', h⟩ := h)
    | (with_reducible replace h := zt h; obtain ⟨c, h⟩ | ⟨c, h⟩ := h)
    | (with_reducible replace h := Option.some.inj h; subst h)
    | (with_reducible exact (zn h).elim)
  all_goals
    try (have H' := za h; clear h)
    go_enter Try.func11, Try.ntmps11
    go_wp2_with (first
      | ((with_reducible refine zq ?_); first | go_quiet ((first | (go_at_call 22; refine Calls.quiet_of ((celluloidref09_in.cn (by assumption : Aside0 _).out).mono fun _ _ h => ⟨h.1, h.2.out⟩)))))
      | (go_at_call 23; refine (celluloidref07_Rect.cn (by assumption : Aside0 _).out).mono ?_; rintro e w' ⟨rfl, hb⟩; obtain ⟨hb, hc, hf⟩ := zk hb; have hy := zy w w'; simp only [zL, Nat.add_zero] at hy)
      | (go_at_call 24; refine (celluloidref08_Right.cn (by assumption : Aside0 _).out ?_ ?_ ?_ ?_).mono ?_; (focus with_reducible first | exact znil | exact zC (by assumption)); (first | exact Nat.le_refl _ | exact (by assumption : Aside0 _).out); (focus with_reducible first | exact znil | exact zC (by assumption)); (first | exact Nat.le_refl _ | exact (by assumption : Aside0 _).out); rintro e w' ⟨rfl, hb⟩; obtain ⟨hb, hc, hf⟩ := zk hb; have hy := zy w w'; simp only [zL, Nat.add_zero] at hy)
      | (go_at_call 25; refine (celluloidref09_Records.cn (by assumption : Aside0 _).out ?_ ?_).mono ?_; (focus with_reducible first | exact znil | exact zC (by assumption)); (first | exact Nat.le_refl _ | exact (by assumption : Aside0 _).out); rintro e w' ⟨rfl, hb⟩; obtain ⟨hb, hc, hf⟩ := zk hb; have hy := zy w w'; simp only [zL, Nat.add_zero] at hy)
      | (go_at_call 22; refine (celluloidref09_in.cn (by assumption : Aside0 _).out).mono ?_; rintro e w' ⟨rfl, ⟨n, rfl⟩⟩))
  all_goals first
    | (go_ret; exact ⟨rfl, Bw.out⟩)

end Go.Proofs.Ytlldbmodidhidaa.P
