/- Walks by cw.py (wip/tool): plain functions that tell what the program answers, and the proofs that the program comes to these answers, for all arguments of their kinds. -/
import Derived.Test.YtlldbmodidhidaaCx5
namespace Go.Proofs.Ytlldbmodidhidaa.P
open Go.RowKit Go.Proofs.YtlldbmodidhidaaW.PrintWords Go.Proofs.YtlldbmodidhidaaW.PrintLast Go.Proofs.YtlldbmodidhidaaW.PrintMore
attribute [local go_sem] max2_int min2_int max_two min_two max_three min_three max_four min_four max_five min_five max_six min_six
set_option linter.unusedVariables false
set_option linter.unusedSimpArgs false

/-! ### celluloidref08_Stroke: function 35 -/
def celluloidref08_Stroke.f (k : Nat) (a0_0 : Int) (a0_1 : Int) (a0_2 : Int) (a0_3 : Int) (a0_4 : Int) : Option (Bool) := if a0_0 ≥ 0 then (if a0_0 < 65536 then ((celluloidref07_RGBA.f k a0_1 a0_2 a0_3 a0_4).bind fun t301 => (some t301)) else (some false)) else (some false)
theorem celluloidref08_Stroke.mono : ∀ a0 a1 a2 a3 a4 k, LeO (celluloidref08_Stroke.f k a0 a1 a2 a3 a4) (celluloidref08_Stroke.f (k + 1) a0 a1 a2 a3 a4) := by
  intro a0 a1 a2 a3 a4 k
  unfold celluloidref08_Stroke.f
  repeat' first
      | with_reducible exact celluloidref07_RGBA.mono _ _ _ _ _
      | with_reducible exact LeO.refl _
      | with_reducible exact LeO.none _
      | with_reducible refine LeO.ite ?_ ?_
      | with_reducible refine LeO.bind ?_ (fun _ => ?_)
set_option maxHeartbeats 8000000 in
set_option maxRecDepth 100000 in
theorem celluloidref08_Stroke.cn {a0_0 a0_1 a0_2 a0_3 a0_4 : Int} {k : Nat} {r : Bool} {w : World} (h : celluloidref08_Stroke.f k a0_0 a0_1 a0_2 a0_3 a0_4 = some r) :
    Calls Try.prog 35 #[.agg #[.int .i64 a0_0, .int .i64 a0_1, .int .i64 a0_2, .int .i64 a0_3, .int .i64 a0_4]] w fun e w' => e = .returned (.bool r) ∧ Below w.heap.size w w' := by
  have hu60 := Try.underlying60
  have hu79 := Try.underlying79
  unfold celluloidref08_Stroke.f at h
  repeat' first
    | (with_reducible replace h := zs h)
    | (with_reducible replace h := zez h (by assumption) (by decide))
    | (with_reducible replace h := zb h; obtain ⟨t, A, h⟩ := h)
    | (with_reducible first | replace h := z1 h | replace h := z0 h | replace h := zep h (by assumption) | replace h := zen h (by assumption) | replace h := zcp h (by assumption) | replace h := zcn h (by assumption) | replace h := zbp h (by assumption) | replace h := zbn h (by assumption))
    | (with_reducible (first | replace h := zx h | replace h := zt h); obtain ⟨rfl, h⟩ | ⟨rfl, h⟩ := h)
    | (with_reducible (first | replace h := zd h | replace h := zl h | replace h := zm h); obtain ⟨c, h⟩ | ⟨c, h⟩ := h)
    | (with_reducible (first | replace h := ze h | replace h := zg h); obtain ⟨c, c', h⟩ | ⟨c, c', h⟩ := h)
    | (with_reducible replace h := zt h; obtain ⟨c, h⟩ | ⟨c, h⟩ := h)
    | (with_reducible replace h := Option.some.inj h; subst h)
    | (with_reducible exact (zn h).elim)
  all_goals
    try (have H' := za h; clear h)
    go_enter Try.func35, Try.ntmps35
    go_wp2_with (first
      | ((with_reducible refine zq ?_); first | go_quiet (fail))
      | (go_at_call 48; refine (celluloidref07_RGBA.cn (by assumption : Aside0 _).out).mono ?_; rintro e w' ⟨rfl, hb⟩; obtain ⟨hb, hc, hf⟩ := zk hb; have hy := zy w w'; simp only [zL, Nat.add_zero] at hy))
  all_goals first
    | (go_ret; exact ⟨rfl, Bw.out⟩)

/-! ### celluloidref08_Right: function 24 -/
mutual
def celluloidref08_Right.l0 : Nat → List (S65) → List (S79) → Int → Option (Bool)
  | 0, _, _, _ => none
  | k + 1, x0, x1, x5 => if x5 < (x0.length : Int) then (if 0 ≤ x5 then ((celluloidref08_Fill.f k ((rd_T65 x0 x5).f0) ((rd_T65 x0 x5).f1.f0) ((rd_T65 x0 x5).f1.f1) ((rd_T65 x0 x5).f1.f2) ((rd_T65 x0 x5).f1.f3) ((rd_T65 x0 x5).f2.f0) ((rd_T65 x0 x5).f2.f1) ((rd_T65 x0 x5).f2.f2) ((rd_T65 x0 x5).f2.f3) ((rd_T65 x0 x5).f2.f4) ((rd_T65 x0 x5).f2.f5) ((rd_T65 x0 x5).f3) ((rd_T65 x0 x5).f4) ((rd_T65 x0 x5).f5)).bind fun t303 => (if t303 = true then (celluloidref08_Right.l0 k x0 x1 (wrap64 (x5 + 1))) else (some false))) else (none)) else (celluloidref08_Right.l1 k x0 x1 0)
def celluloidref08_Right.l1 : Nat → List (S65) → List (S79) → Int → Option (Bool)
  | 0, _, _, _ => none
  | k + 1, x0, x1, x6 => if x6 < (x1.length : Int) then (if 0 ≤ x6 then ((celluloidref08_Stroke.f k ((rd_T79 x1 x6).f0) ((rd_T79 x1 x6).f1.f0) ((rd_T79 x1 x6).f1.f1) ((rd_T79 x1 x6).f1.f2) ((rd_T79 x1 x6).f1.f3)).bind fun t305 => (if t305 = true then (celluloidref08_Right.l1 k x0 x1 (wrap64 (x6 + 1))) else (some false))) else (none)) else (if (x0.length : Int) < 16 then (some (decide ((x1.length : Int) < 16))) else (some false))
end
def celluloidref08_Right.f (k : Nat) (l0 : List (S65)) (l1 : List (S79)) : Option (Bool) := celluloidref08_Right.l0 k l0 l1 0
theorem celluloidref08_Right.mono_l : ∀ k, (∀ y0 y1 y2, LeO (celluloidref08_Right.l0 k y0 y1 y2) (celluloidref08_Right.l0 (k + 1) y0 y1 y2)) ∧ (∀ y0 y1 y2, LeO (celluloidref08_Right.l1 k y0 y1 y2) (celluloidref08_Right.l1 (k + 1) y0 y1 y2))
  | 0 => ⟨fun _ _ _ r h => by simp [celluloidref08_Right.l0] at h, fun _ _ _ r h => by simp [celluloidref08_Right.l1] at h⟩
  | k + 1 => by
    obtain ⟨ih0, ih1⟩ := celluloidref08_Right.mono_l k
    refine ⟨?_, ?_⟩
    · intro y0 y1 y2
      unfold celluloidref08_Right.l0
      repeat' first
      | with_reducible exact ih0 _ _ _
      | with_reducible exact ih1 _ _ _
      | with_reducible exact celluloidref08_Fill.mono _ _ _ _ _ _ _ _ _ _ _ _ _ _ _
      | with_reducible exact celluloidref08_Stroke.mono _ _ _ _ _ _
      | with_reducible exact LeO.refl _
      | with_reducible exact LeO.none _
      | with_reducible refine LeO.ite ?_ ?_
      | with_reducible refine LeO.bind ?_ (fun _ => ?_)
    · intro y0 y1 y2
      unfold celluloidref08_Right.l1
      repeat' first
      | with_reducible exact ih0 _ _ _
      | with_reducible exact ih1 _ _ _
      | with_reducible exact celluloidref08_Fill.mono _ _ _ _ _ _ _ _ _ _ _ _ _ _ _
      | with_reducible exact celluloidref08_Stroke.mono _ _ _ _ _ _
      | with_reducible exact LeO.refl _
      | with_reducible exact LeO.none _
      | with_reducible refine LeO.ite ?_ ?_
      | with_reducible refine LeO.bind ?_ (fun _ => ?_)
theorem celluloidref08_Right.mono : ∀ a0 a1 k, LeO (celluloidref08_Right.f k a0 a1) (celluloidref08_Right.f (k + 1) a0 a1) := by
  intro a0 a1 k
  obtain ⟨ih0, ih1⟩ := celluloidref08_Right.mono_l k
  unfold celluloidref08_Right.f
  repeat' first
      | with_reducible exact ih0 _ _ _
      | with_reducible exact ih1 _ _ _
      | with_reducible exact celluloidref08_Fill.mono _ _ _ _ _ _ _ _ _ _ _ _ _ _ _
      | with_reducible exact celluloidref08_Stroke.mono _ _ _ _ _ _
      | with_reducible exact LeO.refl _
      | with_reducible exact LeO.none _
      | with_reducible refine LeO.ite ?_ ?_
      | with_reducible refine LeO.bind ?_ (fun _ => ?_)
set_option maxHeartbeats 8000000 in
set_option maxRecDepth 100000 in
theorem celluloidref08_Right.cn {k : Nat} {A0 : Option Addr} {n0 c0 : Nat} {l0 : List (S65)} {A1 : Option Addr} {n1 c1 : Nat} {l1 : List (S79)} {r : Bool} {w : World} (h : celluloidref08_Right.f k l0 l1 = some r) (hr0 : Kd.C k65 w A0 n0 l0) (hc0 : n0 ≤ c0) (hr1 : Kd.C k79 w A1 n1 l1) (hc1 : n1 ≤ c1) :
    Calls Try.prog 24 #[.slice A0 n0 c0, .slice A1 n1 c1] w fun e w' => e = .returned (.bool r) ∧ Below w.heap.size w w' := by
  obtain rfl := hr0.1
  obtain rfl := hr1.1
  have HC0 := za hr0; have HL0 := za hc0; clear hr0 hc0
  have HC1 := za hr1; have HL1 := za hc1; clear hr1 hc1
  have hu65 := Try.underlying65
  have hu79 := Try.underlying79
  unfold celluloidref08_Right.f at h
  repeat' first
    | (with_reducible replace h := zs h)
    | (with_reducible replace h := zez h (by assumption) (by decide))
    | (with_reducible replace h := zb h; obtain ⟨t, A, h⟩ := h)
    | (with_reducible first | replace h := z1 h | replace h := z0 h | replace h := zep h (by assumption) | replace h := zen h (by assumption) | replace h := zcp h (by assumption) | replace h := zcn h (by assumption) | replace h := zbp h (by assumption) | replace h := zbn h (by assumption))
    | (with_reducible (first | replace h := zx h | replace h := zt h); obtain ⟨rfl, h⟩ | ⟨rfl, h⟩ := h)
    | (with_reducible (first | replace h := zd h | replace h := zl h | replace h := zm h); obtain ⟨c, h⟩ | ⟨c, h⟩ := h)
    | (with_reducible (first | replace h := ze h | replace h := zg h); obtain ⟨c, c', h⟩ | ⟨c, c', h⟩ := h)
    | (with_reducible replace h := zt h; obtain ⟨c, h⟩ | ⟨c, h⟩ := h)
    | (with_reducible replace h := Option.some.inj h; subst h)
    | (with_reducible exact (zn h).elim)
  all_goals
    try (have H' := za h; clear h)
    go_enter Try.func24, Try.ntmps24
    go_wp2_with (first
      | ((with_reducible refine zq ?_); first | go_quiet (fail))
      | (go_at_call 34; refine (celluloidref08_Fill.cn (by assumption : Aside0 _).out ?_ ?_).mono ?_; (focus with_reducible first | exact znil | exact zC (by assumption)); (first | exact Nat.le_refl _ | exact (by assumption : Aside0 _).out); rintro e w' ⟨rfl, hb⟩; obtain ⟨hb, hc, hf⟩ := zk hb; have hy := zy w w'; simp only [zL, Nat.add_zero] at hy)
      | (go_at_call 35; refine (celluloidref08_Stroke.cn (by assumption : Aside0 _).out).mono ?_; rintro e w' ⟨rfl, hb⟩; obtain ⟨hb, hc, hf⟩ := zk hb; have hy := zy w w'; simp only [zL, Nat.add_zero] at hy))
  all_goals first
    | (go_ret; exact ⟨rfl, Bw.out⟩)
    | (go_loopg [5] k (fun kq v5 w' => ∃ (x5_1 : Int), v5 = .int .i64 x5_1 ∧ Aside0 (celluloidref08_Right.l0 kq l0 l1 x5_1 = some r) ∧ Aside0 (kq ≤ k) ∧ Aside0 (Below w.heap.size w w'))
       case atStart => exact ⟨_, rfl, H', ⟨Nat.le_refl _⟩, ⟨Bw.out⟩⟩
       case round =>
        obtain ⟨x5_1, rfl, HA, HK1, HB⟩ := hrel
        have HB := Bw.mk HB.out; clear H'
        cases gk with
        | zero => exact absurd HA.out (by simp [celluloidref08_Right.l0])
        | succ k1 =>
          have h := HA.out; clear HA; simp only [celluloidref08_Right.l0] at h
          repeat' first
            | (with_reducible replace h := zs h)
            | (with_reducible replace h := zez h (by assumption) (by decide))
            | (with_reducible replace h := zb h; obtain ⟨t, A, h⟩ := h)
            | (with_reducible first | replace h := z1 h | replace h := z0 h | replace h := zep h (by assumption) | replace h := zen h (by assumption) | replace h := zcp h (by assumption) | replace h := zcn h (by assumption) | replace h := zbp h (by assumption) | replace h := zbn h (by assumption))
            | (with_reducible (first | replace h := zx h | replace h := zt h); obtain ⟨rfl, h⟩ | ⟨rfl, h⟩ := h)
            | (with_reducible (first | replace h := zd h | replace h := zl h | replace h := zm h); obtain ⟨c, h⟩ | ⟨c, h⟩ := h)
            | (with_reducible (first | replace h := ze h | replace h := zg h); obtain ⟨c, c', h⟩ | ⟨c, c', h⟩ := h)
            | (with_reducible replace h := zt h; obtain ⟨c, h⟩ | ⟨c, h⟩ := h)
            | (with_reducible replace h := Option.some.inj h; subst h)
            | (with_reducible exact (zn h).elim)
          all_goals
            have HN : Lw w wr 0 := ⟨HB.out.size⟩
            try (refine zat65 (W := wr) HC0 x5_1 ?_ ?_ ?_; assumption; assumption; rintro ad ⟨⟩; intros)
            try (have H' := za h; clear h)
            go_wp2_with (first
              | ((with_reducible refine zq ?_); first | go_quiet (fail))
              | (go_at_call 34; refine (celluloidref08_Fill.cn (by assumption : Aside0 _).out ?_ ?_).mono ?_; (focus with_reducible first | exact znil | exact zC (by assumption)); (first | exact Nat.le_refl _ | exact (by assumption : Aside0 _).out); rintro e w' ⟨rfl, hb⟩; obtain ⟨hb, hc, hf⟩ := zk hb; have hy := zy w w'; simp only [zL, Nat.add_zero] at hy; have hy := zy wr w'; simp only [zL, Nat.add_zero] at hy)
              | (go_at_call 35; refine (celluloidref08_Stroke.cn (by assumption : Aside0 _).out).mono ?_; rintro e w' ⟨rfl, hb⟩; obtain ⟨hb, hc, hf⟩ := zk hb; have hy := zy w w'; simp only [zL, Nat.add_zero] at hy; have hy := zy wr w'; simp only [zL, Nat.add_zero] at hy))
          all_goals first
            | (go_ret; exact ⟨rfl, Bw.out⟩)
            | (go_roundg k1
               case measure => have := HK1.out; omega
               case rel => exact ⟨_, rfl, H', ⟨by have := HK1.out; omega⟩, ⟨Bw.out⟩⟩)
            | (go_loopg [6] k1 (fun kq v6 w' => ∃ (x6_2 : Int), v6 = .int .i64 x6_2 ∧ Aside0 (celluloidref08_Right.l1 kq l0 l1 x6_2 = some r) ∧ Aside0 (kq ≤ k1) ∧ Aside0 (Below w.heap.size w w'))
               case atStart => exact ⟨_, rfl, H', ⟨Nat.le_refl _⟩, ⟨Bw.out⟩⟩
               case round =>
                obtain ⟨x6_2, rfl, HA, HK2, HB⟩ := hrel
                have HB := Bw.mk HB.out; clear H'
                cases gk with
                | zero => exact absurd HA.out (by simp [celluloidref08_Right.l1])
                | succ k2 =>
                  have h := HA.out; clear HA; simp only [celluloidref08_Right.l1] at h
                  repeat' first
                    | (with_reducible replace h := zs h)
                    | (with_reducible replace h := zez h (by assumption) (by decide))
                    | (with_reducible replace h := zb h; obtain ⟨t, A, h⟩ := h)
                    | (with_reducible first | replace h := z1 h | replace h := z0 h | replace h := zep h (by assumption) | replace h := zen h (by assumption) | replace h := zcp h (by assumption) | replace h := zcn h (by assumption) | replace h := zbp h (by assumption) | replace h := zbn h (by assumption))
                    | (with_reducible (first | replace h := zx h | replace h := zt h); obtain ⟨rfl, h⟩ | ⟨rfl, h⟩ := h)
                    | (with_reducible (first | replace h := zd h | replace h := zl h | replace h := zm h); obtain ⟨c, h⟩ | ⟨c, h⟩ := h)
                    | (with_reducible (first | replace h := ze h | replace h := zg h); obtain ⟨c, c', h⟩ | ⟨c, c', h⟩ := h)
                    | (with_reducible replace h := zt h; obtain ⟨c, h⟩ | ⟨c, h⟩ := h)
                    | (with_reducible replace h := Option.some.inj h; subst h)
                    | (with_reducible exact (zn h).elim)
                  all_goals
                    have HN : Lw w wr 0 := ⟨HB.out.size⟩
                    try (refine zat65 (W := wr) HC0 x5_1 ?_ ?_ ?_; assumption; assumption; rintro ad ⟨⟩; intros)
                    try (refine zat79 (W := wr) HC1 x6_2 ?_ ?_ ?_; assumption; assumption; rintro ad ⟨⟩; intros)
                    try (have H' := za h; clear h)
                    go_wp2_with (first
                      | ((with_reducible refine zq ?_); first | go_quiet (fail))
                      | (go_at_call 34; refine (celluloidref08_Fill.cn (by assumption : Aside0 _).out ?_ ?_).mono ?_; (focus with_reducible first | exact znil | exact zC (by assumption)); (first | exact Nat.le_refl _ | exact (by assumption : Aside0 _).out); rintro e w' ⟨rfl, hb⟩; obtain ⟨hb, hc, hf⟩ := zk hb; have hy := zy w w'; simp only [zL, Nat.add_zero] at hy; have hy := zy wr w'; simp only [zL, Nat.add_zero] at hy)
                      | (go_at_call 35; refine (celluloidref08_Stroke.cn (by assumption : Aside0 _).out).mono ?_; rintro e w' ⟨rfl, hb⟩; obtain ⟨hb, hc, hf⟩ := zk hb; have hy := zy w w'; simp only [zL, Nat.add_zero] at hy; have hy := zy wr w'; simp only [zL, Nat.add_zero] at hy))
                  all_goals first
                    | (go_ret; exact ⟨rfl, Bw.out⟩)
                    | (go_roundg k2
                       case measure => have := HK2.out; omega
                       case rel => exact ⟨_, rfl, H', ⟨by have := HK2.out; omega⟩, ⟨Bw.out⟩⟩)))

end Go.Proofs.Ytlldbmodidhidaa.P
