/- Walks by cw.py (wip/tool): plain functions that tell what the program answers, and the proofs that the program comes to these answers, for all arguments of their kinds. -/
import Derived.Test.YtlldbmodidhidaaCw
namespace Go.Proofs.Ytlldbmodidhidaa.P
open Go.RowKit Go.Proofs.YtlldbmodidhidaaW.PrintWords Go.Proofs.YtlldbmodidhidaaW.PrintLast Go.Proofs.YtlldbmodidhidaaW.PrintMore
attribute [local go_sem] max2_int min2_int max_two min_two max_three min_three max_four min_four max_five min_five max_six min_six
set_option linter.unusedVariables false
set_option linter.unusedSimpArgs false

/-! ### celluloidref15_number: function 37 -/
def celluloidref15_number.f (a0 : Int) (a1 : Int) (a2 : Int) : Option (Int) := if a1 < 0 then (some a0) else (if a1 > 0 then (some (wrap64 (a1 + a2))) else (some a1))

set_option maxHeartbeats 8000000 in
set_option maxRecDepth 100000 in
theorem celluloidref15_number.cn {a0 a1 a2 r : Int} {w : World} (h : celluloidref15_number.f a0 a1 a2 = some r) :
    Calls Try.prog 37 #[.int .i64 a0, .int .i64 a1, .int .i64 a2] w fun e w' => e = .returned (.int .i64 r) ∧ Drawn0 w w' := by
  have HB := Drawn0.refl w
  unfold celluloidref15_number.f at h
  repeat' first
    | (with_reducible replace h := zs h)
    | (with_reducible replace h := zez h (by assumption) (by decide))
    | (with_reducible replace h := zb h; obtain ⟨t, A, h⟩ := h)
    | (with_reducible first | replace h := z1 h | replace h := z0 h | replace h := zep h (by assumption) | replace h := zen h (by assumption) | replace h := zcp h (by assumption) | replace h := zcn h (by assumption) | replace h := zbp h (by assumption) | replace h := zbn h (by assumption))
    | (with_reducible (first | replace h := zx h | replace h := zt h); obtain ⟨rfl, h⟩ | ⟨rfl, h⟩ := h)
    | (with_reducible (first | replace h := zd h | replace h := zl h | replace h := zm h); obtain ⟨c, h⟩ | ⟨c, h⟩ := h)
    | (with_reducible (first | replace h := ze h | replace h := zg h); obtain ⟨c, c', h⟩ | ⟨c, c', h⟩ := h)
    | (with_reducible replace h := zt h; obtain ⟨c, h⟩ | ⟨c, h⟩ := h)
    | (with_reducible replace h := Option.some.inj h; subst h)
    | (with_reducible exact (zn h).elim)
  all_goals
    try (have H' := za h; clear h)
    go_enter Try.func37, Try.ntmps37
    go_wp2_with (first
      | ((with_reducible refine zq ?_); first | go_quiet (fail)))
  all_goals first
    | (go_ret; exact ⟨rfl, by repeat (first | exact HB | exact Drawn0.refl _ | apply Drawn0.step)⟩)

/-! ### celluloidref15_styles: function 27 -/
mutual
def celluloidref15_styles.l0 : Nat → Int → Int → Int → Int → Int → Int → Int → Int → Int → Int → Int → Int → Int → Int → List (S65) → List (S79) → List (S49) → Option (Int × Int × Int)
  | 0, _, _, _, _, _, _, _, _, _, _, _, _, _, _, _, _, _ => none
  | k + 1, x1, x7, x8, x9, x10, x11, x12, x13, x14, x346000, x346001, x346002, x346003, x346004, x346005, x346006, x346007 => if x14 < x1 then (if 0 ≤ x14 then (if x14 < (x346007.length : Int) then (if ((rd_T49 x346007 x14).f0) = 3 then (celluloidref15_styles.j1 k x1 x9 x10 (wrap64 (x9 + (((rd_T49 x346007 x14).f8).length : Int))) (wrap64 (x10 + (((rd_T49 x346007 x14).f9).length : Int))) 0 0 0 x14 x346000 x346001 x346002 x346003 x346004 x346005 x346006 x346007 ((rd_T49 x346007 x14).f0) ((rd_T49 x346007 x14).f1) ((rd_T49 x346007 x14).f2) ((rd_T49 x346007 x14).f3) ((rd_T49 x346007 x14).f4) ((rd_T49 x346007 x14).f5) ((rd_T49 x346007 x14).f6) ((rd_T49 x346007 x14).f7) ((rd_T49 x346007 x14).f8) ((rd_T49 x346007 x14).f9)) else (celluloidref15_styles.j1 k x1 x7 x8 x9 x10 x11 x12 x13 x14 x346000 x346001 x346002 x346003 x346004 x346005 x346006 x346007 ((rd_T49 x346007 x14).f0) ((rd_T49 x346007 x14).f1) ((rd_T49 x346007 x14).f2) ((rd_T49 x346007 x14).f3) ((rd_T49 x346007 x14).f4) ((rd_T49 x346007 x14).f5) ((rd_T49 x346007 x14).f6) ((rd_T49 x346007 x14).f7) ((rd_T49 x346007 x14).f8) ((rd_T49 x346007 x14).f9))) else (none)) else (none)) else (some (x11, x12, x13))
def celluloidref15_styles.j1 : Nat → Int → Int → Int → Int → Int → Int → Int → Int → Int → Int → Int → Int → Int → Int → List (S65) → List (S79) → List (S49) → Int → Int → Int → Int → Int → Int → Int → Int → List (S65) → List (S79) → Option (Int × Int × Int)
  | 0, _, _, _, _, _, _, _, _, _, _, _, _, _, _, _, _, _, _, _, _, _, _, _, _, _, _, _ => none
  | k + 1, x1, x7, x8, x9, x10, x11, x12, x13, x14, x346000, x346001, x346002, x346003, x346004, x346005, x346006, x346007, x348000, x348001, x348002, x348003, x348004, x348005, x348006, x348007, x348008, x348009 => if x348000 = 2 then ((celluloidref15_number.f x11 x348005 x7).bind fun t348 => ((celluloidref15_number.f x12 x348006 x7).bind fun t349 => ((celluloidref15_number.f x13 x348007 x8).bind fun t350 => (celluloidref15_styles.l0 k x1 x7 x8 x9 x10 t348 t349 t350 (wrap64 (x14 + 1)) x346000 x346001 x346002 x346003 x346004 x346005 x346006 x346007)))) else (celluloidref15_styles.l0 k x1 x7 x8 x9 x10 x11 x12 x13 (wrap64 (x14 + 1)) x346000 x346001 x346002 x346003 x346004 x346005 x346006 x346007)
end
def celluloidref15_styles.f (k : Nat) (a0_0 : Int) (a0_1 : Int) (a0_2 : Int) (a0_3 : Int) (a0_4 : Int) (l0_5 : List (S65)) (l0_6 : List (S79)) (l0_7 : List (S49)) (a1 : Int) : Option (Int × Int × Int) := celluloidref15_styles.l0 k a1 0 0 (l0_5.length : Int) (l0_6.length : Int) 0 0 0 0 a0_0 a0_1 a0_2 a0_3 a0_4 l0_5 l0_6 l0_7
theorem celluloidref15_styles.mono_l : ∀ k, (∀ y0 y1 y2 y3 y4 y5 y6 y7 y8 y9 y10 y11 y12 y13 y14 y15 y16, LeO (celluloidref15_styles.l0 k y0 y1 y2 y3 y4 y5 y6 y7 y8 y9 y10 y11 y12 y13 y14 y15 y16) (celluloidref15_styles.l0 (k + 1) y0 y1 y2 y3 y4 y5 y6 y7 y8 y9 y10 y11 y12 y13 y14 y15 y16)) ∧ (∀ y0 y1 y2 y3 y4 y5 y6 y7 y8 y9 y10 y11 y12 y13 y14 y15 y16 y17 y18 y19 y20 y21 y22 y23 y24 y25 y26, LeO (celluloidref15_styles.j1 k y0 y1 y2 y3 y4 y5 y6 y7 y8 y9 y10 y11 y12 y13 y14 y15 y16 y17 y18 y19 y20 y21 y22 y23 y24 y25 y26) (celluloidref15_styles.j1 (k + 1) y0 y1 y2 y3 y4 y5 y6 y7 y8 y9 y10 y11 y12 y13 y14 y15 y16 y17 y18 y19 y20 y21 y22 y23 y24 y25 y26))
  | 0 => ⟨fun _ _ _ _ _ _ _ _ _ _ _ _ _ _ _ _ _ r h => by simp [celluloidref15_styles.l0] at h, fun _ _ _ _ _ _ _ _ _ _ _ _ _ _ _ _ _ _ _ _ _ _ _ _ _ _ _ r h => by simp [celluloidref15_styles.j1] at h⟩
  | k + 1 => by
    obtain ⟨ih0, ih1⟩ := celluloidref15_styles.mono_l k
    refine ⟨?_, ?_⟩
    · intro y0 y1 y2 y3 y4 y5 y6 y7 y8 y9 y10 y11 y12 y13 y14 y15 y16
      unfold celluloidref15_styles.l0
      repeat' first
      | with_reducible exact ih0 _ _ _ _ _ _ _ _ _ _ _ _ _ _ _ _ _
      | with_reducible exact ih1 _ _ _ _ _ _ _ _ _ _ _ _ _ _ _ _ _ _ _ _ _ _ _ _ _ _ _
      | with_reducible exact LeO.refl _
      | with_reducible exact LeO.none _
      | with_reducible refine LeO.ite ?_ ?_
      | with_reducible refine LeO.bind ?_ (fun _ => ?_)
    · intro y0 y1 y2 y3 y4 y5 y6 y7 y8 y9 y10 y11 y12 y13 y14 y15 y16 y17 y18 y19 y20 y21 y22 y23 y24 y25 y26
      unfold celluloidref15_styles.j1
      repeat' first
      | with_reducible exact ih0 _ _ _ _ _ _ _ _ _ _ _ _ _ _ _ _ _
      | with_reducible exact ih1 _ _ _ _ _ _ _ _ _ _ _ _ _ _ _ _ _ _ _ _ _ _ _ _ _ _ _
      | with_reducible exact LeO.refl _
      | with_reducible exact LeO.none _
      | with_reducible refine LeO.ite ?_ ?_
      | with_reducible refine LeO.bind ?_ (fun _ => ?_)
theorem celluloidref15_styles.mono : ∀ a0 a1 a2 a3 a4 a5 a6 a7 a8 k, LeO (celluloidref15_styles.f k a0 a1 a2 a3 a4 a5 a6 a7 a8) (celluloidref15_styles.f (k + 1) a0 a1 a2 a3 a4 a5 a6 a7 a8) := by
  intro a0 a1 a2 a3 a4 a5 a6 a7 a8 k
  obtain ⟨ih0, ih1⟩ := celluloidref15_styles.mono_l k
  unfold celluloidref15_styles.f
  repeat' first
      | with_reducible exact ih0 _ _ _ _ _ _ _ _ _ _ _ _ _ _ _ _ _
      | with_reducible exact ih1 _ _ _ _ _ _ _ _ _ _ _ _ _ _ _ _ _ _ _ _ _ _ _ _ _ _ _
      | with_reducible exact LeO.refl _
      | with_reducible exact LeO.none _
      | with_reducible refine LeO.ite ?_ ?_
      | with_reducible refine LeO.bind ?_ (fun _ => ?_)
set_option maxHeartbeats 8000000 in
set_option maxRecDepth 100000 in
theorem celluloidref15_styles.cn {a0_0 a0_1 a0_2 a0_3 a0_4 a1 r1 r2 r3 : Int} {k : Nat} {A0_5 : Option Addr} {n0_5 c0_5 : Nat} {l0_5 : List (S65)} {A0_6 : Option Addr} {n0_6 c0_6 : Nat} {l0_6 : List (S79)} {A0_7 : Option Addr} {n0_7 c0_7 : Nat} {l0_7 : List (S49)} {w : World} (h : celluloidref15_styles.f k a0_0 a0_1 a0_2 a0_3 a0_4 l0_5 l0_6 l0_7 a1 = some (r1, r2, r3)) (hr0_5 : Kd.C k65 w A0_5 n0_5 l0_5) (hc0_5 : n0_5 ≤ c0_5) (hr0_6 : Kd.C k79 w A0_6 n0_6 l0_6) (hc0_6 : n0_6 ≤ c0_6) (hr0_7 : Kd.C k49 w A0_7 n0_7 l0_7) (hc0_7 : n0_7 ≤ c0_7) :
    Calls Try.prog 27 #[.agg #[.int .i64 a0_0, .int .i64 a0_1, .int .i64 a0_2, .int .i64 a0_3, .int .i64 a0_4, .slice A0_5 n0_5 c0_5, .slice A0_6 n0_6 c0_6, .slice A0_7 n0_7 c0_7], .int .i64 a1] w fun e w' => e = .returned (.tuple #[.int .i64 r1, .int .i64 r2, .int .i64 r3]) ∧ Below w.heap.size w w' := by
  obtain rfl := hr0_5.1
  obtain rfl := hr0_6.1
  obtain rfl := hr0_7.1
  have HC0_5 := za hr0_5; have HL0_5 := za hc0_5; clear hr0_5 hc0_5
  have HC0_6 := za hr0_6; have HL0_6 := za hc0_6; clear hr0_6 hc0_6
  have HC0_7 := za hr0_7; have HL0_7 := za hc0_7; clear hr0_7 hc0_7
  have hu38 := Try.underlying38
  have hu49 := Try.underlying49
  unfold celluloidref15_styles.f at h
  repeat' first
    | (with_reducible replace h := zs h)
    | (with_reducible replace h := zez h (by assumption) (by decide))
    | (with_reducible replace h := zb h; obtain ⟨t, A, h⟩ := h)
    | (with_reducible first | replace h := z1 h | replace h := z0 h | replace h := zep h (by assumption) | replace h := zen h (by assumption) | replace h := zcp h (by assumption) | replace h := zcn h (by assumption) | replace h := zbp h (by assumption) | replace h := zbn h (by assumption))
    | (with_reducible (first | replace h := zx h | replace h := zt h); obtain ⟨rfl, h⟩ | ⟨rfl, h⟩ := h)
    | (with_reducible (first | replace h := zd h | replace h := zl h | replace h := zm h); obtain ⟨c, h⟩ | ⟨c, h⟩ := h)
    | (with_reducible (first | replace h := ze h | replace h := zg h); obtain ⟨c, c', h⟩ | ⟨c, c', h⟩ := h)
    | (with_reducible replace h := zt h; obtain ⟨c, h⟩ | ⟨c, h⟩ := h)
    | (with_reducible replace h := Option.some.inj h; subst h)
    | (with_reducible exact (zn h).elim)
    | (obtain _ | k := k; exact absurd h (by simp [celluloidref15_styles.j1]); simp only [celluloidref15_styles.j1, if_true, if_false, Bool.false_eq_true] at h)
    | (simp only [Option.some.injEq, Prod.mk.injEq] at h; obtain ⟨rfl, rfl, rfl⟩ := h)
  all_goals
    try (have H' := za h; clear h)
    go_enter Try.func27, Try.ntmps27
    go_wp2_with (first
      | ((with_reducible refine zq ?_); first | go_quiet ((first | (go_at_call 37; refine Calls.quiet_of ((celluloidref15_number.cn (by assumption : Aside0 _).out).mono fun _ _ h => ⟨h.1, h.2.out⟩)))))
      | (go_at_call 37; refine (celluloidref15_number.cn (by assumption : Aside0 _).out).mono ?_; rintro e w' ⟨rfl, ⟨n, rfl⟩⟩))
  all_goals first
    | (go_ret3; exact ⟨rfl, Bw.out⟩)
    | (go_loopg [7, 8, 9, 10, 11, 12, 13, 14] k (fun kq v7 v8 v9 v10 v11 v12 v13 v14 w' => ∃ (x7_1 : Int) (x8_1 : Int) (x9_1 : Int) (x10_1 : Int) (x11_1 : Int) (x12_1 : Int) (x13_1 : Int) (x14_1 : Int), v7 = .int .i64 x7_1 ∧ v8 = .int .i64 x8_1 ∧ v9 = .int .i64 x9_1 ∧ v10 = .int .i64 x10_1 ∧ v11 = .int .i64 x11_1 ∧ v12 = .int .i64 x12_1 ∧ v13 = .int .i64 x13_1 ∧ v14 = .int .i64 x14_1 ∧ Aside0 (celluloidref15_styles.l0 kq a1 x7_1 x8_1 x9_1 x10_1 x11_1 x12_1 x13_1 x14_1 a0_0 a0_1 a0_2 a0_3 a0_4 l0_5 l0_6 l0_7 = some (r1, r2, r3)) ∧ Aside0 (kq ≤ k) ∧ Aside0 (w'.heap[w.heap.size]? = some (.cells #[.int .i64 a0_0, .int .i64 a0_1, .int .i64 a0_2, .int .i64 a0_3, .int .i64 a0_4, .slice A0_5 l0_5.length c0_5, .slice A0_6 l0_6.length c0_6, .slice A0_7 l0_7.length c0_7] 38 (0, 0))) ∧ Aside0 (Below w.heap.size w w'))
       case atStart => exact ⟨_, _, _, _, _, _, _, _, rfl, rfl, rfl, rfl, rfl, rfl, rfl, rfl, H', ⟨Nat.le_refl _⟩, ⟨by (with_reducible repeat (first | exact (by assumption : Aside0 _).out | (refine znew ?_; simp only [World.size_alloc, World.heap_drewN, heap_drew]; done) | refine blk_alloc ?_ _ | refine blk_drewN ?_ _ | refine blk_drew ?_ | refine blk_below ?_ Bs.out | apply zput | (refine zfar ?_ ?_; (focus omega)))) <;> rfl⟩, ⟨Bw.out⟩⟩
       case round =>
        obtain ⟨x7_1, x8_1, x9_1, x10_1, x11_1, x12_1, x13_1, x14_1, rfl, rfl, rfl, rfl, rfl, rfl, rfl, rfl, HA, HK1, BK0, HB⟩ := hrel
        have HB := Bw.mk HB.out; clear H'
        cases gk with
        | zero => exact absurd HA.out (by simp [celluloidref15_styles.l0])
        | succ k1 =>
          have h := HA.out; clear HA; simp only [celluloidref15_styles.l0] at h
          repeat' first
            | (with_reducible replace h := zs h)
            | (with_reducible replace h := zez h (by assumption) (by decide))
            | (with_reducible replace h := zb h; obtain ⟨t, A, h⟩ := h)
            | (with_reducible first | replace h := z1 h | replace h := z0 h | replace h := zep h (by assumption) | replace h := zen h (by assumption) | replace h := zcp h (by assumption) | replace h := zcn h (by assumption) | replace h := zbp h (by assumption) | replace h := zbn h (by assumption))
            | (with_reducible (first | replace h := zx h | replace h := zt h); obtain ⟨rfl, h⟩ | ⟨rfl, h⟩ := h)
            | (with_reducible (first | replace h := zd h | replace h := zl h | replace h := zm h); obtain ⟨c, h⟩ | ⟨c, h⟩ := h)
            | (with_reducible (first | replace h := ze h | replace h := zg h); obtain ⟨c, c', h⟩ | ⟨c, c', h⟩ := h)
            | (with_reducible replace h := zt h; obtain ⟨c, h⟩ | ⟨c, h⟩ := h)
            | (with_reducible replace h := Option.some.inj h; subst h)
            | (with_reducible exact (zn h).elim)
            | (obtain _ | k1 := k1; exact absurd h (by simp [celluloidref15_styles.j1]); simp only [celluloidref15_styles.j1, if_true, if_false, Bool.false_eq_true] at h)
            | (simp only [Option.some.injEq, Prod.mk.injEq] at h; obtain ⟨rfl, rfl, rfl⟩ := h)
          all_goals
            obtain ⟨hc0, hf0, hz0⟩ := zo BK0.out
            have HN : Lw w wr 1 := ⟨by have := blk_lt BK0.out; omega⟩
            try (refine zat49 (W := wr) HC0_7 x14_1 ?_ ?_ ?_; assumption; assumption; rintro ad ⟨⟩; intros)
            try (have H' := za h; clear h)
            go_wp2_with (first
              | ((with_reducible refine zq ?_); first | go_quiet ((first | (go_at_call 37; refine Calls.quiet_of ((celluloidref15_number.cn (by assumption : Aside0 _).out).mono fun _ _ h => ⟨h.1, h.2.out⟩)))))
              | (go_at_call 37; refine (celluloidref15_number.cn (by assumption : Aside0 _).out).mono ?_; rintro e w' ⟨rfl, ⟨n, rfl⟩⟩))
          all_goals first
            | (go_ret3; exact ⟨rfl, Bw.out⟩)
            | (go_roundg k1
               case measure => have := HK1.out; omega
               case rel => exact ⟨_, _, _, _, _, _, _, _, rfl, rfl, rfl, rfl, rfl, rfl, rfl, rfl, H', ⟨by have := HK1.out; omega⟩, ⟨by (with_reducible repeat (first | exact (by assumption : Aside0 _).out | (refine znew ?_; simp only [World.size_alloc, World.heap_drewN, heap_drew]; done) | refine blk_alloc ?_ _ | refine blk_drewN ?_ _ | refine blk_drew ?_ | refine blk_below ?_ Bs.out | apply zput | (refine zfar ?_ ?_; (focus omega)))) <;> rfl⟩, ⟨Bw.out⟩⟩))
theorem celluloidref15_styles.calls (k : Nat) (a0_0 : Int) (a0_1 : Int) (a0_2 : Int) (a0_3 : Int) (a0_4 : Int) (A0_5 : Option Addr) (c0_5 : Nat) (l0_5 : List (S65)) (A0_6 : Option Addr) (c0_6 : Nat) (l0_6 : List (S79)) (A0_7 : Option Addr) (c0_7 : Nat) (l0_7 : List (S49)) (a1 : Int) (r1 : Int) (r2 : Int) (r3 : Int) (w : World) (hr0_5 : Kd.C k65 w A0_5 l0_5.length l0_5) (hc0_5 : l0_5.length ≤ c0_5) (hr0_6 : Kd.C k79 w A0_6 l0_6.length l0_6) (hc0_6 : l0_6.length ≤ c0_6) (hr0_7 : Kd.C k49 w A0_7 l0_7.length l0_7) (hc0_7 : l0_7.length ≤ c0_7) (h : celluloidref15_styles.f k a0_0 a0_1 a0_2 a0_3 a0_4 l0_5 l0_6 l0_7 a1 = some (r1, r2, r3)) :
    Calls Try.prog 27 #[.agg #[.int .i64 a0_0, .int .i64 a0_1, .int .i64 a0_2, .int .i64 a0_3, .int .i64 a0_4, .slice A0_5 l0_5.length c0_5, .slice A0_6 l0_6.length c0_6, .slice A0_7 l0_7.length c0_7], .int .i64 a1] w fun e w' => e = .returned (.tuple #[.int .i64 r1, .int .i64 r2, .int .i64 r3]) ∧ Below w.heap.size w w' := celluloidref15_styles.cn h hr0_5 hc0_5 hr0_6 hc0_6 hr0_7 hc0_7

/-! ### celluloidref15_at: function 26 -/
def celluloidref15_at.l0 : Nat → List (S49) → Int → Int → Int → Int → Option (Int × Int)
  | 0, _, _, _, _, _ => none
  | k + 1, x0, x1, x6, x343000, x343001 => if x6 < x1 then (if 0 ≤ x6 then (if x6 < (x0.length : Int) then (if ((rd_T49 x0 x6).f0) = 1 then (if ((rd_T49 x0 x6).f0) > 3 then (celluloidref15_at.l0 k x0 x1 (wrap64 (x6 + 1)) (wrap64 ((wrap64 (((rd_T49 x0 x6).f1) + ((rd_T49 x0 x6).f3))) + ((rd_T49 x0 x6).f1))) (wrap64 ((wrap64 (((rd_T49 x0 x6).f2) + ((rd_T49 x0 x6).f4))) + ((rd_T49 x0 x6).f2)))) else (celluloidref15_at.l0 k x0 x1 (wrap64 (x6 + 1)) ((rd_T49 x0 x6).f1) ((rd_T49 x0 x6).f2))) else (if ((rd_T49 x0 x6).f0) > 3 then (celluloidref15_at.l0 k x0 x1 (wrap64 (x6 + 1)) (wrap64 ((wrap64 (x343000 + ((rd_T49 x0 x6).f3))) + ((rd_T49 x0 x6).f1))) (wrap64 ((wrap64 (x343001 + ((rd_T49 x0 x6).f4))) + ((rd_T49 x0 x6).f2)))) else (celluloidref15_at.l0 k x0 x1 (wrap64 (x6 + 1)) x343000 x343001))) else (none)) else (none)) else (some (x343000, x343001))
def celluloidref15_at.f (k : Nat) (l0 : List (S49)) (a1 : Int) : Option (Int × Int) := celluloidref15_at.l0 k l0 a1 0 0 0
theorem celluloidref15_at.mono_l : ∀ k, (∀ y0 y1 y2 y3 y4, LeO (celluloidref15_at.l0 k y0 y1 y2 y3 y4) (celluloidref15_at.l0 (k + 1) y0 y1 y2 y3 y4))
  | 0 => fun _ _ _ _ _ r h => by simp [celluloidref15_at.l0] at h
  | k + 1 => by
    have ih0 := celluloidref15_at.mono_l k
    · intro y0 y1 y2 y3 y4
      unfold celluloidref15_at.l0
      repeat' first
      | with_reducible exact ih0 _ _ _ _ _
      | with_reducible exact LeO.refl _
      | with_reducible exact LeO.none _
      | with_reducible refine LeO.ite ?_ ?_
      | with_reducible refine LeO.bind ?_ (fun _ => ?_)
theorem celluloidref15_at.mono : ∀ a0 a1 k, LeO (celluloidref15_at.f k a0 a1) (celluloidref15_at.f (k + 1) a0 a1) := by
  intro a0 a1 k
  have ih0 := celluloidref15_at.mono_l k
  unfold celluloidref15_at.f
  repeat' first
      | with_reducible exact ih0 _ _ _ _ _
      | with_reducible exact LeO.refl _
      | with_reducible exact LeO.none _
      | with_reducible refine LeO.ite ?_ ?_
      | with_reducible refine LeO.bind ?_ (fun _ => ?_)
set_option maxHeartbeats 8000000 in
set_option maxRecDepth 100000 in
theorem celluloidref15_at.cn {a1 r1 r2 : Int} {k : Nat} {A0 : Option Addr} {n0 c0 : Nat} {l0 : List (S49)} {w : World} (h : celluloidref15_at.f k l0 a1 = some (r1, r2)) (hr0 : Kd.C k49 w A0 n0 l0) (hc0 : n0 ≤ c0) :
    Calls Try.prog 26 #[.slice A0 n0 c0, .int .i64 a1] w fun e w' => e = .returned (.agg #[.int .i64 r1, .int .i64 r2]) ∧ Below w.heap.size w w' := by
  obtain rfl := hr0.1
  have HC0 := za hr0; have HL0 := za hc0; clear hr0 hc0
  have hu47 := Try.underlying47
  have hu49 := Try.underlying49
  unfold celluloidref15_at.f at h
  repeat' first
    | (with_reducible replace h := zs h)
    | (with_reducible replace h := zez h (by assumption) (by decide))
    | (with_reducible replace h := zb h; obtain ⟨t, A, h⟩ := h)
    | (with_reducible first | replace h := z1 h | replace h := z0 h | replace h := zep h (by assumption) | replace h := zen h (by assumption) | replace h := zcp h (by assumption) | replace h := zcn h (by assumption) | replace h := zbp h (by assumption) | replace h := zbn h (by assumption))
    | (with_reducible (first | replace h := zx h | replace h := zt h); obtain ⟨rfl, h⟩ | ⟨rfl, h⟩ := h)
    | (with_reducible (first | replace h := zd h | replace h := zl h | replace h := zm h); obtain ⟨c, h⟩ | ⟨c, h⟩ := h)
    | (with_reducible (first | replace h := ze h | replace h := zg h); obtain ⟨c, c', h⟩ | ⟨c, c', h⟩ := h)
    | (with_reducible replace h := zt h; obtain ⟨c, h⟩ | ⟨c, h⟩ := h)
    | (with_reducible replace h := Option.some.inj h; subst h)
    | (with_reducible exact (zn h).elim)
    | (simp only [Option.some.injEq, Prod.mk.injEq] at h; obtain ⟨rfl, rfl⟩ := h)
  all_goals
    try (have H' := za h; clear h)
    go_enter Try.func26, Try.ntmps26
    go_wp2_with (first
      | ((with_reducible refine zq ?_); first | go_quiet (fail)))
  all_goals first
    | (exact bodyPost_ret (v := .agg #[.int .i64 x343000_1, .int .i64 x343001_1]) (by simp [results, Try.results26, go_sem, hc0, hc1, hf0, hf1]) rfl ⟨rfl, Bw.out⟩)
    | (go_loopg [6] k (fun kq v6 w' => ∃ (x6_1 : Int) (x343000_1 : Int) (x343001_1 : Int), v6 = .int .i64 x6_1 ∧ Aside0 (celluloidref15_at.l0 kq l0 a1 x6_1 x343000_1 x343001_1 = some (r1, r2)) ∧ Aside0 (kq ≤ k) ∧ Aside0 (w'.heap[w.heap.size]? = some (.cells #[.int .i64 0, .int .i64 0] 47 (0, 0))) ∧ Aside0 (w'.heap[w.heap.size + 1]? = some (.cells #[.int .i64 x343000_1, .int .i64 x343001_1] 47 (0, 0))) ∧ Aside0 (Below w.heap.size w w'))
       case atStart => exact ⟨_, _, _, rfl, H', ⟨Nat.le_refl _⟩, ⟨by (with_reducible repeat (first | exact (by assumption : Aside0 _).out | (refine znew ?_; simp only [World.size_alloc, World.heap_drewN, heap_drew]; done) | refine blk_alloc ?_ _ | refine blk_drewN ?_ _ | refine blk_drew ?_ | refine blk_below ?_ Bs.out | apply zput | (refine zfar ?_ ?_; (focus omega)))) <;> rfl⟩, ⟨by (with_reducible repeat (first | exact (by assumption : Aside0 _).out | (refine znew ?_; simp only [World.size_alloc, World.heap_drewN, heap_drew]; done) | refine blk_alloc ?_ _ | refine blk_drewN ?_ _ | refine blk_drew ?_ | refine blk_below ?_ Bs.out | apply zput | (refine zfar ?_ ?_; (focus omega)))) <;> rfl⟩, ⟨Bw.out⟩⟩
       case round =>
        obtain ⟨x6_1, x343000_1, x343001_1, rfl, HA, HK1, BK0, BK1, HB⟩ := hrel
        have HB := Bw.mk HB.out; clear H'
        cases gk with
        | zero => exact absurd HA.out (by simp [celluloidref15_at.l0])
        | succ k1 =>
          have h := HA.out; clear HA; simp only [celluloidref15_at.l0] at h
          repeat' first
            | (with_reducible replace h := zs h)
            | (with_reducible replace h := zez h (by assumption) (by decide))
            | (with_reducible replace h := zb h; obtain ⟨t, A, h⟩ := h)
            | (with_reducible first | replace h := z1 h | replace h := z0 h | replace h := zep h (by assumption) | replace h := zen h (by assumption) | replace h := zcp h (by assumption) | replace h := zcn h (by assumption) | replace h := zbp h (by assumption) | replace h := zbn h (by assumption))
            | (with_reducible (first | replace h := zx h | replace h := zt h); obtain ⟨rfl, h⟩ | ⟨rfl, h⟩ := h)
            | (with_reducible (first | replace h := zd h | replace h := zl h | replace h := zm h); obtain ⟨c, h⟩ | ⟨c, h⟩ := h)
            | (with_reducible (first | replace h := ze h | replace h := zg h); obtain ⟨c, c', h⟩ | ⟨c, c', h⟩ := h)
            | (with_reducible replace h := zt h; obtain ⟨c, h⟩ | ⟨c, h⟩ := h)
            | (with_reducible replace h := Option.some.inj h; subst h)
            | (with_reducible exact (zn h).elim)
            | (simp only [Option.some.injEq, Prod.mk.injEq] at h; obtain ⟨rfl, rfl⟩ := h)
          all_goals
            obtain ⟨hc0, hf0, hz0⟩ := zo BK0.out
            obtain ⟨hc1, hf1, hz1⟩ := zo BK1.out
            have HN : Lw w wr 2 := ⟨by have := blk_lt BK1.out; omega⟩
            try (refine zat49 (W := wr) HC0 x6_1 ?_ ?_ ?_; assumption; assumption; rintro ad ⟨⟩; intros)
            try (have H' := za h; clear h)
            go_wp2_with (first
              | ((with_reducible refine zq ?_); first | go_quiet (fail)))
          all_goals first
            | (exact bodyPost_ret (v := .agg #[.int .i64 x343000_1, .int .i64 x343001_1]) (by simp [results, Try.results26, go_sem, hc0, hc1, hf0, hf1]) rfl ⟨rfl, Bw.out⟩)
            | (go_roundg k1
               case measure => have := HK1.out; omega
               case rel => exact ⟨_, _, _, rfl, H', ⟨by have := HK1.out; omega⟩, ⟨by (with_reducible repeat (first | exact (by assumption : Aside0 _).out | (refine znew ?_; simp only [World.size_alloc, World.heap_drewN, heap_drew]; done) | refine blk_alloc ?_ _ | refine blk_drewN ?_ _ | refine blk_drew ?_ | refine blk_below ?_ Bs.out | apply zput | (refine zfar ?_ ?_; (focus omega)))) <;> rfl⟩, ⟨by (with_reducible repeat (first | exact (by assumption : Aside0 _).out | (refine znew ?_; simp only [World.size_alloc, World.heap_drewN, heap_drew]; done) | refine blk_alloc ?_ _ | refine blk_drewN ?_ _ | refine blk_drew ?_ | refine blk_below ?_ Bs.out | apply zput | (refine zfar ?_ ?_; (focus omega)))) <;> rfl⟩, ⟨Bw.out⟩⟩))
theorem celluloidref15_at.calls (k : Nat) (A0 : Option Addr) (c0 : Nat) (l0 : List (S49)) (a1 : Int) (r1 : Int) (r2 : Int) (w : World) (hr0 : Kd.C k49 w A0 l0.length l0) (hc0 : l0.length ≤ c0) (h : celluloidref15_at.f k l0 a1 = some (r1, r2)) :
    Calls Try.prog 26 #[.slice A0 l0.length c0, .int .i64 a1] w fun e w' => e = .returned (.agg #[.int .i64 r1, .int .i64 r2]) ∧ Below w.heap.size w w' := celluloidref15_at.cn h hr0 hc0

end Go.Proofs.Ytlldbmodidhidaa.P
