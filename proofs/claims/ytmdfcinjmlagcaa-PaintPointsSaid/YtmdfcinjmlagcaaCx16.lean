/- Walks by cw.py (wip/tool): plain functions that tell what the program answers, and the proofs that the program comes to these answers, for all arguments of their kinds. -/
import Derived.Test.YtmdfcinjmlagcaaCwR
namespace Go.Proofs.Ytmdfcinjmlagcaa.P
open Go.RowKit Go.Proofs.YtmdfcinjmlagcaaW.PrintWords Go.Proofs.YtmdfcinjmlagcaaW.PrintLast Go.Proofs.YtmdfcinjmlagcaaW.PrintMore
attribute [local go_sem] max2_int min2_int max_two min_two max_three min_three max_four min_four max_five min_five max_six min_six
set_option linter.unusedVariables false
set_option linter.unusedSimpArgs false

/-! ### celluloidref01_Root: function 66 -/
def celluloidref01_Root.l0 : Nat → Int → Int → Int → Option (Int)
  | 0, _, _, _ => none
  | k + 1, x0, x3, x4 => if x4 > 0 then (if (wrap64 (x3 + x4)) ≤ 3037000499 then (if (wrap64 ((wrap64 (x3 + x4)) * (wrap64 (x3 + x4)))) ≤ x0 then (celluloidref01_Root.l0 k x0 (wrap64 (x3 + x4)) (wrap64 (Int.tdiv x4 2))) else (celluloidref01_Root.l0 k x0 x3 (wrap64 (Int.tdiv x4 2)))) else (celluloidref01_Root.l0 k x0 x3 (wrap64 (Int.tdiv x4 2)))) else (some x3)
def celluloidref01_Root.f (k : Nat) (a0 : Int) : Option (Int) := celluloidref01_Root.l0 k a0 0 2147483648
theorem celluloidref01_Root.mono_l : ∀ k, (∀ y0 y1 y2, LeO (celluloidref01_Root.l0 k y0 y1 y2) (celluloidref01_Root.l0 (k + 1) y0 y1 y2))
  | 0 => fun _ _ _ r h => by simp [celluloidref01_Root.l0] at h
  | k + 1 => by
    have ih0 := celluloidref01_Root.mono_l k
    · intro y0 y1 y2
      unfold celluloidref01_Root.l0
      repeat' first
      | with_reducible exact ih0 _ _ _
      | with_reducible exact LeO.refl _
      | with_reducible exact LeO.none _
      | with_reducible refine LeO.ite ?_ ?_
      | with_reducible refine LeO.bind ?_ (fun _ => ?_)
theorem celluloidref01_Root.mono : ∀ a0 k, LeO (celluloidref01_Root.f k a0) (celluloidref01_Root.f (k + 1) a0) := by
  intro a0 k
  have ih0 := celluloidref01_Root.mono_l k
  unfold celluloidref01_Root.f
  repeat' first
      | with_reducible exact ih0 _ _ _
      | with_reducible exact LeO.refl _
      | with_reducible exact LeO.none _
      | with_reducible refine LeO.ite ?_ ?_
      | with_reducible refine LeO.bind ?_ (fun _ => ?_)
set_option maxHeartbeats 8000000 in
set_option maxRecDepth 100000 in
theorem celluloidref01_Root.cn {a0 r : Int} {k : Nat} {w : World} (h : celluloidref01_Root.f k a0 = some r) :
    Calls Try.prog 66 #[.int .i64 a0] w fun e w' => e = .returned (.int .i64 r) ∧ Drawn0 w w' := by
  have HB := Drawn0.refl w
  unfold celluloidref01_Root.f at h
  repeat' first
    | (with_reducible replace h := zs h)
    | (with_reducible replace h := zez h (by assumption) (by decide))
    | (with_reducible replace h := zb h; obtain ⟨t, A, h⟩ := h)
    | (with_reducible first | replace h := z1 h | replace h := z0 h | replace h := zep h (by assumption) | replace h := zen h (by assumption) | replace h := zcp h (by assumption) | replace h := zcn h (by assumption) | replace h := zbp h (by assumption) | replace h := zbn h (by assumption))
    | (with_reducible (first | replace h := zx h | replace h := zt h); obtain ⟨rfl, h⟩ | ⟨rfl, h⟩ := h)
    | (with_reducible (first | replace h := zd h | replace h := zl h | replace h := zm h); obtain ⟨c, h⟩ | ⟨c, h⟩ := h)
    | (with_reducible replace h := zeq h; obtain ⟨c, c', h⟩ | ⟨c, c', cn, h⟩ := h)
    | (with_reducible (first | replace h := ze h | replace h := zg h); obtain ⟨c, c', h⟩ | ⟨c, c', h⟩ := h)
    | (with_reducible replace h := zt h; obtain ⟨c, h⟩ | ⟨c, h⟩ := h)
    | (with_reducible replace h := Option.some.inj h; subst h)
    | (with_reducible exact (zn h).elim)
  all_goals
    try (have H' := za h; clear h)
    go_enter Try.func66, Try.ntmps66
    go_wp2_with (first
      | ((with_reducible refine zq ?_); first | go_quiet (fail)))
  all_goals first
    | (first | (go_ret; exact ⟨rfl, by repeat (first | exact HB | exact Drawn0.refl _ | apply Drawn0.step)⟩))
    | (go_loopg [3, 4] k (fun kq v3 v4 w' => ∃ (x3_1 : Int) (x4_1 : Int), v3 = .int .i64 x3_1 ∧ v4 = .int .i64 x4_1 ∧ Aside0 (celluloidref01_Root.l0 kq a0 x3_1 x4_1 = some r) ∧ Aside0 (kq ≤ k) ∧ Drawn0 w w')
       case atStart => exact ⟨_, _, rfl, rfl, H', ⟨Nat.le_refl _⟩, by repeat (first | exact HB | exact Drawn0.refl _ | apply Drawn0.step)⟩
       case round =>
        obtain ⟨x3_1, x4_1, rfl, rfl, HA, HK1, HB⟩ := hrel
        have HW := Bw.mk HB.below; clear H'
        cases gk with
        | zero => exact absurd HA.out (by simp [celluloidref01_Root.l0])
        | succ k1 =>
          have h := HA.out; clear HA; simp only [celluloidref01_Root.l0] at h
          repeat' first
            | (with_reducible replace h := zs h)
            | (with_reducible replace h := zez h (by assumption) (by decide))
            | (with_reducible replace h := zb h; obtain ⟨t, A, h⟩ := h)
            | (with_reducible first | replace h := z1 h | replace h := z0 h | replace h := zep h (by assumption) | replace h := zen h (by assumption) | replace h := zcp h (by assumption) | replace h := zcn h (by assumption) | replace h := zbp h (by assumption) | replace h := zbn h (by assumption))
            | (with_reducible (first | replace h := zx h | replace h := zt h); obtain ⟨rfl, h⟩ | ⟨rfl, h⟩ := h)
            | (with_reducible (first | replace h := zd h | replace h := zl h | replace h := zm h); obtain ⟨c, h⟩ | ⟨c, h⟩ := h)
            | (with_reducible replace h := zeq h; obtain ⟨c, c', h⟩ | ⟨c, c', cn, h⟩ := h)
            | (with_reducible (first | replace h := ze h | replace h := zg h); obtain ⟨c, c', h⟩ | ⟨c, c', h⟩ := h)
            | (with_reducible replace h := zt h; obtain ⟨c, h⟩ | ⟨c, h⟩ := h)
            | (with_reducible replace h := Option.some.inj h; subst h)
            | (with_reducible exact (zn h).elim)
          all_goals
            have HN : Lw w wr 0 := ⟨HW.out.size⟩
            try (have H' := za h; clear h)
            go_wp2_with (first
              | ((with_reducible refine zq ?_); first | go_quiet (fail)))
          all_goals first
            | (first | (go_ret; exact ⟨rfl, by repeat (first | exact HB | exact Drawn0.refl _ | apply Drawn0.step)⟩))
            | (go_roundg k1
               case measure => have := HK1.out; omega
               case rel => exact ⟨_, _, rfl, rfl, H', ⟨by have := HK1.out; omega⟩, by repeat (first | exact HB | exact Drawn0.refl _ | apply Drawn0.step)⟩))

/-! ### celluloidref19_end: function 65 -/
def celluloidref19_end.f (a0 : Int) : Option (Int) := if a0 > 1073741824 then (some 1073741824) else (if a0 < (-1073741824) then (some (-1073741824)) else (some a0))

set_option maxHeartbeats 8000000 in
set_option maxRecDepth 100000 in
theorem celluloidref19_end.cn {a0 r : Int} {w : World} (h : celluloidref19_end.f a0 = some r) :
    Calls Try.prog 65 #[.int .i64 a0] w fun e w' => e = .returned (.int .i64 r) ∧ Drawn0 w w' := by
  have HB := Drawn0.refl w
  unfold celluloidref19_end.f at h
  repeat' first
    | (with_reducible replace h := zs h)
    | (with_reducible replace h := zez h (by assumption) (by decide))
    | (with_reducible replace h := zb h; obtain ⟨t, A, h⟩ := h)
    | (with_reducible first | replace h := z1 h | replace h := z0 h | replace h := zep h (by assumption) | replace h := zen h (by assumption) | replace h := zcp h (by assumption) | replace h := zcn h (by assumption) | replace h := zbp h (by assumption) | replace h := zbn h (by assumption))
    | (with_reducible (first | replace h := zx h | replace h := zt h); obtain ⟨rfl, h⟩ | ⟨rfl, h⟩ := h)
    | (with_reducible (first | replace h := zd h | replace h := zl h | replace h := zm h); obtain ⟨c, h⟩ | ⟨c, h⟩ := h)
    | (with_reducible (first | replace h := ze h | replace h := zg h); obtain ⟨c, c', h⟩ | ⟨c, c', h⟩ := h)
    | (with_reducible replace h := zt h; obtain ⟨c, h⟩ | ⟨c, h⟩ := h)
    | (with_reducible replace h := Option.some.inj h; subst h)
    | (with_reducible exact (zn h).elim)
  all_goals
    try (have H' := za h; clear h)
    go_enter Try.func65, Try.ntmps65
    go_wp2_with (first
      | ((with_reducible refine zq ?_); first | go_quiet (fail)))
  all_goals first
    | (first | (go_ret; exact ⟨rfl, by repeat (first | exact HB | exact Drawn0.refl _ | apply Drawn0.step)⟩))

/-! ### celluloidref19_modulo: function 67 -/
def celluloidref19_modulo.f (a0 : Int) (a1 : Int) : Option (Int) := if a1 = 0 then (none) else (if (Int.tmod a0 a1) < 0 then (some (wrap64 ((Int.tmod a0 a1) + a1))) else (some (Int.tmod a0 a1)))

set_option maxHeartbeats 8000000 in
set_option maxRecDepth 100000 in
theorem celluloidref19_modulo.cn {a0 a1 r : Int} {w : World} (h : celluloidref19_modulo.f a0 a1 = some r) :
    Calls Try.prog 67 #[.int .i64 a0, .int .i64 a1] w fun e w' => e = .returned (.int .i64 r) ∧ Drawn0 w w' := by
  have HB := Drawn0.refl w
  unfold celluloidref19_modulo.f at h
  repeat' first
    | (with_reducible replace h := zs h)
    | (with_reducible replace h := zez h (by assumption) (by decide))
    | (with_reducible replace h := zb h; obtain ⟨t, A, h⟩ := h)
    | (with_reducible first | replace h := z1 h | replace h := z0 h | replace h := zep h (by assumption) | replace h := zen h (by assumption) | replace h := zcp h (by assumption) | replace h := zcn h (by assumption) | replace h := zbp h (by assumption) | replace h := zbn h (by assumption))
    | (with_reducible (first | replace h := zx h | replace h := zt h); obtain ⟨rfl, h⟩ | ⟨rfl, h⟩ := h)
    | (with_reducible (first | replace h := zd h | replace h := zl h | replace h := zm h); obtain ⟨c, h⟩ | ⟨c, h⟩ := h)
    | (with_reducible replace h := zeq h; obtain ⟨c, c', h⟩ | ⟨c, c', cn, h⟩ := h)
    | (with_reducible (first | replace h := ze h | replace h := zg h); obtain ⟨c, c', h⟩ | ⟨c, c', h⟩ := h)
    | (with_reducible replace h := zt h; obtain ⟨c, h⟩ | ⟨c, h⟩ := h)
    | (with_reducible replace h := Option.some.inj h; subst h)
    | (with_reducible exact (zn h).elim)
  all_goals
    try (have H' := za h; clear h)
    go_enter Try.func67, Try.ntmps67
    go_wp2_with (first
      | ((with_reducible refine zq ?_); first | go_quiet (fail)))
  all_goals first
    | (first | (go_ret; exact ⟨rfl, by repeat (first | exact HB | exact Drawn0.refl _ | apply Drawn0.step)⟩))

/-! ### celluloidref19_Fold: function 69 -/
def celluloidref19_Fold.f (a0 : Int) (a1 : Int) : Option (Int) := if a1 = 0 then (if a0 < 0 then (some 0) else (if a0 > 255 then (some 255) else (some a0))) else (if a1 = 1 then ((celluloidref19_modulo.f a0 512).bind fun t493 => (if t493 > 255 then (some (wrap64 (511 - t493))) else (some t493))) else (if a1 = 2 then ((celluloidref19_modulo.f a0 256).bind fun t494 => (some t494)) else (some 0)))

set_option maxHeartbeats 8000000 in
set_option maxRecDepth 100000 in
theorem celluloidref19_Fold.cn {a0 a1 r : Int} {w : World} (h : celluloidref19_Fold.f a0 a1 = some r) :
    Calls Try.prog 69 #[.int .i64 a0, .int .i64 a1] w fun e w' => e = .returned (.int .i64 r) ∧ Drawn0 w w' := by
  have HB := Drawn0.refl w
  unfold celluloidref19_Fold.f at h
  repeat' first
    | (with_reducible replace h := zs h)
    | (with_reducible replace h := zez h (by assumption) (by decide))
    | (with_reducible replace h := zb h; obtain ⟨t, A, h⟩ := h)
    | (with_reducible first | replace h := z1 h | replace h := z0 h | replace h := zep h (by assumption) | replace h := zen h (by assumption) | replace h := zcp h (by assumption) | replace h := zcn h (by assumption) | replace h := zbp h (by assumption) | replace h := zbn h (by assumption))
    | (with_reducible (first | replace h := zx h | replace h := zt h); obtain ⟨rfl, h⟩ | ⟨rfl, h⟩ := h)
    | (with_reducible (first | replace h := zd h | replace h := zl h | replace h := zm h); obtain ⟨c, h⟩ | ⟨c, h⟩ := h)
    | (with_reducible (first | replace h := ze h | replace h := zg h); obtain ⟨c, c', h⟩ | ⟨c, c', h⟩ := h)
    | (with_reducible replace h := zt h; obtain ⟨c, h⟩ | ⟨c, h⟩ := h)
    | (with_reducible replace h := Option.some.inj h; subst h)
    | (with_reducible exact (zn h).elim)
  all_goals
    try (have H' := za h; clear h)
    go_enter Try.func69, Try.ntmps69
    go_wp2_with (first
      | ((with_reducible refine zq ?_); first | go_quiet ((first | (go_at_call 67; refine Calls.quiet_of ((celluloidref19_modulo.cn (by assumption : Aside0 _).out).mono fun _ _ h => ⟨h.1, h.2.out⟩)))))
      | (go_at_call 67; refine (celluloidref19_modulo.cn (by assumption : Aside0 _).out).mono ?_; rintro e w' ⟨rfl, ⟨n, rfl⟩⟩))
  all_goals first
    | (first | (go_ret; exact ⟨rfl, by repeat (first | exact HB | exact Drawn0.refl _ | apply Drawn0.step)⟩))

/-! ### celluloidref19_between: function 78 -/
mutual
def celluloidref19_between.j1 : Nat → Int → Int → Int → Int → Int → Option (Int)
  | 0, _, _, _, _, _ => none
  | k + 1, x0, x1, x2, x3, x9 => celluloidref19_between.l1 k x0 x1 x2 x3 x9
def celluloidref19_between.l1 : Nat → Int → Int → Int → Int → Int → Option (Int)
  | 0, _, _, _, _, _ => none
  | k + 1, x0, x1, x2, x3, x9 => if x9 > (-256) then (if x1 < x0 then (if (wrap64 (x9 * x3)) > (wrap64 ((wrap64 (x1 - x0)) * x2)) then (celluloidref19_between.l1 k x0 x1 x2 x3 (wrap64 (x9 - 1))) else (some (wrap64 (x0 + x9)))) else (some (wrap64 (x0 + x9)))) else (some (wrap64 (x0 + x9)))
def celluloidref19_between.l0 : Nat → Int → Int → Int → Int → Int → Option (Int)
  | 0, _, _, _, _, _ => none
  | k + 1, x0, x1, x2, x3, x9 => if x9 < 256 then (if x1 ≥ x0 then (if (wrap64 ((wrap64 (x9 + 1)) * x3)) ≤ (wrap64 ((wrap64 (x1 - x0)) * x2)) then (celluloidref19_between.l0 k x0 x1 x2 x3 (wrap64 (x9 + 1))) else (celluloidref19_between.j1 k x0 x1 x2 x3 x9)) else (celluloidref19_between.j1 k x0 x1 x2 x3 x9)) else (celluloidref19_between.j1 k x0 x1 x2 x3 x9)
end
def celluloidref19_between.f (k : Nat) (a0 : Int) (a1 : Int) (a2 : Int) (a3 : Int) : Option (Int) := celluloidref19_between.l0 k a0 a1 a2 a3 0
theorem celluloidref19_between.mono_l : ∀ k, (∀ y0 y1 y2 y3 y4, LeO (celluloidref19_between.j1 k y0 y1 y2 y3 y4) (celluloidref19_between.j1 (k + 1) y0 y1 y2 y3 y4)) ∧ (∀ y0 y1 y2 y3 y4, LeO (celluloidref19_between.l1 k y0 y1 y2 y3 y4) (celluloidref19_between.l1 (k + 1) y0 y1 y2 y3 y4)) ∧ (∀ y0 y1 y2 y3 y4, LeO (celluloidref19_between.l0 k y0 y1 y2 y3 y4) (celluloidref19_between.l0 (k + 1) y0 y1 y2 y3 y4))
  | 0 => ⟨fun _ _ _ _ _ r h => by simp [celluloidref19_between.j1] at h, fun _ _ _ _ _ r h => by simp [celluloidref19_between.l1] at h, fun _ _ _ _ _ r h => by simp [celluloidref19_between.l0] at h⟩
  | k + 1 => by
    obtain ⟨ih0, ih1, ih2⟩ := celluloidref19_between.mono_l k
    refine ⟨?_, ?_, ?_⟩
    · intro y0 y1 y2 y3 y4
      unfold celluloidref19_between.j1
      repeat' first
      | (with_reducible exact ih0 _ _ _ _ _)
      | (with_reducible exact ih1 _ _ _ _ _)
      | (with_reducible exact ih2 _ _ _ _ _)
      | (with_reducible exact LeO.refl _)
      | (with_reducible exact LeO.none _)
      | (with_reducible refine LeO.ite ?_ ?_)
      | (with_reducible refine LeO.bind ?_ (fun _ => ?_))
      | exact ih0 _ _ _ _ _
      | exact ih1 _ _ _ _ _
      | exact ih2 _ _ _ _ _
      | exact LeO.none _
      | refine LeO.ite ?_ ?_
      | refine LeO.bind ?_ (fun _ => ?_)
    · intro y0 y1 y2 y3 y4
      unfold celluloidref19_between.l1
      repeat' first
      | (with_reducible exact ih0 _ _ _ _ _)
      | (with_reducible exact ih1 _ _ _ _ _)
      | (with_reducible exact ih2 _ _ _ _ _)
      | (with_reducible exact LeO.refl _)
      | (with_reducible exact LeO.none _)
      | (with_reducible refine LeO.ite ?_ ?_)
      | (with_reducible refine LeO.bind ?_ (fun _ => ?_))
      | exact ih0 _ _ _ _ _
      | exact ih1 _ _ _ _ _
      | exact ih2 _ _ _ _ _
      | exact LeO.none _
      | refine LeO.ite ?_ ?_
      | refine LeO.bind ?_ (fun _ => ?_)
    · intro y0 y1 y2 y3 y4
      unfold celluloidref19_between.l0
      repeat' first
      | (with_reducible exact ih0 _ _ _ _ _)
      | (with_reducible exact ih1 _ _ _ _ _)
      | (with_reducible exact ih2 _ _ _ _ _)
      | (with_reducible exact LeO.refl _)
      | (with_reducible exact LeO.none _)
      | (with_reducible refine LeO.ite ?_ ?_)
      | (with_reducible refine LeO.bind ?_ (fun _ => ?_))
      | exact ih0 _ _ _ _ _
      | exact ih1 _ _ _ _ _
      | exact ih2 _ _ _ _ _
      | exact LeO.none _
      | refine LeO.ite ?_ ?_
      | refine LeO.bind ?_ (fun _ => ?_)
theorem celluloidref19_between.mono : ∀ a0 a1 a2 a3 k, LeO (celluloidref19_between.f k a0 a1 a2 a3) (celluloidref19_between.f (k + 1) a0 a1 a2 a3) := by
  intro a0 a1 a2 a3 k
  obtain ⟨ih0, ih1, ih2⟩ := celluloidref19_between.mono_l k
  unfold celluloidref19_between.f
  repeat' first
      | (with_reducible exact ih0 _ _ _ _ _)
      | (with_reducible exact ih1 _ _ _ _ _)
      | (with_reducible exact ih2 _ _ _ _ _)
      | (with_reducible exact LeO.refl _)
      | (with_reducible exact LeO.none _)
      | (with_reducible refine LeO.ite ?_ ?_)
      | (with_reducible refine LeO.bind ?_ (fun _ => ?_))
      | exact ih0 _ _ _ _ _
      | exact ih1 _ _ _ _ _
      | exact ih2 _ _ _ _ _
      | exact LeO.none _
      | refine LeO.ite ?_ ?_
      | refine LeO.bind ?_ (fun _ => ?_)
set_option maxHeartbeats 8000000 in
set_option maxRecDepth 100000 in
theorem celluloidref19_between.calls (k : Nat) (a0 : Int) (a1 : Int) (a2 : Int) (a3 : Int) (r : Int) (w : World) (h : celluloidref19_between.f k a0 a1 a2 a3 = some r) :
    Calls Try.prog 78 #[.int .i64 a0, .int .i64 a1, .int .i64 a2, .int .i64 a3] w fun e w' => e = .returned (.int .i64 r) ∧ Drawn0 w w' := by
  have H : (celluloidref19_between.l0 k a0 a1 a2 a3 0) = some r := h
  clear h
  have HC5 := Aside0.mk H
  clear H
  go_enter Try.func78, Try.ntmps78
  go_upto_block 0 with (fail)
  go_cut [9] (fun v9 wc => ∃ (kq : Nat) (x9_4 : Int), v9 = .int .i64 x9_4 ∧ Aside0 (celluloidref19_between.j1 kq a0 a1 a2 a3 x9_4 = some r) ∧ Aside0 (kq ≤ k) ∧ Drawn0 w wc)
  case first =>
    have H := HC5.out
    clear HC5
    have H' := Aside0.mk H
    clear H
    go_wp2
    go_loopg [9] k (fun kq v9 w' => ∃ (x9_1 : Int), v9 = .int .i64 x9_1 ∧ Aside0 (celluloidref19_between.l0 kq a0 a1 a2 a3 x9_1 = some r) ∧ Aside0 (kq ≤ k) ∧ Drawn0 w w')
    case atStart => exact ⟨(0), (by first | rfl | (simp; done) | (simp [*]; done)), H', ⟨Nat.le_refl _⟩, by repeat (first | exact Drawn0.refl _ | apply Drawn0.step)⟩
    case round =>
      clear H'
      try clear p2
      obtain ⟨x9_1, rfl, HA, HK1, ⟨m1, rfl⟩⟩ := hrel
      cases gk with
      | zero => exact absurd HA.out (by simp [celluloidref19_between.l0])
      | succ k1 =>
        have H := HA.out
        clear HA
        simp only [celluloidref19_between.l0] at H
        by_cases c6 : x9_1 < 256
        · rw [if_pos c6] at H
          have c6b0 : decide (x9_1 < 256) = true := decide_eq_true c6
          clear c6
          (first | rw [c6b0] | (simp only [i64_w, i32_w]; rw [c6b0]) | skip)
          by_cases c7 : a1 ≥ a0
          · rw [if_pos c7] at H
            have c7b0 : decide (a0 ≤ a1) = true := decide_eq_true c7
            clear c7
            by_cases c8 : (wrap64 ((wrap64 (x9_1 + 1)) * a3)) ≤ (wrap64 ((wrap64 (a1 - a0)) * a2))
            · rw [if_pos c8] at H
              have c8b0 : decide ((wrap64 ((wrap64 (x9_1 + 1)) * a3)) ≤ (wrap64 ((wrap64 (a1 - a0)) * a2))) = true := decide_eq_true c8
              clear c8
              have H' := Aside0.mk H
              clear H
              go_wp2
              go_roundg k1
              case measure => have := HK1.out; omega
              case rel => exact ⟨(wrap64 (x9_1 + 1)), (by first | rfl | (simp; done) | (simp [*]; done)), H', ⟨by have := HK1.out; omega⟩, by repeat (first | exact Drawn0.refl _ | apply Drawn0.step)⟩
            · rw [if_neg c8] at H
              have c8b0 : decide ((wrap64 ((wrap64 (x9_1 + 1)) * a3)) ≤ (wrap64 ((wrap64 (a1 - a0)) * a2))) = false := decide_eq_false c8
              clear c8
              have H' := Aside0.mk H
              clear H
              go_wp2
              go_meet
              case rel => exact ⟨_, (x9_1), (by first | rfl | (simp; done) | (simp [*]; done)), H', ⟨by have := HK1.out; first | omega | exact Nat.le_refl _⟩, by repeat (first | exact Drawn0.refl _ | apply Drawn0.step)⟩
          · rw [if_neg c7] at H
            have c7b0 : decide (a0 ≤ a1) = false := decide_eq_false c7
            clear c7
            have H' := Aside0.mk H
            clear H
            go_wp2
            go_meet
            case rel => exact ⟨_, (x9_1), (by first | rfl | (simp; done) | (simp [*]; done)), H', ⟨by have := HK1.out; first | omega | exact Nat.le_refl _⟩, by repeat (first | exact Drawn0.refl _ | apply Drawn0.step)⟩
        · rw [if_neg c6] at H
          have c6b0 : decide (x9_1 < 256) = false := decide_eq_false c6
          clear c6
          (first | rw [c6b0] | (simp only [i64_w, i32_w]; rw [c6b0]) | skip)
          have H' := Aside0.mk H
          clear H
          go_wp2
          go_meet
          case rel => exact ⟨_, (x9_1), (by first | rfl | (simp; done) | (simp [*]; done)), H', ⟨by have := HK1.out; first | omega | exact Nat.le_refl _⟩, by repeat (first | exact Drawn0.refl _ | apply Drawn0.step)⟩
  case rest =>
    clear HC5
    try clear p2
    try clear c6
    try clear c6b0
    try clear p6
    try clear c7
    try clear c7b0
    try clear c8
    try clear c8b0
    try clear p2
    obtain ⟨kq, x9_4, rfl, HA, HJ4, ⟨mc4, rfl⟩⟩ := hcut
    cases kq with
    | zero => exact absurd HA.out (by simp [celluloidref19_between.j1])
    | succ kj4 =>
      have H := HA.out
      clear HA
      simp only [celluloidref19_between.j1] at H
      have H' := Aside0.mk H
      clear H
      go_wp2
      go_loopg [9] kj4 (fun kq v9 w' => ∃ (x9_2 : Int), v9 = .int .i64 x9_2 ∧ Aside0 (celluloidref19_between.l1 kq a0 a1 a2 a3 x9_2 = some r) ∧ Aside0 (kq ≤ kj4) ∧ Drawn0 w w')
      case atStart => exact ⟨(x9_4), (by first | rfl | (simp; done) | (simp [*]; done)), H', ⟨Nat.le_refl _⟩, by repeat (first | exact Drawn0.refl _ | apply Drawn0.step)⟩
      case round =>
        clear H'
        try clear p2
        try clear c4
        try clear c6
        try clear c6b0
        try clear p6
        try clear c7
        try clear c7b0
        try clear c8
        try clear c8b0
        try clear p2
        try clear p6
        obtain ⟨x9_2, rfl, HA, HK2, ⟨m2, rfl⟩⟩ := hrel
        cases gk with
        | zero => exact absurd HA.out (by simp [celluloidref19_between.l1])
        | succ k2 =>
          have H := HA.out
          clear HA
          simp only [celluloidref19_between.l1] at H
          by_cases c9 : x9_2 > (-256)
          · rw [if_pos c9] at H
            have c9b0 : decide ((-256) < x9_2) = true := decide_eq_true c9
            clear c9
            by_cases c10 : a1 < a0
            · rw [if_pos c10] at H
              have c10b0 : decide (a1 < a0) = true := decide_eq_true c10
              clear c10
              by_cases c11 : (wrap64 (x9_2 * a3)) > (wrap64 ((wrap64 (a1 - a0)) * a2))
              · rw [if_pos c11] at H
                have c11b0 : decide ((wrap64 ((wrap64 (a1 - a0)) * a2)) < (wrap64 (x9_2 * a3))) = true := decide_eq_true c11
                clear c11
                have H' := Aside0.mk H
                clear H
                go_wp2
                go_roundg k2
                case measure => have := HJ4.out; have := HK2.out; omega
                case rel => exact ⟨(wrap64 (x9_2 - 1)), (by first | rfl | (simp; done) | (simp [*]; done)), H', ⟨by have := HJ4.out; have := HK2.out; omega⟩, by repeat (first | exact Drawn0.refl _ | apply Drawn0.step)⟩
              · rw [if_neg c11] at H
                have c11b0 : decide ((wrap64 ((wrap64 (a1 - a0)) * a2)) < (wrap64 (x9_2 * a3))) = false := decide_eq_false c11
                clear c11
                obtain rfl := Option.some.inj H
                go_wp2
                go_ret
                exact ⟨by first | rfl | (simp; done) | (simp [*]; done), by repeat (first | exact Drawn0.refl _ | apply Drawn0.step)⟩
            · rw [if_neg c10] at H
              have c10b0 : decide (a1 < a0) = false := decide_eq_false c10
              clear c10
              obtain rfl := Option.some.inj H
              go_wp2
              go_ret
              exact ⟨by first | rfl | (simp; done) | (simp [*]; done), by repeat (first | exact Drawn0.refl _ | apply Drawn0.step)⟩
          · rw [if_neg c9] at H
            have c9b0 : decide ((-256) < x9_2) = false := decide_eq_false c9
            clear c9
            obtain rfl := Option.some.inj H
            go_wp2
            go_ret
            exact ⟨by first | rfl | (simp; done) | (simp [*]; done), by repeat (first | exact Drawn0.refl _ | apply Drawn0.step)⟩

--.Ytmdfcinjmlagcaa.P
theorem celluloidref19_between.cn {a0 a1 a2 a3 r : Int} {k : Nat} {w : World} (h : celluloidref19_between.f k a0 a1 a2 a3 = some r) :
    Calls Try.prog 78 #[.int .i64 a0, .int .i64 a1, .int .i64 a2, .int .i64 a3] w fun e w' => e = .returned (.int .i64 r) ∧ Drawn0 w w' := by
  apply celluloidref19_between.calls <;> assumption

/-! ### celluloidref19_Color: function 68 -/
def celluloidref19_Color.l0 : Nat → List (S80) → Int → Int → Option (Int × Int × Int × Int)
  | 0, _, _, _ => none
  | k + 1, x0, x1, x5 => if x5 ≥ 0 then (if 0 ≤ x5 then (if x5 < (x0.length : Int) then (if ((rd_T80 x0 x5).f0) > x1 then (celluloidref19_Color.l0 k x0 x1 (wrap64 (x5 - 1))) else (if x5 = (wrap64 ((x0.length : Int) - 1)) then (some ((rd_T80 x0 x5).f1.f0, (rd_T80 x0 x5).f1.f1, (rd_T80 x0 x5).f1.f2, (rd_T80 x0 x5).f1.f3)) else (if 0 ≤ (wrap64 (x5 + 1)) then (if (wrap64 (x5 + 1)) < (x0.length : Int) then ((celluloidref19_between.f k ((rd_T80 x0 x5).f1.f0) ((rd_T80 x0 (wrap64 (x5 + 1))).f1.f0) (wrap64 (x1 - ((rd_T80 x0 x5).f0))) (wrap64 (((rd_T80 x0 (wrap64 (x5 + 1))).f0) - ((rd_T80 x0 x5).f0)))).bind fun t489 => ((celluloidref19_between.f k ((rd_T80 x0 x5).f1.f1) ((rd_T80 x0 (wrap64 (x5 + 1))).f1.f1) (wrap64 (x1 - ((rd_T80 x0 x5).f0))) (wrap64 (((rd_T80 x0 (wrap64 (x5 + 1))).f0) - ((rd_T80 x0 x5).f0)))).bind fun t490 => ((celluloidref19_between.f k ((rd_T80 x0 x5).f1.f2) ((rd_T80 x0 (wrap64 (x5 + 1))).f1.f2) (wrap64 (x1 - ((rd_T80 x0 x5).f0))) (wrap64 (((rd_T80 x0 (wrap64 (x5 + 1))).f0) - ((rd_T80 x0 x5).f0)))).bind fun t491 => ((celluloidref19_between.f k ((rd_T80 x0 x5).f1.f3) ((rd_T80 x0 (wrap64 (x5 + 1))).f1.f3) (wrap64 (x1 - ((rd_T80 x0 x5).f0))) (wrap64 (((rd_T80 x0 (wrap64 (x5 + 1))).f0) - ((rd_T80 x0 x5).f0)))).bind fun t492 => (some (t489, t490, t491, t492)))))) else (none)) else (none)))) else (none)) else (none)) else (some (0, 0, 0, 0))
def celluloidref19_Color.f (k : Nat) (l0 : List (S80)) (a1 : Int) : Option (Int × Int × Int × Int) := if 0 < (l0.length : Int) then (if a1 ≤ ((rd_T80 l0 0).f0) then (some ((rd_T80 l0 0).f1.f0, (rd_T80 l0 0).f1.f1, (rd_T80 l0 0).f1.f2, (rd_T80 l0 0).f1.f3)) else (celluloidref19_Color.l0 k l0 a1 (wrap64 ((l0.length : Int) - 1)))) else (none)
def celluloidref19_Color.O11 : List Nat := [0, 1, 4, 6, 2, 3, 9, 5, 7, 8, 10]
def celluloidref19_Color.T11 : Bool × List (List Nat × List Nat) := (true, [([], []), ([], []), ([1], [1]), ([0, 2], [0, 2]), ([], []), ([4], [4]), ([], []), ([6], [6]), ([5, 7], [5, 7]), ([3, 0, 1, 2, 3], [3]), ([8, 9, 0, 1, 2, 3, 4, 5, 6, 7, 8, 9], [8])])
theorem celluloidref19_Color.tab11 : rtab .any (opsOf Try.f68 11) = celluloidref19_Color.T11 := by kernel_rfl
def celluloidref19_Color.O12 : List Nat := [0, 1, 3, 4, 6, 7, 9, 10, 12, 13, 15, 16, 18, 19, 21, 22, 24, 25, 27, 28, 30, 31, 33, 34, 2, 5, 11, 14, 20, 23, 29, 32, 8, 17, 26, 35, 36, 37]
def celluloidref19_Color.T12 : Bool × List (List Nat × List Nat) := (true, [([], []), ([0], [0]), ([1], [1]), ([], []), ([3], [3]), ([4], [4]), ([], []), ([], []), ([2, 5, 6, 7], [2, 5, 6, 7]), ([], []), ([9], [9]), ([10], [10]), ([], []), ([12], [12]), ([13], [13]), ([], []), ([], []), ([11, 14, 15, 16, 8], [11, 14, 15, 16]), ([], []), ([18], [18]), ([19], [19]), ([], []), ([21], [21]), ([22], [22]), ([], []), ([], []), ([20, 23, 24, 25, 17], [20, 23, 24, 25]), ([], []), ([27], [27]), ([28], [28]), ([], []), ([30], [30]), ([31], [31]), ([], []), ([], []), ([29, 32, 33, 34, 26], [29, 32, 33, 34]), ([8, 17, 26, 35], [8, 17, 26, 35]), ([36, 35, 0, 1, 2, 3, 4, 5, 6, 7, 8, 9, 10, 11, 12, 13, 14, 15, 16, 17, 18, 19, 20, 21, 22, 23, 24, 25, 26, 27, 28, 29, 30, 31, 32, 33, 34, 35, 36], [36])])
theorem celluloidref19_Color.tab12 : rtab .any (opsOf Try.f68 12) = celluloidref19_Color.T12 := by kernel_rfl
theorem celluloidref19_Color.mono_l : ∀ k, (∀ y0 y1 y2, LeO (celluloidref19_Color.l0 k y0 y1 y2) (celluloidref19_Color.l0 (k + 1) y0 y1 y2))
  | 0 => fun _ _ _ r h => by simp [celluloidref19_Color.l0] at h
  | k + 1 => by
    have ih0 := celluloidref19_Color.mono_l k
    · intro y0 y1 y2
      unfold celluloidref19_Color.l0
      repeat' first
      | with_reducible exact ih0 _ _ _
      | with_reducible exact celluloidref19_between.mono _ _ _ _ _
      | with_reducible exact LeO.refl _
      | with_reducible exact LeO.none _
      | with_reducible refine LeO.ite ?_ ?_
      | with_reducible refine LeO.bind ?_ (fun _ => ?_)
theorem celluloidref19_Color.mono : ∀ a0 a1 k, LeO (celluloidref19_Color.f k a0 a1) (celluloidref19_Color.f (k + 1) a0 a1) := by
  intro a0 a1 k
  have ih0 := celluloidref19_Color.mono_l k
  unfold celluloidref19_Color.f
  repeat' first
      | with_reducible exact ih0 _ _ _
      | with_reducible exact celluloidref19_between.mono _ _ _ _ _
      | with_reducible exact LeO.refl _
      | with_reducible exact LeO.none _
      | with_reducible refine LeO.ite ?_ ?_
      | with_reducible refine LeO.bind ?_ (fun _ => ?_)
set_option maxHeartbeats 8000000 in
set_option maxRecDepth 100000 in
theorem celluloidref19_Color.cn {a1 r1 r2 r3 r4 : Int} {k : Nat} {A0 : Option Addr} {n0 c0 : Nat} {l0 : List (S80)} {w : World} (h : celluloidref19_Color.f k l0 a1 = some (r1, r2, r3, r4)) (hr0 : Kd.C k80 w A0 n0 l0) (hc0 : n0 ≤ c0) :
    Calls Try.prog 68 #[.slice A0 n0 c0, .int .i64 a1] w fun e w' => e = .returned (.agg #[.int .i64 r1, .int .i64 r2, .int .i64 r3, .int .i64 r4]) ∧ Below w.heap.size w w' := by
  obtain rfl := hr0.1
  have HC0 := za hr0; have HL0 := za hc0; clear hr0 hc0
  have hu23 := Try.underlying23
  have hu80 := Try.underlying80
  unfold celluloidref19_Color.f at h
  repeat' first
    | (with_reducible replace h := zs h)
    | (with_reducible replace h := zez h (by assumption) (by decide))
    | (with_reducible replace h := zb h; obtain ⟨t, A, h⟩ := h)
    | (with_reducible first | replace h := z1 h | replace h := z0 h | replace h := zep h (by assumption) | replace h := zen h (by assumption) | replace h := zcp h (by assumption) | replace h := zcn h (by assumption) | replace h := zbp h (by assumption) | replace h := zbn h (by assumption))
    | (with_reducible (first | replace h := zx h | replace h := zt h); obtain ⟨rfl, h⟩ | ⟨rfl, h⟩ := h)
    | (with_reducible (first | replace h := zd h | replace h := zl h | replace h := zm h); obtain ⟨c, h⟩ | ⟨c, h⟩ := h)
    | (with_reducible (first | replace h := ze h | replace h := zg h); obtain ⟨c, c', h⟩ | ⟨c, c', h⟩ := h)
    | (with_reducible replace h := zt h; obtain ⟨c, h⟩ | ⟨c, h⟩ := h)
    | (with_reducible replace h := Option.some.inj h; subst h)
    | (with_reducible exact (zn h).elim)
    | (simp only [Option.some.injEq, Prod.mk.injEq] at h; obtain ⟨rfl, rfl, rfl, rfl⟩ := h)
  all_goals
    try (refine zat80 (W := (w.alloc (.cells #[.int .i64 0, .int .i64 0, .int .i64 0, .int .i64 0] 23))) HC0 0 (by decide) ?_ ?_; assumption; rintro ad ⟨⟩; intro q1 q2 x; simp only [Int.toNat_zero, Nat.zero_mul, Addr.add_zero'] at x; have q3 : (0 < l0.length) = True := eq_true (by have := of_eq_true q2; omega))
    try (have H' := za h; clear h)
    go_enter Try.func68, Try.ntmps68
    go_wp2_with (first
      | ((with_reducible refine zq ?_); first | go_quiet ((first | (go_at_call 78; refine Calls.quiet_of ((celluloidref19_between.cn (by assumption : Aside0 _).out).mono fun _ _ h => ⟨h.1, h.2.out⟩)))))
      | (go_at_call 78; refine (celluloidref19_between.cn (by assumption : Aside0 _).out).mono ?_; rintro e w' ⟨rfl, ⟨n, rfl⟩⟩)
      | ((with_reducible refine zq ?_); refine rS 11 celluloidref19_Color.O11 [] (by kernel_rfl) (by rfl) celluloidref19_Color.tab11 (fun HT => ?_); (repeat (first | (refine rP HT.out rfl rfl (v := undef) (a' := ?_) (by kernel_rfl) (fun _ _ _ h => h) (Or.inr ⟨by rfl, rfl⟩) ?_ ?_; rotate_left; (show Act.put _ (some _) _ = _; simp only [Act.put, q1, q2, q3, i64_w, i32_w]; rfl)) | (refine rP HT.out rfl rfl (v := ?_) (a' := ?_) (by kernel_rfl) (fun _ _ _ h => h) (Or.inl ⟨by rfl, ?_⟩) ?_ ?_; rotate_left 2; (intro w'; go_simp; with_reducible rfl); (show Act.put _ (some _) _ = _; simp only [Act.put, q1, q2, q3, i64_w, i32_w]; rfl)) | (refine rT HT.out rfl rfl (v := ?_) (a' := ?_) (by kernel_rfl) (fun _ _ _ h => h) (Or.inl ⟨by rfl, ?_⟩) (by infer_instance) ?_ ?_; rotate_left 2; (intro w' hS; obtain ⟨hc, hf⟩ := rH hS; go_simp; with_reducible rfl); (show Act.put _ (some _) _ = _; simp only [Act.put, q1, q2, q3, i64_w, i32_w]; rfl)) | (refine rO HT.out rfl (by rfl) (by decide) (by rfl) (fun K hK => ?_); go_wp2_with (first | (go_at_call 78; refine (celluloidref19_between.cn (by assumption : Aside0 _).out).mono ?_; rintro e w' ⟨rfl, ⟨n, rfl⟩⟩)); refine Shut.out hK _ _ (by infer_instance) ?_))); refine rD HT.out (by kernel_rfl) ?_)
      | ((with_reducible refine zq ?_); refine rS 38 celluloidref19_Color.O12 [37] (by kernel_rfl) (by rfl) celluloidref19_Color.tab12 (fun HT => ?_); (repeat (first | (refine rP HT.out rfl rfl (v := undef) (a' := ?_) (by kernel_rfl) (fun _ _ _ h => h) (Or.inr ⟨by rfl, rfl⟩) ?_ ?_; rotate_left; (show Act.put _ (some _) _ = _; simp only [Act.put, q1, q2, q3, i64_w, i32_w]; rfl)) | (refine rP HT.out rfl rfl (v := ?_) (a' := ?_) (by kernel_rfl) (fun _ _ _ h => h) (Or.inl ⟨by rfl, ?_⟩) ?_ ?_; rotate_left 2; (intro w'; go_simp; with_reducible rfl); (show Act.put _ (some _) _ = _; simp only [Act.put, q1, q2, q3, i64_w, i32_w]; rfl)) | (refine rT HT.out rfl rfl (v := ?_) (a' := ?_) (by kernel_rfl) (fun _ _ _ h => h) (Or.inl ⟨by rfl, ?_⟩) (by infer_instance) ?_ ?_; rotate_left 2; (intro w' hS; obtain ⟨hc, hf⟩ := rH hS; go_simp; with_reducible rfl); (show Act.put _ (some _) _ = _; simp only [Act.put, q1, q2, q3, i64_w, i32_w]; rfl)) | (refine rO HT.out rfl (by rfl) (by decide) (by rfl) (fun K hK => ?_); go_wp2_with (first | (go_at_call 78; refine (celluloidref19_between.cn (by assumption : Aside0 _).out).mono ?_; rintro e w' ⟨rfl, ⟨n, rfl⟩⟩)); refine Shut.out hK _ _ (by infer_instance) ?_) | (refine rL HT.out rfl (by rfl) (by decide) (by rfl) (fun K hK => ?_); go_wp2_with (first | (go_at_call 78; refine (celluloidref19_between.cn (by assumption : Aside0 _).out).mono ?_; rintro e w' ⟨rfl, ⟨n, rfl⟩⟩)); refine Shut.out hK _ _ ?_))); refine rD HT.out (by kernel_rfl) ?_))
  all_goals first
    | (first | (go_ret; exact ⟨rfl, Bw.out⟩) | (go_ret3; exact ⟨rfl, Bw.out⟩) | (refine bodyPost_ret (v := ?_) ?_ rfl ?_; rotate_left 2; (refine ⟨?_, Bw.out⟩; rfl); exact results_cell_row rfl _ _ _ 23 _ (0, 0) _ rfl (by (with_reducible repeat (first | exact (by assumption : Aside0 _).out | (focus (refine znew ?_; simp only [World.size_alloc, World.heap_drewN, heap_drew]; done)) | refine blk_alloc ?_ _ | refine blk_drewN ?_ _ | refine blk_drew ?_ | refine blk_below ?_ Bs.out | apply zput | (refine zfar ?_ ?_; (focus omega)))) <;> rfl) Try.underlying23 rfl (by kernel_rfl)))
    | (go_loopg [5] k (fun kq v5 w' => ∃ (x5_1 : Int) (x483000_1 : Int) (x483001_1 : Int) (x483002_1 : Int) (x483003_1 : Int), v5 = .int .i64 x5_1 ∧ Aside0 (celluloidref19_Color.l0 kq l0 a1 x5_1 = some (r1, r2, r3, r4)) ∧ Aside0 (kq ≤ k) ∧ Aside0 (w'.heap[w.heap.size]? = some (.cells #[.int .i64 x483000_1, .int .i64 x483001_1, .int .i64 x483002_1, .int .i64 x483003_1] 23 (0, 0))) ∧ Aside0 (Below w.heap.size w w'))
       case atStart => exact ⟨_, _, _, _, _, rfl, H', ⟨Nat.le_refl _⟩, ⟨by (with_reducible repeat (first | exact (by assumption : Aside0 _).out | (focus (refine znew ?_; simp only [World.size_alloc, World.heap_drewN, heap_drew]; done)) | refine blk_alloc ?_ _ | refine blk_drewN ?_ _ | refine blk_drew ?_ | refine blk_below ?_ Bs.out | apply zput | (refine zfar ?_ ?_; (focus omega)))) <;> rfl⟩, ⟨Bw.out⟩⟩
       case round =>
        obtain ⟨x5_1, x483000_1, x483001_1, x483002_1, x483003_1, rfl, HA, HK1, BK0, HB⟩ := hrel
        have HB := Bw.mk HB.out; clear H'
        cases gk with
        | zero => exact absurd HA.out (by simp [celluloidref19_Color.l0])
        | succ k1 =>
          have h := HA.out; clear HA; simp only [celluloidref19_Color.l0] at h
          repeat' first
            | (with_reducible replace h := zs h)
            | (with_reducible replace h := zez h (by assumption) (by decide))
            | (with_reducible replace h := zb h; obtain ⟨t, A, h⟩ := h)
            | (with_reducible first | replace h := z1 h | replace h := z0 h | replace h := zep h (by assumption) | replace h := zen h (by assumption) | replace h := zcp h (by assumption) | replace h := zcn h (by assumption) | replace h := zbp h (by assumption) | replace h := zbn h (by assumption))
            | (with_reducible (first | replace h := zx h | replace h := zt h); obtain ⟨rfl, h⟩ | ⟨rfl, h⟩ := h)
            | (with_reducible (first | replace h := zd h | replace h := zl h | replace h := zm h); obtain ⟨c, h⟩ | ⟨c, h⟩ := h)
            | (with_reducible (first | replace h := ze h | replace h := zg h); obtain ⟨c, c', h⟩ | ⟨c, c', h⟩ := h)
            | (with_reducible replace h := zt h; obtain ⟨c, h⟩ | ⟨c, h⟩ := h)
            | (with_reducible replace h := Option.some.inj h; subst h)
            | (with_reducible exact (zn h).elim)
            | (simp only [Option.some.injEq, Prod.mk.injEq] at h; obtain ⟨rfl, rfl, rfl, rfl⟩ := h)
          all_goals
            obtain ⟨hc0, hf0, hz0⟩ := zo BK0.out
            have HN : Lw w wr 1 := ⟨by have := blk_lt BK0.out; omega⟩
            try (refine zat80 (W := wr) HC0 0 ?_ ?_ ?_; (first | assumption | decide); assumption; rintro ad ⟨⟩; intro q1 q2 x; simp only [Int.toNat_zero, Nat.zero_mul, Addr.add_zero'] at x; have q3 : (0 < l0.length) = True := eq_true (by have := of_eq_true q2; omega))
            try (refine zat80 (W := wr) HC0 x5_1 ?_ ?_ ?_; (first | assumption | decide); assumption; rintro ad ⟨⟩; intros)
            try (refine zat80 (W := wr) HC0 (wrap64 (x5_1 + 1)) ?_ ?_ ?_; assumption; assumption; rintro ad ⟨⟩; intros)
            try (have H' := za h; clear h)
            go_wp2_with (first
              | ((with_reducible refine zq ?_); first | go_quiet ((first | (go_at_call 78; refine Calls.quiet_of ((celluloidref19_between.cn (by assumption : Aside0 _).out).mono fun _ _ h => ⟨h.1, h.2.out⟩)))))
              | (go_at_call 78; refine (celluloidref19_between.cn (by assumption : Aside0 _).out).mono ?_; rintro e w' ⟨rfl, ⟨n, rfl⟩⟩)
              | ((with_reducible refine zq ?_); refine rS 11 celluloidref19_Color.O11 [] (by kernel_rfl) (by rfl) celluloidref19_Color.tab11 (fun HT => ?_); (repeat (first | (refine rP HT.out rfl rfl (v := undef) (a' := ?_) (by kernel_rfl) (fun _ _ _ h => h) (Or.inr ⟨by rfl, rfl⟩) ?_ ?_; rotate_left; (show Act.put _ (some _) _ = _; simp only [Act.put, q1, q2, q3, i64_w, i32_w]; rfl)) | (refine rP HT.out rfl rfl (v := ?_) (a' := ?_) (by kernel_rfl) (fun _ _ _ h => h) (Or.inl ⟨by rfl, ?_⟩) ?_ ?_; rotate_left 2; (intro w'; go_simp; with_reducible rfl); (show Act.put _ (some _) _ = _; simp only [Act.put, q1, q2, q3, i64_w, i32_w]; rfl)) | (refine rT HT.out rfl rfl (v := ?_) (a' := ?_) (by kernel_rfl) (fun _ _ _ h => h) (Or.inl ⟨by rfl, ?_⟩) (by infer_instance) ?_ ?_; rotate_left 2; (intro w' hS; obtain ⟨hc, hf⟩ := rH hS; go_simp; with_reducible rfl); (show Act.put _ (some _) _ = _; simp only [Act.put, q1, q2, q3, i64_w, i32_w]; rfl)) | (refine rO HT.out rfl (by rfl) (by decide) (by rfl) (fun K hK => ?_); go_wp2_with (first | (go_at_call 78; refine (celluloidref19_between.cn (by assumption : Aside0 _).out).mono ?_; rintro e w' ⟨rfl, ⟨n, rfl⟩⟩)); refine Shut.out hK _ _ (by infer_instance) ?_))); refine rD HT.out (by kernel_rfl) ?_)
              | ((with_reducible refine zq ?_); refine rS 38 celluloidref19_Color.O12 [37] (by kernel_rfl) (by rfl) celluloidref19_Color.tab12 (fun HT => ?_); (repeat (first | (refine rP HT.out rfl rfl (v := undef) (a' := ?_) (by kernel_rfl) (fun _ _ _ h => h) (Or.inr ⟨by rfl, rfl⟩) ?_ ?_; rotate_left; (show Act.put _ (some _) _ = _; simp only [Act.put, q1, q2, q3, i64_w, i32_w]; rfl)) | (refine rP HT.out rfl rfl (v := ?_) (a' := ?_) (by kernel_rfl) (fun _ _ _ h => h) (Or.inl ⟨by rfl, ?_⟩) ?_ ?_; rotate_left 2; (intro w'; go_simp; with_reducible rfl); (show Act.put _ (some _) _ = _; simp only [Act.put, q1, q2, q3, i64_w, i32_w]; rfl)) | (refine rT HT.out rfl rfl (v := ?_) (a' := ?_) (by kernel_rfl) (fun _ _ _ h => h) (Or.inl ⟨by rfl, ?_⟩) (by infer_instance) ?_ ?_; rotate_left 2; (intro w' hS; obtain ⟨hc, hf⟩ := rH hS; go_simp; with_reducible rfl); (show Act.put _ (some _) _ = _; simp only [Act.put, q1, q2, q3, i64_w, i32_w]; rfl)) | (refine rO HT.out rfl (by rfl) (by decide) (by rfl) (fun K hK => ?_); go_wp2_with (first | (go_at_call 78; refine (celluloidref19_between.cn (by assumption : Aside0 _).out).mono ?_; rintro e w' ⟨rfl, ⟨n, rfl⟩⟩)); refine Shut.out hK _ _ (by infer_instance) ?_) | (refine rL HT.out rfl (by rfl) (by decide) (by rfl) (fun K hK => ?_); go_wp2_with (first | (go_at_call 78; refine (celluloidref19_between.cn (by assumption : Aside0 _).out).mono ?_; rintro e w' ⟨rfl, ⟨n, rfl⟩⟩)); refine Shut.out hK _ _ ?_))); refine rD HT.out (by kernel_rfl) ?_))
          all_goals first
            | (first | (go_ret; exact ⟨rfl, Bw.out⟩) | (go_ret3; exact ⟨rfl, Bw.out⟩) | (refine bodyPost_ret (v := ?_) ?_ rfl ?_; rotate_left 2; (refine ⟨?_, Bw.out⟩; rfl); exact results_cell_row rfl _ _ _ 23 _ (0, 0) _ rfl (by (with_reducible repeat (first | exact (by assumption : Aside0 _).out | (focus (refine znew ?_; simp only [World.size_alloc, World.heap_drewN, heap_drew]; done)) | refine blk_alloc ?_ _ | refine blk_drewN ?_ _ | refine blk_drew ?_ | refine blk_below ?_ Bs.out | apply zput | (refine zfar ?_ ?_; (focus omega)))) <;> rfl) Try.underlying23 rfl (by kernel_rfl)))
            | (go_roundg k1
               case measure => have := HK1.out; omega
               case rel => exact ⟨_, _, _, _, _, rfl, H', ⟨by have := HK1.out; omega⟩, ⟨by (with_reducible repeat (first | exact (by assumption : Aside0 _).out | (focus (refine znew ?_; simp only [World.size_alloc, World.heap_drewN, heap_drew]; done)) | refine blk_alloc ?_ _ | refine blk_drewN ?_ _ | refine blk_drew ?_ | refine blk_below ?_ Bs.out | apply zput | (refine zfar ?_ ?_; (focus omega)))) <;> rfl⟩, ⟨Bw.out⟩⟩))

/-! ### celluloidref19_At: function 38 -/
def celluloidref19_At.f (k : Nat) (a0_0 : Int) (a0_1 : Int) (a0_2 : Int) (a0_3 : Int) (a0_4 : Int) (a0_5 : Int) (a0_6 : Int) (a0_7 : Int) (a0_8 : Int) (a0_9 : Int) (a0_10 : Int) (a0_11 : Int) (l0_12 : List (S80)) (a0_13 : Int) (a1_0 : Int) (a1_1 : Int) : Option (Int × Int × Int × Int) := (celluloidref19_end.f a1_0).bind fun t498 => ((celluloidref19_end.f a1_1).bind fun t499 => ((celluloidref01_Root.f k (wrap64 ((wrap64 (t498 * t498)) + (wrap64 (t499 * t499))))).bind fun t500 => (if a0_0 = 16 then ((celluloidref19_modulo.f t498 128).bind fun t501 => ((celluloidref19_Fold.f (wrap64 (Int.tdiv (wrap64 ((wrap64 (t498 + 16384)) - t501)) 128)) a0_11).bind fun t502 => ((celluloidref19_Color.f k l0_12 t502).bind fun bt503 => (some (bt503.1, bt503.2.1, bt503.2.2.1, bt503.2.2.2))))) else ((celluloidref19_Fold.f (wrap64 (Int.tdiv t500 64)) a0_11).bind fun t507 => ((celluloidref19_Color.f k l0_12 t507).bind fun bt508 => (some (bt508.1, bt508.2.1, bt508.2.2.1, bt508.2.2.2)))))))
def celluloidref19_At.O1 : List Nat := [0, 3, 1, 4, 2, 5, 6, 7]
def celluloidref19_At.T1 : Bool × List (List Nat × List Nat) := (true, [([], []), ([0], [0]), ([1], [1]), ([], []), ([3], [3]), ([4, 2], [4]), ([2, 5, 0, 1, 2], [2]), ([5, 6, 0, 1, 2, 3, 4, 5, 6], [5])])
theorem celluloidref19_At.tab1 : rtab .any (opsOf Try.f38 1) = celluloidref19_At.T1 := by kernel_rfl
def celluloidref19_At.O5 : List Nat := [0, 2, 3, 1, 4, 5, 6, 7]
def celluloidref19_At.T5 : Bool × List (List Nat × List Nat) := (true, [([], []), ([0], [0]), ([], []), ([], []), ([3], [3]), ([2, 4], [2, 4]), ([1, 5, 5], [1, 5]), ([6, 6, 0, 1, 2, 3, 4, 5, 6], [6])])
theorem celluloidref19_At.tab5 : rtab .any (opsOf Try.f38 5) = celluloidref19_At.T5 := by kernel_rfl
theorem celluloidref19_At.mono : ∀ a0 a1 a2 a3 a4 a5 a6 a7 a8 a9 a10 a11 a12 a13 a14 a15 k, LeO (celluloidref19_At.f k a0 a1 a2 a3 a4 a5 a6 a7 a8 a9 a10 a11 a12 a13 a14 a15) (celluloidref19_At.f (k + 1) a0 a1 a2 a3 a4 a5 a6 a7 a8 a9 a10 a11 a12 a13 a14 a15) := by
  intro a0 a1 a2 a3 a4 a5 a6 a7 a8 a9 a10 a11 a12 a13 a14 a15 k
  unfold celluloidref19_At.f
  repeat' first
      | with_reducible exact celluloidref01_Root.mono _ _
      | with_reducible exact celluloidref19_Color.mono _ _ _
      | with_reducible exact LeO.refl _
      | with_reducible exact LeO.none _
      | with_reducible refine LeO.ite ?_ ?_
      | with_reducible refine LeO.bind ?_ (fun _ => ?_)
set_option maxHeartbeats 8000000 in
set_option maxRecDepth 100000 in
theorem celluloidref19_At.cn {a0_0 a0_1 a0_2 a0_3 a0_4 a0_5 a0_6 a0_7 a0_8 a0_9 a0_10 a0_11 a0_13 a1_0 a1_1 r1 r2 r3 r4 : Int} {k : Nat} {A0_12 : Option Addr} {n0_12 c0_12 : Nat} {l0_12 : List (S80)} {w : World} (h : celluloidref19_At.f k a0_0 a0_1 a0_2 a0_3 a0_4 a0_5 a0_6 a0_7 a0_8 a0_9 a0_10 a0_11 l0_12 a0_13 a1_0 a1_1 = some (r1, r2, r3, r4)) (hr0_12 : Kd.C k80 w A0_12 n0_12 l0_12) (hc0_12 : n0_12 ≤ c0_12) :
    Calls Try.prog 38 #[.agg #[.int .i64 a0_0, .int .i64 a0_1, .int .i64 a0_2, .int .i64 a0_3, .int .i64 a0_4, .int .i64 a0_5, .int .i64 a0_6, .int .i64 a0_7, .int .i64 a0_8, .int .i64 a0_9, .int .i64 a0_10, .int .i64 a0_11, .slice A0_12 n0_12 c0_12, .int .i64 a0_13], .agg #[.int .i64 a1_0, .int .i64 a1_1]] w fun e w' => e = .returned (.agg #[.int .i64 r1, .int .i64 r2, .int .i64 r3, .int .i64 r4]) ∧ Below w.heap.size w w' := by
  obtain rfl := hr0_12.1
  have HC0_12 := za hr0_12; have HL0_12 := za hc0_12; clear hr0_12 hc0_12
  have hu23 := Try.underlying23
  have hu31 := Try.underlying31
  have hu37 := Try.underlying37
  unfold celluloidref19_At.f at h
  repeat' first
    | (with_reducible replace h := zs h)
    | (with_reducible replace h := zez h (by assumption) (by decide))
    | (with_reducible replace h := zb h; obtain ⟨t, A, h⟩ := h)
    | (with_reducible first | replace h := z1 h | replace h := z0 h | replace h := zep h (by assumption) | replace h := zen h (by assumption) | replace h := zcp h (by assumption) | replace h := zcn h (by assumption) | replace h := zbp h (by assumption) | replace h := zbn h (by assumption))
    | (with_reducible (first | replace h := zx h | replace h := zt h); obtain ⟨rfl, h⟩ | ⟨rfl, h⟩ := h)
    | (with_reducible (first | replace h := zd h | replace h := zl h | replace h := zm h); obtain ⟨c, h⟩ | ⟨c, h⟩ := h)
    | (with_reducible replace h := zeq h; obtain ⟨c, c', h⟩ | ⟨c, c', cn, h⟩ := h)
    | (with_reducible (first | replace h := ze h | replace h := zg h); obtain ⟨c, c', h⟩ | ⟨c, c', h⟩ := h)
    | (with_reducible replace h := zt h; obtain ⟨c, h⟩ | ⟨c, h⟩ := h)
    | (with_reducible replace h := Option.some.inj h; subst h)
    | (with_reducible exact (zn h).elim)
    | (simp only [Option.some.injEq, Prod.mk.injEq] at h; obtain ⟨rfl, rfl, rfl, rfl⟩ := h)
  all_goals
    try (have H' := za h; clear h)
    go_enter Try.func38, Try.ntmps38
    go_wp2_with (first
      | ((with_reducible refine zq ?_); first | go_quiet ((first | (go_at_call 66; refine Calls.quiet_of ((celluloidref01_Root.cn (by assumption : Aside0 _).out).mono fun _ _ h => ⟨h.1, h.2.out⟩)) | (go_at_call 69; refine Calls.quiet_of ((celluloidref19_Fold.cn (by assumption : Aside0 _).out).mono fun _ _ h => ⟨h.1, h.2.out⟩)) | (go_at_call 65; refine Calls.quiet_of ((celluloidref19_end.cn (by assumption : Aside0 _).out).mono fun _ _ h => ⟨h.1, h.2.out⟩)) | (go_at_call 67; refine Calls.quiet_of ((celluloidref19_modulo.cn (by assumption : Aside0 _).out).mono fun _ _ h => ⟨h.1, h.2.out⟩)))))
      | (go_at_call 66; refine (celluloidref01_Root.cn (by assumption : Aside0 _).out).mono ?_; rintro e w' ⟨rfl, ⟨n, rfl⟩⟩)
      | (go_at_call 68; refine (celluloidref19_Color.cn (by assumption : Aside0 _).out ?_ ?_).mono ?_; (focus with_reducible first | exact znil | exact zC (by assumption)); (first | exact Nat.le_refl _ | exact (by assumption : Aside0 _).out); rintro e w' ⟨rfl, hb⟩; (with_reducible first | replace hb := zkd hb | replace hb := zkn hb | replace hb := zk hb); obtain ⟨hb, hc, hf⟩ := hb; have hy := zy w w'; simp only [zL, Nat.add_zero] at hy)
      | (go_at_call 69; refine (celluloidref19_Fold.cn (by assumption : Aside0 _).out).mono ?_; rintro e w' ⟨rfl, ⟨n, rfl⟩⟩)
      | (go_at_call 65; refine (celluloidref19_end.cn (by assumption : Aside0 _).out).mono ?_; rintro e w' ⟨rfl, ⟨n, rfl⟩⟩)
      | (go_at_call 67; refine (celluloidref19_modulo.cn (by assumption : Aside0 _).out).mono ?_; rintro e w' ⟨rfl, ⟨n, rfl⟩⟩)
      | ((with_reducible refine zq ?_); refine rS 8 celluloidref19_At.O1 [] (by kernel_rfl) (by rfl) celluloidref19_At.tab1 (fun HT => ?_); (repeat (first | (refine rP HT.out rfl rfl (v := undef) (a' := ?_) (by kernel_rfl) (fun _ _ _ h => h) (Or.inr ⟨by rfl, rfl⟩) ?_ ?_; rotate_left; (show Act.put _ (some _) _ = _; simp only [Act.put, q1, q2, q3, i64_w, i32_w]; rfl)) | (refine rP HT.out rfl rfl (v := ?_) (a' := ?_) (by kernel_rfl) (fun _ _ _ h => h) (Or.inl ⟨by rfl, ?_⟩) ?_ ?_; rotate_left 2; (intro w'; go_simp; with_reducible rfl); (show Act.put _ (some _) _ = _; simp only [Act.put, q1, q2, q3, i64_w, i32_w]; rfl)) | (refine rT HT.out rfl rfl (v := ?_) (a' := ?_) (by kernel_rfl) (fun _ _ _ h => h) (Or.inl ⟨by rfl, ?_⟩) (by infer_instance) ?_ ?_; rotate_left 2; (intro w' hS; obtain ⟨hc, hf⟩ := rH hS; go_simp; with_reducible rfl); (show Act.put _ (some _) _ = _; simp only [Act.put, q1, q2, q3, i64_w, i32_w]; rfl)) | (refine rO HT.out rfl (by rfl) (by decide) (by rfl) (fun K hK => ?_); go_wp2_with (first | (go_at_call 66; refine (celluloidref01_Root.cn (by assumption : Aside0 _).out).mono ?_; rintro e w' ⟨rfl, ⟨n, rfl⟩⟩) | (go_at_call 68; refine (celluloidref19_Color.cn (by assumption : Aside0 _).out ?_ ?_).mono ?_; (focus with_reducible first | exact znil | exact zC (by assumption)); (first | exact Nat.le_refl _ | exact (by assumption : Aside0 _).out); rintro e w' ⟨rfl, hb⟩; (with_reducible first | replace hb := zkd hb | replace hb := zkn hb | replace hb := zk hb); obtain ⟨hb, hc, hf⟩ := hb; have hy := zy w w'; simp only [zL, Nat.add_zero] at hy) | (go_at_call 69; refine (celluloidref19_Fold.cn (by assumption : Aside0 _).out).mono ?_; rintro e w' ⟨rfl, ⟨n, rfl⟩⟩) | (go_at_call 65; refine (celluloidref19_end.cn (by assumption : Aside0 _).out).mono ?_; rintro e w' ⟨rfl, ⟨n, rfl⟩⟩) | (go_at_call 67; refine (celluloidref19_modulo.cn (by assumption : Aside0 _).out).mono ?_; rintro e w' ⟨rfl, ⟨n, rfl⟩⟩)); refine Shut.out hK _ _ (by infer_instance) ?_))); refine rD HT.out (by kernel_rfl) ?_)
      | ((with_reducible refine zq ?_); refine rS 8 celluloidref19_At.O5 [7] (by kernel_rfl) (by rfl) celluloidref19_At.tab5 (fun HT => ?_); (repeat (first | (refine rP HT.out rfl rfl (v := undef) (a' := ?_) (by kernel_rfl) (fun _ _ _ h => h) (Or.inr ⟨by rfl, rfl⟩) ?_ ?_; rotate_left; (show Act.put _ (some _) _ = _; simp only [Act.put, q1, q2, q3, i64_w, i32_w]; rfl)) | (refine rP HT.out rfl rfl (v := ?_) (a' := ?_) (by kernel_rfl) (fun _ _ _ h => h) (Or.inl ⟨by rfl, ?_⟩) ?_ ?_; rotate_left 2; (intro w'; go_simp; with_reducible rfl); (show Act.put _ (some _) _ = _; simp only [Act.put, q1, q2, q3, i64_w, i32_w]; rfl)) | (refine rT HT.out rfl rfl (v := ?_) (a' := ?_) (by kernel_rfl) (fun _ _ _ h => h) (Or.inl ⟨by rfl, ?_⟩) (by infer_instance) ?_ ?_; rotate_left 2; (intro w' hS; obtain ⟨hc, hf⟩ := rH hS; go_simp; with_reducible rfl); (show Act.put _ (some _) _ = _; simp only [Act.put, q1, q2, q3, i64_w, i32_w]; rfl)) | (refine rO HT.out rfl (by rfl) (by decide) (by rfl) (fun K hK => ?_); go_wp2_with (first | (go_at_call 66; refine (celluloidref01_Root.cn (by assumption : Aside0 _).out).mono ?_; rintro e w' ⟨rfl, ⟨n, rfl⟩⟩) | (go_at_call 68; refine (celluloidref19_Color.cn (by assumption : Aside0 _).out ?_ ?_).mono ?_; (focus with_reducible first | exact znil | exact zC (by assumption)); (first | exact Nat.le_refl _ | exact (by assumption : Aside0 _).out); rintro e w' ⟨rfl, hb⟩; (with_reducible first | replace hb := zkd hb | replace hb := zkn hb | replace hb := zk hb); obtain ⟨hb, hc, hf⟩ := hb; have hy := zy w w'; simp only [zL, Nat.add_zero] at hy) | (go_at_call 69; refine (celluloidref19_Fold.cn (by assumption : Aside0 _).out).mono ?_; rintro e w' ⟨rfl, ⟨n, rfl⟩⟩) | (go_at_call 65; refine (celluloidref19_end.cn (by assumption : Aside0 _).out).mono ?_; rintro e w' ⟨rfl, ⟨n, rfl⟩⟩) | (go_at_call 67; refine (celluloidref19_modulo.cn (by assumption : Aside0 _).out).mono ?_; rintro e w' ⟨rfl, ⟨n, rfl⟩⟩)); refine Shut.out hK _ _ (by infer_instance) ?_) | (refine rL HT.out rfl (by rfl) (by decide) (by rfl) (fun K hK => ?_); go_wp2_with (first | (go_at_call 66; refine (celluloidref01_Root.cn (by assumption : Aside0 _).out).mono ?_; rintro e w' ⟨rfl, ⟨n, rfl⟩⟩) | (go_at_call 68; refine (celluloidref19_Color.cn (by assumption : Aside0 _).out ?_ ?_).mono ?_; (focus with_reducible first | exact znil | exact zC (by assumption)); (first | exact Nat.le_refl _ | exact (by assumption : Aside0 _).out); rintro e w' ⟨rfl, hb⟩; (with_reducible first | replace hb := zkd hb | replace hb := zkn hb | replace hb := zk hb); obtain ⟨hb, hc, hf⟩ := hb; have hy := zy w w'; simp only [zL, Nat.add_zero] at hy) | (go_at_call 69; refine (celluloidref19_Fold.cn (by assumption : Aside0 _).out).mono ?_; rintro e w' ⟨rfl, ⟨n, rfl⟩⟩) | (go_at_call 65; refine (celluloidref19_end.cn (by assumption : Aside0 _).out).mono ?_; rintro e w' ⟨rfl, ⟨n, rfl⟩⟩) | (go_at_call 67; refine (celluloidref19_modulo.cn (by assumption : Aside0 _).out).mono ?_; rintro e w' ⟨rfl, ⟨n, rfl⟩⟩)); refine Shut.out hK _ _ ?_))); refine rD HT.out (by kernel_rfl) ?_))
  all_goals first
    | (first | (go_ret; exact ⟨rfl, Bw.out⟩) | (go_ret3; exact ⟨rfl, Bw.out⟩) | (refine bodyPost_ret (v := ?_) ?_ rfl ?_; rotate_left 2; (refine ⟨?_, Bw.out⟩; rfl); exact results_cell_row rfl _ _ _ 23 _ (0, 0) _ rfl (by (with_reducible repeat (first | exact (by assumption : Aside0 _).out | (focus (refine znew ?_; simp only [World.size_alloc, World.heap_drewN, heap_drew]; done)) | refine blk_alloc ?_ _ | refine blk_drewN ?_ _ | refine blk_drew ?_ | refine blk_below ?_ Bs.out | apply zput | (refine zfar ?_ ?_; (focus omega)))) <;> rfl) Try.underlying23 rfl (by kernel_rfl)))

end Go.Proofs.Ytmdfcinjmlagcaa.P
