/- Walks by cw.py (wip/tool): plain functions that tell what the program answers, and the proofs that the program comes to these answers, for all arguments of their kinds. -/
import Derived.Test.YtmdfcinjmlagcaaCx0
namespace Go.Proofs.Ytmdfcinjmlagcaa.P
open Go.RowKit Go.Proofs.YtmdfcinjmlagcaaW.PrintWords Go.Proofs.YtmdfcinjmlagcaaW.PrintLast Go.Proofs.YtmdfcinjmlagcaaW.PrintMore
attribute [local go_sem] max2_int min2_int max_two min_two max_three min_three max_four min_four max_five min_five max_six min_six
set_option linter.unusedVariables false
set_option linter.unusedSimpArgs false

/-! ### celluloidref07_in: function 76 -/
def celluloidref07_in.f (a0 : Int) (a1 : Int) : Option (Bool) := if a0 ≥ (wrap64 (-a1)) then (some (decide (a0 ≤ a1))) else (some false)

set_option maxHeartbeats 8000000 in
set_option maxRecDepth 100000 in
theorem celluloidref07_in.cn {a0 a1 : Int} {r : Bool} {w : World} (h : celluloidref07_in.f a0 a1 = some r) :
    Calls Try.prog 76 #[.int .i64 a0, .int .i64 a1] w fun e w' => e = .returned (.bool r) ∧ Drawn0 w w' := by
  have HB := Drawn0.refl w
  unfold celluloidref07_in.f at h
  repeat' first
    | (with_reducible replace h := zs h)
    | (with_reducible replace h := zez h (by assumption) (by decide))
    | (with_reducible replace h := zb h; obtain ⟨t, A, h⟩ := h)
    | (with_reducible first | replace h := z1 h | replace h := z0 h | replace h := zep h (by assumption) | replace h := zen h (by assumption) | replace h := zcp h (by assumption) | replace h := zcn h (by assumption) | replace h := zbp h (by assumption) | replace h := zbn h (by assumption))
    | (with_reducible (first | replace h := zx h | replace h := zt h); obtain ⟨rfl, h⟩ | ⟨rfl, h⟩ := h)
    | (with_reducible (first | replace h := zd h | replace h := zl h | replace h := zm h); obtain ⟨c, h⟩ | ⟨c, h⟩ := h)
    | (with_reducible (first | replace h := ze h | replace h := zg h); obtain ⟨c, c', h⟩ | ⟨c, c', h⟩ := h)
    | (with_reducible replace h := zt h; obtain ⟨c, h⟩ | ⟨c, h⟩ := h)
    | (with_reducible replace h := Option.some.inj h; subst h)
    | (with_reducible exact (zn h).elim)
  all_goals
    try (have H' := za h; clear h)
    go_enter Try.func76, Try.ntmps76
    go_wp2_with (first
      | ((with_reducible refine zq ?_); first | go_quiet (fail)))
  all_goals first
    | (first | (go_ret; exact ⟨rfl, by repeat (first | exact HB | exact Drawn0.refl _ | apply Drawn0.step)⟩))

/-! ### celluloidref07_Matrix: function 60 -/
def celluloidref07_Matrix.f (a0_0 : Int) (a0_1 : Int) (a0_2 : Int) (a0_3 : Int) (a0_4 : Int) (a0_5 : Int) : Option (Bool) := (celluloidref07_in.f a0_0 4194304).bind fun t398 => (if t398 = true then ((celluloidref07_in.f a0_1 4194304).bind fun t399 => (if t399 = true then ((celluloidref07_in.f a0_2 4194304).bind fun t400 => (if t400 = true then ((celluloidref07_in.f a0_3 4194304).bind fun t401 => (if t401 = true then ((celluloidref07_in.f a0_4 1048576).bind fun t402 => (if t402 = true then ((celluloidref07_in.f a0_5 1048576).bind fun t403 => (some t403)) else (some false))) else (some false))) else (some false))) else (some false))) else (some false))

set_option maxHeartbeats 8000000 in
set_option maxRecDepth 100000 in
theorem celluloidref07_Matrix.cn {a0_0 a0_1 a0_2 a0_3 a0_4 a0_5 : Int} {r : Bool} {w : World} (h : celluloidref07_Matrix.f a0_0 a0_1 a0_2 a0_3 a0_4 a0_5 = some r) :
    Calls Try.prog 60 #[.agg #[.int .i64 a0_0, .int .i64 a0_1, .int .i64 a0_2, .int .i64 a0_3, .int .i64 a0_4, .int .i64 a0_5]] w fun e w' => e = .returned (.bool r) ∧ Below w.heap.size w w' := by
  have hu28 := Try.underlying28
  unfold celluloidref07_Matrix.f at h
  repeat' first
    | (with_reducible replace h := zs h)
    | (with_reducible replace h := zez h (by assumption) (by decide))
    | (with_reducible replace h := zb h; obtain ⟨t, A, h⟩ := h)
    | (with_reducible first | replace h := z1 h | replace h := z0 h | replace h := zep h (by assumption) | replace h := zen h (by assumption) | replace h := zcp h (by assumption) | replace h := zcn h (by assumption) | replace h := zbp h (by assumption) | replace h := zbn h (by assumption))
    | (with_reducible (first | replace h := zx h | replace h := zt h); obtain ⟨rfl, h⟩ | ⟨rfl, h⟩ := h)
    | (with_reducible (first | replace h := zd h | replace h := zl h | replace h := zm h); obtain ⟨c, h⟩ | ⟨c, h⟩ := h)
    | (with_reducible (first | replace h := ze h | replace h := zg h); obtain ⟨c, c', h⟩ | ⟨c, c', h⟩ := h)
    | (with_reducible replace h := zt h; obtain ⟨c, h⟩ | ⟨c, h⟩ := h)
    | (with_reducible replace h := Option.some.inj h; subst h)
    | (with_reducible exact (zn h).elim)
  all_goals
    try (have H' := za h; clear h)
    go_enter Try.func60, Try.ntmps60
    go_wp2_with (first
      | ((with_reducible refine zq ?_); first | go_quiet ((first | (go_at_call 76; refine Calls.quiet_of ((celluloidref07_in.cn (by assumption : Aside0 _).out).mono fun _ _ h => ⟨h.1, h.2.out⟩)))))
      | (go_at_call 76; refine (celluloidref07_in.cn (by assumption : Aside0 _).out).mono ?_; rintro e w' ⟨rfl, ⟨n, rfl⟩⟩))
  all_goals first
    | (go_ret; exact ⟨rfl, Bw.out⟩)
theorem celluloidref07_Matrix.calls (a0_0 : Int) (a0_1 : Int) (a0_2 : Int) (a0_3 : Int) (a0_4 : Int) (a0_5 : Int) (r : Bool) (w : World) (h : celluloidref07_Matrix.f a0_0 a0_1 a0_2 a0_3 a0_4 a0_5 = some r) :
    Calls Try.prog 60 #[.agg #[.int .i64 a0_0, .int .i64 a0_1, .int .i64 a0_2, .int .i64 a0_3, .int .i64 a0_4, .int .i64 a0_5]] w fun e w' => e = .returned (.bool r) ∧ Below w.heap.size w w' := celluloidref07_Matrix.cn h

/-! ### celluloidref07_Cx: function 61 -/
def celluloidref07_Cx.l0 : Nat → Int → Int → Int → Int → Int → Int → Int → Int → Int → Option (Bool)
  | 0, _, _, _, _, _, _, _, _, _ => none
  | k + 1, x3, x415000, x415001, x415002, x415003, x415004, x415005, x415006, x415007 => if x3 < 4 then (if x3 = 0 then ((celluloidref07_in.f x415000 512).bind fun t415 => (if t415 = true then ((celluloidref07_in.f x415004 255).bind fun t416 => (if t416 = true then (celluloidref07_Cx.l0 k (0 + 1) x415000 x415001 x415002 x415003 x415004 x415005 x415006 x415007) else (some false))) else (some false))) else (if x3 = 1 then ((celluloidref07_in.f x415001 512).bind fun t417 => (if t417 = true then ((celluloidref07_in.f x415005 255).bind fun t418 => (if t418 = true then (celluloidref07_Cx.l0 k (1 + 1) x415000 x415001 x415002 x415003 x415004 x415005 x415006 x415007) else (some false))) else (some false))) else (if x3 = 2 then ((celluloidref07_in.f x415002 512).bind fun t419 => (if t419 = true then ((celluloidref07_in.f x415006 255).bind fun t420 => (if t420 = true then (celluloidref07_Cx.l0 k (2 + 1) x415000 x415001 x415002 x415003 x415004 x415005 x415006 x415007) else (some false))) else (some false))) else (if x3 = 3 then ((celluloidref07_in.f x415003 512).bind fun t421 => (if t421 = true then ((celluloidref07_in.f x415007 255).bind fun t422 => (if t422 = true then (celluloidref07_Cx.l0 k (3 + 1) x415000 x415001 x415002 x415003 x415004 x415005 x415006 x415007) else (some false))) else (some false))) else (none))))) else (some true)
def celluloidref07_Cx.f (k : Nat) (a0_0 : Int) (a0_1 : Int) (a0_2 : Int) (a0_3 : Int) (a0_4 : Int) (a0_5 : Int) (a0_6 : Int) (a0_7 : Int) : Option (Bool) := celluloidref07_Cx.l0 k 0 a0_0 a0_1 a0_2 a0_3 a0_4 a0_5 a0_6 a0_7
theorem celluloidref07_Cx.mono_l : ∀ k, (∀ y0 y1 y2 y3 y4 y5 y6 y7 y8, LeO (celluloidref07_Cx.l0 k y0 y1 y2 y3 y4 y5 y6 y7 y8) (celluloidref07_Cx.l0 (k + 1) y0 y1 y2 y3 y4 y5 y6 y7 y8))
  | 0 => fun _ _ _ _ _ _ _ _ _ r h => by simp [celluloidref07_Cx.l0] at h
  | k + 1 => by
    have ih0 := celluloidref07_Cx.mono_l k
    · intro y0 y1 y2 y3 y4 y5 y6 y7 y8
      unfold celluloidref07_Cx.l0
      repeat' first
      | with_reducible exact ih0 _ _ _ _ _ _ _ _ _
      | with_reducible exact LeO.refl _
      | with_reducible exact LeO.none _
      | with_reducible refine LeO.ite ?_ ?_
      | with_reducible refine LeO.bind ?_ (fun _ => ?_)
theorem celluloidref07_Cx.mono : ∀ a0 a1 a2 a3 a4 a5 a6 a7 k, LeO (celluloidref07_Cx.f k a0 a1 a2 a3 a4 a5 a6 a7) (celluloidref07_Cx.f (k + 1) a0 a1 a2 a3 a4 a5 a6 a7) := by
  intro a0 a1 a2 a3 a4 a5 a6 a7 k
  have ih0 := celluloidref07_Cx.mono_l k
  unfold celluloidref07_Cx.f
  repeat' first
      | with_reducible exact ih0 _ _ _ _ _ _ _ _ _
      | with_reducible exact LeO.refl _
      | with_reducible exact LeO.none _
      | with_reducible refine LeO.ite ?_ ?_
      | with_reducible refine LeO.bind ?_ (fun _ => ?_)
set_option maxHeartbeats 8000000 in
set_option maxRecDepth 100000 in
theorem celluloidref07_Cx.cn {a0_0 a0_1 a0_2 a0_3 a0_4 a0_5 a0_6 a0_7 : Int} {k : Nat} {r : Bool} {w : World} (h : celluloidref07_Cx.f k a0_0 a0_1 a0_2 a0_3 a0_4 a0_5 a0_6 a0_7 = some r) :
    Calls Try.prog 61 #[.agg #[.int .i64 a0_0, .int .i64 a0_1, .int .i64 a0_2, .int .i64 a0_3, .int .i64 a0_4, .int .i64 a0_5, .int .i64 a0_6, .int .i64 a0_7]] w fun e w' => e = .returned (.bool r) ∧ Below w.heap.size w w' := by
  have hu34 := Try.underlying34
  unfold celluloidref07_Cx.f at h
  repeat' first
    | (with_reducible replace h := zs h)
    | (with_reducible replace h := zez h (by assumption) (by decide))
    | (with_reducible replace h := zb h; obtain ⟨t, A, h⟩ := h)
    | (with_reducible first | replace h := z1 h | replace h := z0 h | replace h := zep h (by assumption) | replace h := zen h (by assumption) | replace h := zcp h (by assumption) | replace h := zcn h (by assumption) | replace h := zbp h (by assumption) | replace h := zbn h (by assumption))
    | (with_reducible (first | replace h := zx h | replace h := zt h); obtain ⟨rfl, h⟩ | ⟨rfl, h⟩ := h)
    | (with_reducible (first | replace h := zd h | replace h := zl h | replace h := zm h); obtain ⟨c, h⟩ | ⟨c, h⟩ := h)
    | (with_reducible replace h := zlt h; obtain ⟨rfl, h⟩ | ⟨c, h⟩ := h)
    | (with_reducible (first | replace h := ze h | replace h := zg h); obtain ⟨c, c', h⟩ | ⟨c, c', h⟩ := h)
    | (with_reducible replace h := zt h; obtain ⟨c, h⟩ | ⟨c, h⟩ := h)
    | (with_reducible replace h := Option.some.inj h; subst h)
    | (with_reducible exact (zn h).elim)
  all_goals
    try (have H' := za h; clear h)
    go_enter Try.func61, Try.ntmps61
    go_wp2_with (first
      | ((with_reducible refine zq ?_); first | go_quiet ((first | (go_at_call 76; refine Calls.quiet_of ((celluloidref07_in.cn (by assumption : Aside0 _).out).mono fun _ _ h => ⟨h.1, h.2.out⟩)))))
      | (go_at_call 76; refine (celluloidref07_in.cn (by assumption : Aside0 _).out).mono ?_; rintro e w' ⟨rfl, ⟨n, rfl⟩⟩))
  all_goals first
    | (go_ret; exact ⟨rfl, Bw.out⟩)
    | (go_loopg [3] k (fun kq v3 w' => ∃ (x3_1 : Int), v3 = .int .i64 x3_1 ∧ Aside0 (celluloidref07_Cx.l0 kq x3_1 a0_0 a0_1 a0_2 a0_3 a0_4 a0_5 a0_6 a0_7 = some r) ∧ Aside0 (kq ≤ k) ∧ Aside0 (w'.heap[w.heap.size]? = some (.cells #[.int .i64 a0_0, .int .i64 a0_1, .int .i64 a0_2, .int .i64 a0_3, .int .i64 a0_4, .int .i64 a0_5, .int .i64 a0_6, .int .i64 a0_7] 34 (0, 0))) ∧ Aside0 (Below w.heap.size w w'))
       case atStart => exact ⟨_, rfl, H', ⟨Nat.le_refl _⟩, ⟨by (with_reducible repeat (first | exact (by assumption : Aside0 _).out | (focus (refine znew ?_; simp only [World.size_alloc, World.heap_drewN, heap_drew]; done)) | refine blk_alloc ?_ _ | refine blk_drewN ?_ _ | refine blk_drew ?_ | refine blk_below ?_ Bs.out | apply zput | (refine zfar ?_ ?_; (focus omega)))) <;> rfl⟩, ⟨Bw.out⟩⟩
       case round =>
        obtain ⟨x3_1, rfl, HA, HK1, BK0, HB⟩ := hrel
        have HB := Bw.mk HB.out; clear H'
        cases gk with
        | zero => exact absurd HA.out (by simp [celluloidref07_Cx.l0])
        | succ k1 =>
          have h := HA.out; clear HA; simp only [celluloidref07_Cx.l0] at h
          repeat' first
            | (with_reducible replace h := zs h)
            | (with_reducible replace h := zez h (by assumption) (by decide))
            | (with_reducible replace h := zb h; obtain ⟨t, A, h⟩ := h)
            | (with_reducible first | replace h := z1 h | replace h := z0 h | replace h := zep h (by assumption) | replace h := zen h (by assumption) | replace h := zcp h (by assumption) | replace h := zcn h (by assumption) | replace h := zbp h (by assumption) | replace h := zbn h (by assumption))
            | (with_reducible (first | replace h := zx h | replace h := zt h); obtain ⟨rfl, h⟩ | ⟨rfl, h⟩ := h)
            | (with_reducible (first | replace h := zd h | replace h := zl h | replace h := zm h); obtain ⟨c, h⟩ | ⟨c, h⟩ := h)
            | (with_reducible replace h := zlt h; obtain ⟨rfl, h⟩ | ⟨c, h⟩ := h)
            | (with_reducible (first | replace h := ze h | replace h := zg h); obtain ⟨c, c', h⟩ | ⟨c, c', h⟩ := h)
            | (with_reducible replace h := zt h; obtain ⟨c, h⟩ | ⟨c, h⟩ := h)
            | (with_reducible replace h := Option.some.inj h; subst h)
            | (with_reducible exact (zn h).elim)
          all_goals
            obtain ⟨hc0, hf0, hz0⟩ := zo BK0.out
            have HN : Lw w wr 1 := ⟨by have := blk_lt BK0.out; omega⟩
            try (have H' := za h; clear h)
            go_wp2_with (first
              | ((with_reducible refine zq ?_); first | go_quiet ((first | (go_at_call 76; refine Calls.quiet_of ((celluloidref07_in.cn (by assumption : Aside0 _).out).mono fun _ _ h => ⟨h.1, h.2.out⟩)))))
              | (go_at_call 76; refine (celluloidref07_in.cn (by assumption : Aside0 _).out).mono ?_; rintro e w' ⟨rfl, ⟨n, rfl⟩⟩))
          all_goals first
            | (go_ret; exact ⟨rfl, Bw.out⟩)
            | (go_roundg k1
               case measure => have := HK1.out; omega
               case rel => exact ⟨_, rfl, H', ⟨by have := HK1.out; omega⟩, ⟨by (with_reducible repeat (first | exact (by assumption : Aside0 _).out | (focus (refine znew ?_; simp only [World.size_alloc, World.heap_drewN, heap_drew]; done)) | refine blk_alloc ?_ _ | refine blk_drewN ?_ _ | refine blk_drew ?_ | refine blk_below ?_ Bs.out | apply zput | (refine zfar ?_ ?_; (focus omega)))) <;> rfl⟩, ⟨Bw.out⟩⟩))

/-! ### celluloidref14_floor: function 63 -/
def celluloidref14_floor.f (a0 : Int) (a1 : Int) : Option (Int) := if a1 = 0 then (none) else (if (Int.tmod a0 a1) < 0 then (some (wrap64 ((wrap64 (Int.tdiv a0 a1)) - 1))) else (some (wrap64 (Int.tdiv a0 a1))))

set_option maxHeartbeats 8000000 in
set_option maxRecDepth 100000 in
theorem celluloidref14_floor.cn {a0 a1 r : Int} {w : World} (h : celluloidref14_floor.f a0 a1 = some r) :
    Calls Try.prog 63 #[.int .i64 a0, .int .i64 a1] w fun e w' => e = .returned (.int .i64 r) ∧ Drawn0 w w' := by
  have HB := Drawn0.refl w
  unfold celluloidref14_floor.f at h
  repeat' first
    | (with_reducible replace h := zs h)
    | (with_reducible replace h := zez h (by assumption) (by decide))
    | (with_reducible replace h := zb h; obtain ⟨t, A, h⟩ := h)
    | (with_reducible first | replace h := z1 h | replace h := z0 h | replace h := zep h (by assumption) | replace h := zen h (by assumption) | replace h := zcp h (by assumption) | replace h := zcn h (by assumption) | replace h := zbp h (by assumption) | replace h := zbn h (by assumption))
    | (with_reducible (first | replace h := zx h | replace h := zt h); obtain ⟨rfl, h⟩ | ⟨rfl, h⟩ := h)
    | (with_reducible (first | replace h := zd h | replace h := zl h | replace h := zm h); obtain ⟨c, h⟩ | ⟨c, h⟩ := h)
    | (with_reducible replace h := zeq h; obtain ⟨c, c', h⟩ | ⟨c, c', cn, h⟩ := h)
    | (with_reducible (first | replace h := ze h | replace h := zg h); obtain ⟨c, c', h⟩ | ⟨c, c', h⟩ := h)
    | (with_reducible replace h := zt h; obtain ⟨c, h⟩ | ⟨c, h⟩ := h)
    | (with_reducible replace h := Option.some.inj h; subst h)
    | (with_reducible exact (zn h).elim)
  all_goals
    try (have H' := za h; clear h)
    go_enter Try.func63, Try.ntmps63
    go_wp2_with (first
      | ((with_reducible refine zq ?_); first | go_quiet (fail)))
  all_goals first
    | (first | (go_ret; exact ⟨rfl, by repeat (first | exact HB | exact Drawn0.refl _ | apply Drawn0.step)⟩))
theorem celluloidref14_floor.calls (a0 : Int) (a1 : Int) (r : Int) (w : World) (h : celluloidref14_floor.f a0 a1 = some r) :
    Calls Try.prog 63 #[.int .i64 a0, .int .i64 a1] w fun e w' => e = .returned (.int .i64 r) ∧ Drawn0 w w' := celluloidref14_floor.cn h

/-! ### celluloidref14_end: function 77 -/
def celluloidref14_end.f (a0 : Int) (a1 : Int) (a2 : Int) : Option (Int) := if a0 < a1 then (some a1) else (if a0 > a2 then (some a2) else (some a0))

set_option maxHeartbeats 8000000 in
set_option maxRecDepth 100000 in
theorem celluloidref14_end.cn {a0 a1 a2 r : Int} {w : World} (h : celluloidref14_end.f a0 a1 a2 = some r) :
    Calls Try.prog 77 #[.int .i64 a0, .int .i64 a1, .int .i64 a2] w fun e w' => e = .returned (.int .i64 r) ∧ Drawn0 w w' := by
  have HB := Drawn0.refl w
  unfold celluloidref14_end.f at h
  repeat' first
    | (with_reducible replace h := zs h)
    | (with_reducible replace h := zez h (by assumption) (by decide))
    | (with_reducible replace h := zb h; obtain ⟨t, A, h⟩ := h)
    | (with_reducible first | replace h := z1 h | replace h := z0 h | replace h := zep h (by assumption) | replace h := zen h (by assumption) | replace h := zcp h (by assumption) | replace h := zcn h (by assumption) | replace h := zbp h (by assumption) | replace h := zbn h (by assumption))
    | (with_reducible (first | replace h := zx h | replace h := zt h); obtain ⟨rfl, h⟩ | ⟨rfl, h⟩ := h)
    | (with_reducible (first | replace h := zd h | replace h := zl h | replace h := zm h); obtain ⟨c, h⟩ | ⟨c, h⟩ := h)
    | (with_reducible (first | replace h := ze h | replace h := zg h); obtain ⟨c, c', h⟩ | ⟨c, c', h⟩ := h)
    | (with_reducible replace h := zt h; obtain ⟨c, h⟩ | ⟨c, h⟩ := h)
    | (with_reducible replace h := Option.some.inj h; subst h)
    | (with_reducible exact (zn h).elim)
  all_goals
    try (have H' := za h; clear h)
    go_enter Try.func77, Try.ntmps77
    go_wp2_with (first
      | ((with_reducible refine zq ?_); first | go_quiet (fail)))
  all_goals first
    | (first | (go_ret; exact ⟨rfl, by repeat (first | exact HB | exact Drawn0.refl _ | apply Drawn0.step)⟩))

/-! ### celluloidref14_Color: function 62 -/
def celluloidref14_Color.l0 : Nat → List Int → Int → Int → Int → Int → Int → Int → Int → Int → Int → Option (Int × Int × Int × Int)
  | 0, _, _, _, _, _, _, _, _, _, _ => none
  | k + 1, x5, x6, x424000, x424001, x424002, x424003, x424004, x424005, x424006, x424007 => if x6 < 4 then (if 0 ≤ x6 then (if x6 < (x5.length : Int) then (if x6 = 0 then ((celluloidref14_floor.f (wrap64 ((rd x5 0) * x424000)) 256).bind fun t430 => ((celluloidref14_end.f (wrap64 (t430 + x424004)) 0 255).bind fun t431 => (celluloidref14_Color.l0 k (x5.set (0 : Int).toNat t431) (0 + 1) x424000 x424001 x424002 x424003 x424004 x424005 x424006 x424007))) else (if x6 = 1 then ((celluloidref14_floor.f (wrap64 ((rd x5 1) * x424001)) 256).bind fun t433 => ((celluloidref14_end.f (wrap64 (t433 + x424005)) 0 255).bind fun t434 => (celluloidref14_Color.l0 k (x5.set (1 : Int).toNat t434) (1 + 1) x424000 x424001 x424002 x424003 x424004 x424005 x424006 x424007))) else (if x6 = 2 then ((celluloidref14_floor.f (wrap64 ((rd x5 2) * x424002)) 256).bind fun t436 => ((celluloidref14_end.f (wrap64 (t436 + x424006)) 0 255).bind fun t437 => (celluloidref14_Color.l0 k (x5.set (2 : Int).toNat t437) (2 + 1) x424000 x424001 x424002 x424003 x424004 x424005 x424006 x424007))) else (if x6 = 3 then ((celluloidref14_floor.f (wrap64 ((rd x5 3) * x424003)) 256).bind fun t439 => ((celluloidref14_end.f (wrap64 (t439 + x424007)) 0 255).bind fun t440 => (celluloidref14_Color.l0 k (x5.set (3 : Int).toNat t440) (3 + 1) x424000 x424001 x424002 x424003 x424004 x424005 x424006 x424007))) else (none))))) else (none)) else (none)) else (if 0 < (x5.length : Int) then (if 1 < (x5.length : Int) then (if 2 < (x5.length : Int) then (if 3 < (x5.length : Int) then (some (rd x5 0, rd x5 1, rd x5 2, rd x5 3)) else (none)) else (none)) else (none)) else (none))
def celluloidref14_Color.f (k : Nat) (a0_0 : Int) (a0_1 : Int) (a0_2 : Int) (a0_3 : Int) (a0_4 : Int) (a0_5 : Int) (a0_6 : Int) (a0_7 : Int) (a1_0 : Int) (a1_1 : Int) (a1_2 : Int) (a1_3 : Int) : Option (Int × Int × Int × Int) := celluloidref14_Color.l0 k (([a1_0, a1_1, a1_2, a1_3] : List Int)) 0 a0_0 a0_1 a0_2 a0_3 a0_4 a0_5 a0_6 a0_7
def celluloidref14_Color.O5 : List Nat := [0, 1, 2, 3, 4, 6, 7, 8, 12, 13, 14, 5, 9, 10, 15, 11, 16, 17, 18, 19]
def celluloidref14_Color.T5 : Bool × List (List Nat × List Nat) := (true, [([], []), ([], []), ([], []), ([], []), ([2, 3], [2, 3]), ([4], [4]), ([], []), ([], []), ([7, 6], [6, 7]), ([8], [8]), ([5, 9], [5, 9]), ([10], [10]), ([], []), ([], []), ([13, 12], [12, 13]), ([14], [14]), ([11, 15], [11, 15]), ([16, 11], [16]), ([0, 1, 0, 1, 2, 3, 4, 5, 6, 7, 8, 9, 10, 11, 12, 13, 14, 15, 16, 17], [0, 1]), ([18, 17, 17, 0, 1, 2, 3, 4, 5, 6, 7, 8, 9, 10, 11, 12, 13, 14, 15, 16, 17], [17, 18])])
theorem celluloidref14_Color.tab5 : rtab .any (opsOf Try.f62 5) = celluloidref14_Color.T5 := by kernel_rfl
def celluloidref14_Color.O6 : List Nat := [0, 1, 3, 4, 6, 7, 9, 10, 2, 5, 8, 11, 12, 13]
def celluloidref14_Color.T6 : Bool × List (List Nat × List Nat) := (true, [([], []), ([0], [0]), ([1], [1]), ([], []), ([3], [3]), ([4], [4]), ([], []), ([6], [6]), ([7], [7]), ([], []), ([9], [9]), ([10], [10]), ([2, 5, 8, 11], [2, 5, 8, 11]), ([12, 0, 1, 2, 3, 4, 5, 6, 7, 8, 9, 10, 11, 12], [12])])
theorem celluloidref14_Color.tab6 : rtab .any (opsOf Try.f62 6) = celluloidref14_Color.T6 := by kernel_rfl
theorem celluloidref14_Color.mono_l : ∀ k, (∀ y0 y1 y2 y3 y4 y5 y6 y7 y8 y9, LeO (celluloidref14_Color.l0 k y0 y1 y2 y3 y4 y5 y6 y7 y8 y9) (celluloidref14_Color.l0 (k + 1) y0 y1 y2 y3 y4 y5 y6 y7 y8 y9))
  | 0 => fun _ _ _ _ _ _ _ _ _ _ r h => by simp [celluloidref14_Color.l0] at h
  | k + 1 => by
    have ih0 := celluloidref14_Color.mono_l k
    · intro y0 y1 y2 y3 y4 y5 y6 y7 y8 y9
      unfold celluloidref14_Color.l0
      repeat' first
      | with_reducible exact ih0 _ _ _ _ _ _ _ _ _ _
      | with_reducible exact LeO.refl _
      | with_reducible exact LeO.none _
      | with_reducible refine LeO.ite ?_ ?_
      | with_reducible refine LeO.bind ?_ (fun _ => ?_)
theorem celluloidref14_Color.mono : ∀ a0 a1 a2 a3 a4 a5 a6 a7 a8 a9 a10 a11 k, LeO (celluloidref14_Color.f k a0 a1 a2 a3 a4 a5 a6 a7 a8 a9 a10 a11) (celluloidref14_Color.f (k + 1) a0 a1 a2 a3 a4 a5 a6 a7 a8 a9 a10 a11) := by
  intro a0 a1 a2 a3 a4 a5 a6 a7 a8 a9 a10 a11 k
  have ih0 := celluloidref14_Color.mono_l k
  unfold celluloidref14_Color.f
  repeat' first
      | with_reducible exact ih0 _ _ _ _ _ _ _ _ _ _
      | with_reducible exact LeO.refl _
      | with_reducible exact LeO.none _
      | with_reducible refine LeO.ite ?_ ?_
      | with_reducible refine LeO.bind ?_ (fun _ => ?_)
set_option maxHeartbeats 8000000 in
set_option maxRecDepth 100000 in
theorem celluloidref14_Color.cn {a0_0 a0_1 a0_2 a0_3 a0_4 a0_5 a0_6 a0_7 a1_0 a1_1 a1_2 a1_3 r1 r2 r3 r4 : Int} {k : Nat} {w : World} (h : celluloidref14_Color.f k a0_0 a0_1 a0_2 a0_3 a0_4 a0_5 a0_6 a0_7 a1_0 a1_1 a1_2 a1_3 = some (r1, r2, r3, r4)) :
    Calls Try.prog 62 #[.agg #[.int .i64 a0_0, .int .i64 a0_1, .int .i64 a0_2, .int .i64 a0_3, .int .i64 a0_4, .int .i64 a0_5, .int .i64 a0_6, .int .i64 a0_7], .agg #[.int .i64 a1_0, .int .i64 a1_1, .int .i64 a1_2, .int .i64 a1_3]] w fun e w' => e = .returned (.agg #[.int .i64 r1, .int .i64 r2, .int .i64 r3, .int .i64 r4]) ∧ Below w.heap.size w w' := by
  have hu23 := Try.underlying23
  have hu34 := Try.underlying34
  unfold celluloidref14_Color.f at h
  repeat' first
    | (with_reducible replace h := zs h)
    | (with_reducible replace h := zez h (by assumption) (by decide))
    | (with_reducible replace h := zb h; obtain ⟨t, A, h⟩ := h)
    | (with_reducible first | replace h := z1 h | replace h := z0 h | replace h := zep h (by assumption) | replace h := zen h (by assumption) | replace h := zcp h (by assumption) | replace h := zcn h (by assumption) | replace h := zbp h (by assumption) | replace h := zbn h (by assumption))
    | (with_reducible (first | replace h := zx h | replace h := zt h); obtain ⟨rfl, h⟩ | ⟨rfl, h⟩ := h)
    | (with_reducible (first | replace h := zd h | replace h := zl h | replace h := zm h); obtain ⟨c, h⟩ | ⟨c, h⟩ := h)
    | (with_reducible replace h := zlt h; obtain ⟨rfl, h⟩ | ⟨c, h⟩ := h)
    | (with_reducible (first | replace h := ze h | replace h := zg h); obtain ⟨c, c', h⟩ | ⟨c, c', h⟩ := h)
    | (with_reducible replace h := zt h; obtain ⟨c, h⟩ | ⟨c, h⟩ := h)
    | (with_reducible replace h := Option.some.inj h; subst h)
    | (with_reducible exact (zn h).elim)
    | (simp only [Option.some.injEq, Prod.mk.injEq] at h; obtain ⟨rfl, rfl, rfl, rfl⟩ := h)
  all_goals
    try (have H' := za h; clear h)
    go_enter Try.func62, Try.ntmps62
    go_wp2_with (first
      | ((with_reducible refine zq ?_); first | go_quiet ((first | (go_at_call 77; refine Calls.quiet_of ((celluloidref14_end.cn (by assumption : Aside0 _).out).mono fun _ _ h => ⟨h.1, h.2.out⟩)) | (go_at_call 63; refine Calls.quiet_of ((celluloidref14_floor.cn (by assumption : Aside0 _).out).mono fun _ _ h => ⟨h.1, h.2.out⟩)))))
      | (go_at_call 77; refine (celluloidref14_end.cn (by assumption : Aside0 _).out).mono ?_; rintro e w' ⟨rfl, ⟨n, rfl⟩⟩)
      | (go_at_call 63; refine (celluloidref14_floor.cn (by assumption : Aside0 _).out).mono ?_; rintro e w' ⟨rfl, ⟨n, rfl⟩⟩)
      | ((with_reducible refine zq ?_); refine rS 20 celluloidref14_Color.O5 [19] (by kernel_rfl) (by rfl) celluloidref14_Color.tab5 (fun HT => ?_); (repeat (first | (refine rP HT.out rfl rfl (v := undef) (a' := ?_) (by kernel_rfl) (fun _ _ _ h => h) (Or.inr ⟨by rfl, rfl⟩) ?_ ?_; rotate_left; (show Act.put _ (some _) _ = _; simp only [Act.put, q1, q2, q3, i64_w, i32_w]; rfl)) | (refine rP HT.out rfl rfl (v := ?_) (a' := ?_) (by kernel_rfl) (fun _ _ _ h => h) (Or.inl ⟨by rfl, ?_⟩) ?_ ?_; rotate_left 2; (intro w'; go_simp; with_reducible rfl); (show Act.put _ (some _) _ = _; simp only [Act.put, q1, q2, q3, i64_w, i32_w]; rfl)) | (refine rT HT.out rfl rfl (v := ?_) (a' := ?_) (by kernel_rfl) (fun _ _ _ h => h) (Or.inl ⟨by rfl, ?_⟩) (by infer_instance) ?_ ?_; rotate_left 2; (intro w' hS; obtain ⟨hc, hf⟩ := rH hS; go_simp; with_reducible rfl); (show Act.put _ (some _) _ = _; simp only [Act.put, q1, q2, q3, i64_w, i32_w]; rfl)) | (refine rO HT.out rfl (by rfl) (by decide) (by rfl) (fun K hK => ?_); go_wp2_with (first | (go_at_call 77; refine (celluloidref14_end.cn (by assumption : Aside0 _).out).mono ?_; rintro e w' ⟨rfl, ⟨n, rfl⟩⟩) | (go_at_call 63; refine (celluloidref14_floor.cn (by assumption : Aside0 _).out).mono ?_; rintro e w' ⟨rfl, ⟨n, rfl⟩⟩)); refine Shut.out hK _ _ (by infer_instance) ?_) | (refine rL HT.out rfl (by rfl) (by decide) (by rfl) (fun K hK => ?_); go_wp2_with (first | (go_at_call 77; refine (celluloidref14_end.cn (by assumption : Aside0 _).out).mono ?_; rintro e w' ⟨rfl, ⟨n, rfl⟩⟩) | (go_at_call 63; refine (celluloidref14_floor.cn (by assumption : Aside0 _).out).mono ?_; rintro e w' ⟨rfl, ⟨n, rfl⟩⟩)); refine Shut.out hK _ _ ?_))); refine rD HT.out (by kernel_rfl) ?_)
      | ((with_reducible refine zq ?_); refine rS 14 celluloidref14_Color.O6 [13] (by kernel_rfl) (by rfl) celluloidref14_Color.tab6 (fun HT => ?_); (repeat (first | (refine rP HT.out rfl rfl (v := undef) (a' := ?_) (by kernel_rfl) (fun _ _ _ h => h) (Or.inr ⟨by rfl, rfl⟩) ?_ ?_; rotate_left; (show Act.put _ (some _) _ = _; simp only [Act.put, q1, q2, q3, i64_w, i32_w]; rfl)) | (refine rP HT.out rfl rfl (v := ?_) (a' := ?_) (by kernel_rfl) (fun _ _ _ h => h) (Or.inl ⟨by rfl, ?_⟩) ?_ ?_; rotate_left 2; (intro w'; go_simp; with_reducible rfl); (show Act.put _ (some _) _ = _; simp only [Act.put, q1, q2, q3, i64_w, i32_w]; rfl)) | (refine rT HT.out rfl rfl (v := ?_) (a' := ?_) (by kernel_rfl) (fun _ _ _ h => h) (Or.inl ⟨by rfl, ?_⟩) (by infer_instance) ?_ ?_; rotate_left 2; (intro w' hS; obtain ⟨hc, hf⟩ := rH hS; go_simp; with_reducible rfl); (show Act.put _ (some _) _ = _; simp only [Act.put, q1, q2, q3, i64_w, i32_w]; rfl)) | (refine rO HT.out rfl (by rfl) (by decide) (by rfl) (fun K hK => ?_); go_wp2_with (first | (go_at_call 77; refine (celluloidref14_end.cn (by assumption : Aside0 _).out).mono ?_; rintro e w' ⟨rfl, ⟨n, rfl⟩⟩) | (go_at_call 63; refine (celluloidref14_floor.cn (by assumption : Aside0 _).out).mono ?_; rintro e w' ⟨rfl, ⟨n, rfl⟩⟩)); refine Shut.out hK _ _ (by infer_instance) ?_) | (refine rL HT.out rfl (by rfl) (by decide) (by rfl) (fun K hK => ?_); go_wp2_with (first | (go_at_call 77; refine (celluloidref14_end.cn (by assumption : Aside0 _).out).mono ?_; rintro e w' ⟨rfl, ⟨n, rfl⟩⟩) | (go_at_call 63; refine (celluloidref14_floor.cn (by assumption : Aside0 _).out).mono ?_; rintro e w' ⟨rfl, ⟨n, rfl⟩⟩)); refine Shut.out hK _ _ ?_))); refine rD HT.out (by kernel_rfl) ?_))
  all_goals first
    | (first | (go_ret; exact ⟨rfl, Bw.out⟩) | (go_ret3; exact ⟨rfl, Bw.out⟩) | (refine bodyPost_ret (v := ?_) ?_ rfl ?_; rotate_left 2; (refine ⟨?_, Bw.out⟩; rfl); exact results_cell_row rfl _ _ _ 23 _ (0, 0) _ rfl (by (with_reducible repeat (first | exact (by assumption : Aside0 _).out | (focus (refine znew ?_; simp only [World.size_alloc, World.heap_drewN, heap_drew]; done)) | refine blk_alloc ?_ _ | refine blk_drewN ?_ _ | refine blk_drew ?_ | refine blk_below ?_ Bs.out | apply zput | (refine zfar ?_ ?_; (focus omega)))) <;> rfl) Try.underlying23 rfl (by kernel_rfl)))
    | (go_loopg [6] k (fun kq v6 w' => ∃ (e0 : Int) (e1 : Int) (e2 : Int) (e3 : Int) (x6_1 : Int), v6 = .int .i64 x6_1 ∧ Aside0 (celluloidref14_Color.l0 kq [e0, e1, e2, e3] x6_1 a0_0 a0_1 a0_2 a0_3 a0_4 a0_5 a0_6 a0_7 = some (r1, r2, r3, r4)) ∧ Aside0 (kq ≤ k) ∧ Aside0 (w'.heap[w.heap.size]? = some (.cells #[.int .i64 a0_0, .int .i64 a0_1, .int .i64 a0_2, .int .i64 a0_3, .int .i64 a0_4, .int .i64 a0_5, .int .i64 a0_6, .int .i64 a0_7] 34 (0, 0))) ∧ Aside0 (w'.heap[w.heap.size + 1]? = some (.cells #[.int .i64 a1_0, .int .i64 a1_1, .int .i64 a1_2, .int .i64 a1_3] 23 (0, 0))) ∧ Aside0 (w'.heap[w.heap.size + 2]? = some (.cells #[.int .i64 0, .int .i64 0, .int .i64 0, .int .i64 0] 23 (0, 0))) ∧ Aside0 (w'.heap[w.heap.size + 3]? = some (.cells #[.int .i64 e0, .int .i64 e1, .int .i64 e2, .int .i64 e3] 3 (0, 0))) ∧ Aside0 (Below w.heap.size w w'))
       case atStart => exact ⟨_, _, _, _, _, rfl, H', ⟨Nat.le_refl _⟩, ⟨by (with_reducible repeat (first | exact (by assumption : Aside0 _).out | (focus (refine znew ?_; simp only [World.size_alloc, World.heap_drewN, heap_drew]; done)) | refine blk_alloc ?_ _ | refine blk_drewN ?_ _ | refine blk_drew ?_ | refine blk_below ?_ Bs.out | apply zput | (refine zfar ?_ ?_; (focus omega)))) <;> rfl⟩, ⟨by (with_reducible repeat (first | exact (by assumption : Aside0 _).out | (focus (refine znew ?_; simp only [World.size_alloc, World.heap_drewN, heap_drew]; done)) | refine blk_alloc ?_ _ | refine blk_drewN ?_ _ | refine blk_drew ?_ | refine blk_below ?_ Bs.out | apply zput | (refine zfar ?_ ?_; (focus omega)))) <;> rfl⟩, ⟨by (with_reducible repeat (first | exact (by assumption : Aside0 _).out | (focus (refine znew ?_; simp only [World.size_alloc, World.heap_drewN, heap_drew]; done)) | refine blk_alloc ?_ _ | refine blk_drewN ?_ _ | refine blk_drew ?_ | refine blk_below ?_ Bs.out | apply zput | (refine zfar ?_ ?_; (focus omega)))) <;> rfl⟩, ⟨by (with_reducible repeat (first | exact (by assumption : Aside0 _).out | (focus (refine znew ?_; simp only [World.size_alloc, World.heap_drewN, heap_drew]; done)) | refine blk_alloc ?_ _ | refine blk_drewN ?_ _ | refine blk_drew ?_ | refine blk_below ?_ Bs.out | apply zput | (refine zfar ?_ ?_; (focus omega)))) <;> rfl⟩, ⟨Bw.out⟩⟩
       case round =>
        obtain ⟨e0, e1, e2, e3, x6_1, rfl, HA, HK1, BK0, BK1, BK2, BK3, HB⟩ := hrel
        have HB := Bw.mk HB.out; clear H'
        cases gk with
        | zero => exact absurd HA.out (by simp [celluloidref14_Color.l0])
        | succ k1 =>
          have h := HA.out; clear HA; simp only [celluloidref14_Color.l0] at h
          simp only [zr4, List.length_cons, List.length_nil] at h
          repeat' first
            | (with_reducible replace h := zs h)
            | (with_reducible replace h := zez h (by assumption) (by decide))
            | (with_reducible replace h := zb h; obtain ⟨t, A, h⟩ := h)
            | (with_reducible first | replace h := z1 h | replace h := z0 h | replace h := zep h (by assumption) | replace h := zen h (by assumption) | replace h := zcp h (by assumption) | replace h := zcn h (by assumption) | replace h := zbp h (by assumption) | replace h := zbn h (by assumption))
            | (with_reducible (first | replace h := zx h | replace h := zt h); obtain ⟨rfl, h⟩ | ⟨rfl, h⟩ := h)
            | (with_reducible (first | replace h := zd h | replace h := zl h | replace h := zm h); obtain ⟨c, h⟩ | ⟨c, h⟩ := h)
            | (with_reducible replace h := zlt h; obtain ⟨rfl, h⟩ | ⟨c, h⟩ := h)
            | (with_reducible (first | replace h := ze h | replace h := zg h); obtain ⟨c, c', h⟩ | ⟨c, c', h⟩ := h)
            | (with_reducible replace h := zt h; obtain ⟨c, h⟩ | ⟨c, h⟩ := h)
            | (with_reducible replace h := Option.some.inj h; subst h)
            | (with_reducible exact (zn h).elim)
            | (simp only [Option.some.injEq, Prod.mk.injEq] at h; obtain ⟨rfl, rfl, rfl, rfl⟩ := h)
          all_goals
            obtain ⟨hc0, hf0, hz0⟩ := zo BK0.out
            obtain ⟨hc1, hf1, hz1⟩ := zo BK1.out
            obtain ⟨hc2, hf2, hz2⟩ := zo BK2.out
            obtain ⟨hc3, hf3, hz3⟩ := zo BK3.out
            have HN : Lw w wr 4 := ⟨by have := blk_lt BK3.out; omega⟩
            try (have H' := za h; clear h)
            go_wp2_with (first
              | ((with_reducible refine zq ?_); first | go_quiet ((first | (go_at_call 77; refine Calls.quiet_of ((celluloidref14_end.cn (by assumption : Aside0 _).out).mono fun _ _ h => ⟨h.1, h.2.out⟩)) | (go_at_call 63; refine Calls.quiet_of ((celluloidref14_floor.cn (by assumption : Aside0 _).out).mono fun _ _ h => ⟨h.1, h.2.out⟩)))))
              | (go_at_call 77; refine (celluloidref14_end.cn (by assumption : Aside0 _).out).mono ?_; rintro e w' ⟨rfl, ⟨n, rfl⟩⟩)
              | (go_at_call 63; refine (celluloidref14_floor.cn (by assumption : Aside0 _).out).mono ?_; rintro e w' ⟨rfl, ⟨n, rfl⟩⟩)
              | ((with_reducible refine zq ?_); refine rS 20 celluloidref14_Color.O5 [19] (by kernel_rfl) (by rfl) celluloidref14_Color.tab5 (fun HT => ?_); (repeat (first | (refine rP HT.out rfl rfl (v := undef) (a' := ?_) (by kernel_rfl) (fun _ _ _ h => h) (Or.inr ⟨by rfl, rfl⟩) ?_ ?_; rotate_left; (show Act.put _ (some _) _ = _; simp only [Act.put, q1, q2, q3, i64_w, i32_w]; rfl)) | (refine rP HT.out rfl rfl (v := ?_) (a' := ?_) (by kernel_rfl) (fun _ _ _ h => h) (Or.inl ⟨by rfl, ?_⟩) ?_ ?_; rotate_left 2; (intro w'; go_simp; with_reducible rfl); (show Act.put _ (some _) _ = _; simp only [Act.put, q1, q2, q3, i64_w, i32_w]; rfl)) | (refine rT HT.out rfl rfl (v := ?_) (a' := ?_) (by kernel_rfl) (fun _ _ _ h => h) (Or.inl ⟨by rfl, ?_⟩) (by infer_instance) ?_ ?_; rotate_left 2; (intro w' hS; obtain ⟨hc, hf⟩ := rH hS; go_simp; with_reducible rfl); (show Act.put _ (some _) _ = _; simp only [Act.put, q1, q2, q3, i64_w, i32_w]; rfl)) | (refine rO HT.out rfl (by rfl) (by decide) (by rfl) (fun K hK => ?_); go_wp2_with (first | (go_at_call 77; refine (celluloidref14_end.cn (by assumption : Aside0 _).out).mono ?_; rintro e w' ⟨rfl, ⟨n, rfl⟩⟩) | (go_at_call 63; refine (celluloidref14_floor.cn (by assumption : Aside0 _).out).mono ?_; rintro e w' ⟨rfl, ⟨n, rfl⟩⟩)); refine Shut.out hK _ _ (by infer_instance) ?_) | (refine rL HT.out rfl (by rfl) (by decide) (by rfl) (fun K hK => ?_); go_wp2_with (first | (go_at_call 77; refine (celluloidref14_end.cn (by assumption : Aside0 _).out).mono ?_; rintro e w' ⟨rfl, ⟨n, rfl⟩⟩) | (go_at_call 63; refine (celluloidref14_floor.cn (by assumption : Aside0 _).out).mono ?_; rintro e w' ⟨rfl, ⟨n, rfl⟩⟩)); refine Shut.out hK _ _ ?_))); refine rD HT.out (by kernel_rfl) ?_)
              | ((with_reducible refine zq ?_); refine rS 14 celluloidref14_Color.O6 [13] (by kernel_rfl) (by rfl) celluloidref14_Color.tab6 (fun HT => ?_); (repeat (first | (refine rP HT.out rfl rfl (v := undef) (a' := ?_) (by kernel_rfl) (fun _ _ _ h => h) (Or.inr ⟨by rfl, rfl⟩) ?_ ?_; rotate_left; (show Act.put _ (some _) _ = _; simp only [Act.put, q1, q2, q3, i64_w, i32_w]; rfl)) | (refine rP HT.out rfl rfl (v := ?_) (a' := ?_) (by kernel_rfl) (fun _ _ _ h => h) (Or.inl ⟨by rfl, ?_⟩) ?_ ?_; rotate_left 2; (intro w'; go_simp; with_reducible rfl); (show Act.put _ (some _) _ = _; simp only [Act.put, q1, q2, q3, i64_w, i32_w]; rfl)) | (refine rT HT.out rfl rfl (v := ?_) (a' := ?_) (by kernel_rfl) (fun _ _ _ h => h) (Or.inl ⟨by rfl, ?_⟩) (by infer_instance) ?_ ?_; rotate_left 2; (intro w' hS; obtain ⟨hc, hf⟩ := rH hS; go_simp; with_reducible rfl); (show Act.put _ (some _) _ = _; simp only [Act.put, q1, q2, q3, i64_w, i32_w]; rfl)) | (refine rO HT.out rfl (by rfl) (by decide) (by rfl) (fun K hK => ?_); go_wp2_with (first | (go_at_call 77; refine (celluloidref14_end.cn (by assumption : Aside0 _).out).mono ?_; rintro e w' ⟨rfl, ⟨n, rfl⟩⟩) | (go_at_call 63; refine (celluloidref14_floor.cn (by assumption : Aside0 _).out).mono ?_; rintro e w' ⟨rfl, ⟨n, rfl⟩⟩)); refine Shut.out hK _ _ (by infer_instance) ?_) | (refine rL HT.out rfl (by rfl) (by decide) (by rfl) (fun K hK => ?_); go_wp2_with (first | (go_at_call 77; refine (celluloidref14_end.cn (by assumption : Aside0 _).out).mono ?_; rintro e w' ⟨rfl, ⟨n, rfl⟩⟩) | (go_at_call 63; refine (celluloidref14_floor.cn (by assumption : Aside0 _).out).mono ?_; rintro e w' ⟨rfl, ⟨n, rfl⟩⟩)); refine Shut.out hK _ _ ?_))); refine rD HT.out (by kernel_rfl) ?_))
          all_goals first
            | (first | (go_ret; exact ⟨rfl, Bw.out⟩) | (go_ret3; exact ⟨rfl, Bw.out⟩) | (refine bodyPost_ret (v := ?_) ?_ rfl ?_; rotate_left 2; (refine ⟨?_, Bw.out⟩; rfl); exact results_cell_row rfl _ _ _ 23 _ (0, 0) _ rfl (by (with_reducible repeat (first | exact (by assumption : Aside0 _).out | (focus (refine znew ?_; simp only [World.size_alloc, World.heap_drewN, heap_drew]; done)) | refine blk_alloc ?_ _ | refine blk_drewN ?_ _ | refine blk_drew ?_ | refine blk_below ?_ Bs.out | apply zput | (refine zfar ?_ ?_; (focus omega)))) <;> rfl) Try.underlying23 rfl (by kernel_rfl)))
            | (go_roundg k1
               case measure => have := HK1.out; omega
               case rel => exact ⟨_, _, _, _, _, rfl, H', ⟨by have := HK1.out; omega⟩, ⟨by (with_reducible repeat (first | exact (by assumption : Aside0 _).out | (focus (refine znew ?_; simp only [World.size_alloc, World.heap_drewN, heap_drew]; done)) | refine blk_alloc ?_ _ | refine blk_drewN ?_ _ | refine blk_drew ?_ | refine blk_below ?_ Bs.out | apply zput | (refine zfar ?_ ?_; (focus omega)))) <;> rfl⟩, ⟨by (with_reducible repeat (first | exact (by assumption : Aside0 _).out | (focus (refine znew ?_; simp only [World.size_alloc, World.heap_drewN, heap_drew]; done)) | refine blk_alloc ?_ _ | refine blk_drewN ?_ _ | refine blk_drew ?_ | refine blk_below ?_ Bs.out | apply zput | (refine zfar ?_ ?_; (focus omega)))) <;> rfl⟩, ⟨by (with_reducible repeat (first | exact (by assumption : Aside0 _).out | (focus (refine znew ?_; simp only [World.size_alloc, World.heap_drewN, heap_drew]; done)) | refine blk_alloc ?_ _ | refine blk_drewN ?_ _ | refine blk_drew ?_ | refine blk_below ?_ Bs.out | apply zput | (refine zfar ?_ ?_; (focus omega)))) <;> rfl⟩, ⟨by (with_reducible repeat (first | exact (by assumption : Aside0 _).out | (focus (refine znew ?_; simp only [World.size_alloc, World.heap_drewN, heap_drew]; done)) | refine blk_alloc ?_ _ | refine blk_drewN ?_ _ | refine blk_drew ?_ | refine blk_below ?_ Bs.out | apply zput | (refine zfar ?_ ?_; (focus omega)))) <;> rfl⟩, ⟨Bw.out⟩⟩))

/-! ### celluloidref20_change: function 35 -/
def celluloidref20_change.j0 : Nat → Bool → Int → Int → Int → Int → Int → Int → Int → Int → Int → Int → Int → Int → Option (Int × Int × Int × Int)
  | 0, _, _, _, _, _, _, _, _, _, _, _, _, _ => none
  | k + 1, x12, x447000, x447001, x447002, x447003, x447004, x447005, x447006, x447007, x448000, x448001, x448002, x448003 => if x12 = true then (some (0, 0, 0, 0)) else ((celluloidref14_Color.f k x447000 x447001 x447002 x447003 x447004 x447005 x447006 x447007 x448000 x448001 x448002 x448003).bind fun bt451 => ((celluloidref20_Faint.f bt451.1 bt451.2.1 bt451.2.2.1 bt451.2.2.2).bind fun bt455 => (some (bt455.1, bt455.2.1, bt455.2.2.1, bt455.2.2.2))))
def celluloidref20_change.f (k : Nat) (a0_0 : Int) (a0_1 : Int) (a0_2 : Int) (a0_3 : Int) (a0_4 : Int) (a0_5 : Int) (a0_6 : Int) (a0_7 : Int) (a1_0 : Int) (a1_1 : Int) (a1_2 : Int) (a1_3 : Int) : Option (Int × Int × Int × Int) := (celluloidref07_Cx.f k a0_0 a0_1 a0_2 a0_3 a0_4 a0_5 a0_6 a0_7).bind fun t449 => (if t449 = true then ((celluloidref07_RGBA.f k a1_0 a1_1 a1_2 a1_3).bind fun t450 => (celluloidref20_change.j0 k (!t450) a0_0 a0_1 a0_2 a0_3 a0_4 a0_5 a0_6 a0_7 a1_0 a1_1 a1_2 a1_3)) else (celluloidref20_change.j0 k true a0_0 a0_1 a0_2 a0_3 a0_4 a0_5 a0_6 a0_7 a1_0 a1_1 a1_2 a1_3))
theorem celluloidref20_change.mono_l : ∀ k, (∀ y0 y1 y2 y3 y4 y5 y6 y7 y8 y9 y10 y11 y12, LeO (celluloidref20_change.j0 k y0 y1 y2 y3 y4 y5 y6 y7 y8 y9 y10 y11 y12) (celluloidref20_change.j0 (k + 1) y0 y1 y2 y3 y4 y5 y6 y7 y8 y9 y10 y11 y12))
  | 0 => fun _ _ _ _ _ _ _ _ _ _ _ _ _ r h => by simp [celluloidref20_change.j0] at h
  | k + 1 => by
    have ih0 := celluloidref20_change.mono_l k
    · intro y0 y1 y2 y3 y4 y5 y6 y7 y8 y9 y10 y11 y12
      unfold celluloidref20_change.j0
      repeat' first
      | with_reducible exact ih0 _ _ _ _ _ _ _ _ _ _ _ _ _
      | with_reducible exact celluloidref07_Cx.mono _ _ _ _ _ _ _ _ _
      | with_reducible exact celluloidref07_RGBA.mono _ _ _ _ _
      | with_reducible exact celluloidref14_Color.mono _ _ _ _ _ _ _ _ _ _ _ _ _
      | with_reducible exact LeO.refl _
      | with_reducible exact LeO.none _
      | with_reducible refine LeO.ite ?_ ?_
      | with_reducible refine LeO.bind ?_ (fun _ => ?_)
theorem celluloidref20_change.mono : ∀ a0 a1 a2 a3 a4 a5 a6 a7 a8 a9 a10 a11 k, LeO (celluloidref20_change.f k a0 a1 a2 a3 a4 a5 a6 a7 a8 a9 a10 a11) (celluloidref20_change.f (k + 1) a0 a1 a2 a3 a4 a5 a6 a7 a8 a9 a10 a11) := by
  intro a0 a1 a2 a3 a4 a5 a6 a7 a8 a9 a10 a11 k
  have ih0 := celluloidref20_change.mono_l k
  unfold celluloidref20_change.f
  repeat' first
      | with_reducible exact ih0 _ _ _ _ _ _ _ _ _ _ _ _ _
      | with_reducible exact celluloidref07_Cx.mono _ _ _ _ _ _ _ _ _
      | with_reducible exact celluloidref07_RGBA.mono _ _ _ _ _
      | with_reducible exact celluloidref14_Color.mono _ _ _ _ _ _ _ _ _ _ _ _ _
      | with_reducible exact LeO.refl _
      | with_reducible exact LeO.none _
      | with_reducible refine LeO.ite ?_ ?_
      | with_reducible refine LeO.bind ?_ (fun _ => ?_)
set_option maxHeartbeats 8000000 in
set_option maxRecDepth 100000 in
theorem celluloidref20_change.cn {a0_0 a0_1 a0_2 a0_3 a0_4 a0_5 a0_6 a0_7 a1_0 a1_1 a1_2 a1_3 r1 r2 r3 r4 : Int} {k : Nat} {w : World} (h : celluloidref20_change.f k a0_0 a0_1 a0_2 a0_3 a0_4 a0_5 a0_6 a0_7 a1_0 a1_1 a1_2 a1_3 = some (r1, r2, r3, r4)) :
    Calls Try.prog 35 #[.agg #[.int .i64 a0_0, .int .i64 a0_1, .int .i64 a0_2, .int .i64 a0_3, .int .i64 a0_4, .int .i64 a0_5, .int .i64 a0_6, .int .i64 a0_7], .agg #[.int .i64 a1_0, .int .i64 a1_1, .int .i64 a1_2, .int .i64 a1_3]] w fun e w' => e = .returned (.agg #[.int .i64 r1, .int .i64 r2, .int .i64 r3, .int .i64 r4]) ∧ Below w.heap.size w w' := by
  have hu23 := Try.underlying23
  have hu34 := Try.underlying34
  unfold celluloidref20_change.f at h
  repeat' first
    | (with_reducible replace h := zs h)
    | (with_reducible replace h := zez h (by assumption) (by decide))
    | (with_reducible replace h := zb h; obtain ⟨t, A, h⟩ := h)
    | (with_reducible first | replace h := z1 h | replace h := z0 h | replace h := zep h (by assumption) | replace h := zen h (by assumption) | replace h := zcp h (by assumption) | replace h := zcn h (by assumption) | replace h := zbp h (by assumption) | replace h := zbn h (by assumption))
    | (with_reducible (first | replace h := zx h | replace h := zt h); obtain ⟨rfl, h⟩ | ⟨rfl, h⟩ := h)
    | (with_reducible (first | replace h := zd h | replace h := zl h | replace h := zm h); obtain ⟨c, h⟩ | ⟨c, h⟩ := h)
    | (with_reducible (first | replace h := ze h | replace h := zg h); obtain ⟨c, c', h⟩ | ⟨c, c', h⟩ := h)
    | (with_reducible replace h := zt h; obtain ⟨c, h⟩ | ⟨c, h⟩ := h)
    | (with_reducible replace h := Option.some.inj h; subst h)
    | (with_reducible exact (zn h).elim)
    | (obtain _ | k := k; exact absurd h (by simp [celluloidref20_change.j0]); simp only [celluloidref20_change.j0, if_true, if_false, Bool.false_eq_true] at h)
    | (simp only [Option.some.injEq, Prod.mk.injEq] at h; obtain ⟨rfl, rfl, rfl, rfl⟩ := h)
  all_goals
    try (have H' := za h; clear h)
    go_enter Try.func35, Try.ntmps35
    go_wp2_with (first
      | ((with_reducible refine zq ?_); first | go_quiet (fail))
      | (go_at_call 61; refine (celluloidref07_Cx.cn (by assumption : Aside0 _).out).mono ?_; rintro e w' ⟨rfl, hb⟩; (with_reducible first | replace hb := zkd hb | replace hb := zkn hb | replace hb := zk hb); obtain ⟨hb, hc, hf⟩ := hb; have hy := zy w w'; simp only [zL, Nat.add_zero] at hy)
      | (go_at_call 11; refine (celluloidref07_RGBA.cn (by assumption : Aside0 _).out).mono ?_; rintro e w' ⟨rfl, hb⟩; (with_reducible first | replace hb := zkd hb | replace hb := zkn hb | replace hb := zk hb); obtain ⟨hb, hc, hf⟩ := hb; have hy := zy w w'; simp only [zL, Nat.add_zero] at hy)
      | (go_at_call 62; refine (celluloidref14_Color.cn (by assumption : Aside0 _).out).mono ?_; rintro e w' ⟨rfl, hb⟩; (with_reducible first | replace hb := zkd hb | replace hb := zkn hb | replace hb := zk hb); obtain ⟨hb, hc, hf⟩ := hb; have hy := zy w w'; simp only [zL, Nat.add_zero] at hy)
      | (go_at_call 13; refine (celluloidref20_Faint.cn (by assumption : Aside0 _).out).mono ?_; rintro e w' ⟨rfl, hb⟩; (with_reducible first | replace hb := zkd hb | replace hb := zkn hb | replace hb := zk hb); obtain ⟨hb, hc, hf⟩ := hb; have hy := zy w w'; simp only [zL, Nat.add_zero] at hy))
  all_goals first
    | (first | (go_ret; exact ⟨rfl, Bw.out⟩) | (go_ret3; exact ⟨rfl, Bw.out⟩) | (refine bodyPost_ret (v := ?_) ?_ rfl ?_; rotate_left 2; (refine ⟨?_, Bw.out⟩; rfl); exact results_cell_row rfl _ _ _ 23 _ (0, 0) _ rfl (by (with_reducible repeat (first | exact (by assumption : Aside0 _).out | (focus (refine znew ?_; simp only [World.size_alloc, World.heap_drewN, heap_drew]; done)) | refine blk_alloc ?_ _ | refine blk_drewN ?_ _ | refine blk_drew ?_ | refine blk_below ?_ Bs.out | apply zput | (refine zfar ?_ ?_; (focus omega)))) <;> rfl) Try.underlying23 rfl (by kernel_rfl)))

end Go.Proofs.Ytmdfcinjmlagcaa.P
