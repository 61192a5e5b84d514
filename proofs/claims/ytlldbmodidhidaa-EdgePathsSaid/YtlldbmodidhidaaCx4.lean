/- Walks by cw.py (wip/tool): plain functions that tell what the program answers, and the proofs that the program comes to these answers, for all arguments of their kinds. -/
import Derived.Test.YtlldbmodidhidaaCw
import Derived.Test.YtlldbmodidhidaaPx2
namespace Go.Proofs.Ytlldbmodidhidaa.P
open Go.RowKit Go.Proofs.YtlldbmodidhidaaW.PrintWords Go.Proofs.YtlldbmodidhidaaW.PrintLast Go.Proofs.YtlldbmodidhidaaW.PrintMore
attribute [local go_sem] max2_int min2_int max_two min_two max_three min_three max_four min_four max_five min_five max_six min_six
set_option linter.unusedVariables false
set_option linter.unusedSimpArgs false
attribute [local go_sem high] eqA51

/-! ### celluloidref09_in: function 22 -/
def celluloidref09_in.f (a0 : Int) (a1 : Int) (a2 : Int) : Option (Bool) := if a0 ≥ a1 then (some (decide (a0 ≤ a2))) else (some false)

set_option maxHeartbeats 8000000 in
set_option maxRecDepth 100000 in
theorem celluloidref09_in.cn {a0 a1 a2 : Int} {r : Bool} {w : World} (h : celluloidref09_in.f a0 a1 a2 = some r) :
    Calls Try.prog 22 #[.int .i64 a0, .int .i64 a1, .int .i64 a2] w fun e w' => e = .returned (.bool r) ∧ Drawn0 w w' := by
  have HB := Drawn0.refl w
  unfold celluloidref09_in.f at h
  repeat' first
    | (with_reducible replace h := zs h)
    | (with_reducible replace h := zez h (by assumption) (by decide))
    | (with_reducible replace h := zb h; obtain ⟨t, A, h⟩ := h)
    | (with_reducible first | replace h := z1 h | replace h := z0 h | replace h := zep h (by assumption) | replace h := zen h (by assumption) | replace h := zcp h (by assumption) | replace h := zcn h (by assumption) | replace h := zbp h (by assumption) | replace h := zbn h (by assumption))
    | (with_reducible (first | replace h := zx h | replace h := zt h); obtain ⟨rfl, h⟩ | ⟨rfl, h⟩ := h)
    | (with_reducible (first | replace h := zd h | replace h := zl h | replace h := zm h); obtain ⟨c, h⟩ | ⟨c, h⟩ := h)
    | (with_reducible (first | replace h := ze h | replace h := zg h); obtain ⟨c, c', h⟩ | ⟨c, c', h⟩ := h)
    | (with_reducible replace h := zt h; obtain ⟨c, h⟩ | ⟨c, h⟩ := h)
    | (with_reducible replace h := Option.some.inj h; subst h)
    | (with_reducible exact (zn h).elim)
  all_goals
    try (have H' := za h; clear h)
    go_enter Try.func22, Try.ntmps22
    go_wp2_with (first
      | ((with_reducible refine zq ?_); first | go_quiet (fail)))
  all_goals first
    | (go_ret; exact ⟨rfl, by repeat (first | exact HB | exact Drawn0.refl _ | apply Drawn0.step)⟩)

/-! ### celluloidref07_in: function 33 -/
def celluloidref07_in.f (a0 : Int) (a1 : Int) : Option (Bool) := if a0 ≥ (wrap64 (-a1)) then (some (decide (a0 ≤ a1))) else (some false)

set_option maxHeartbeats 8000000 in
set_option maxRecDepth 100000 in
theorem celluloidref07_in.cn {a0 a1 : Int} {r : Bool} {w : World} (h : celluloidref07_in.f a0 a1 = some r) :
    Calls Try.prog 33 #[.int .i64 a0, .int .i64 a1] w fun e w' => e = .returned (.bool r) ∧ Drawn0 w w' := by
  have HB := Drawn0.refl w
  unfold celluloidref07_in.f at h
  repeat' first
    | (with_reducible replace h := zs h)
    | (with_reducible replace h := zez h (by assumption) (by decide))
    | (with_reducible replace h := zb h; obtain ⟨t, A, h⟩ := h)
    | (with_reducible first | replace h := z1 h | replace h := z0 h | replace h := zep h (by assumption) | replace h := zen h (by assumption) | replace h := zcp h (by assumption) | replace h := zcn h (by assumption) | replace h := zbp h (by assumption) | replace h := zbn h (by assumption))
    | (with_reducible (first | replace h := zx h | replace h := zt h); obtain ⟨rfl, h⟩ | ⟨rfl, h⟩ := h)
    | (with_reducible (first | replace h := zd h | replace h := zl h | replace h := zm h); obtain ⟨c, h⟩ | ⟨c, h⟩ := h)
    | (with_reducible (first | replace h := ze h | replace h := zg h); obtain ⟨c, c', h⟩ | ⟨c, c', h⟩ := h)
    | (with_reducible replace h := zt h; obtain ⟨c, h⟩ | ⟨c, h⟩ := h)
    | (with_reducible replace h := Option.some.inj h; subst h)
    | (with_reducible exact (zn h).elim)
  all_goals
    try (have H' := za h; clear h)
    go_enter Try.func33, Try.ntmps33
    go_wp2_with (first
      | ((with_reducible refine zq ?_); first | go_quiet (fail)))
  all_goals first
    | (go_ret; exact ⟨rfl, by repeat (first | exact HB | exact Drawn0.refl _ | apply Drawn0.step)⟩)

/-! ### celluloidref07_Rect: function 23 -/
def celluloidref07_Rect.f (a0_0 : Int) (a0_1 : Int) (a0_2 : Int) (a0_3 : Int) : Option (Bool) := (celluloidref07_in.f a0_0 1048576).bind fun t274 => (if t274 = true then ((celluloidref07_in.f a0_1 1048576).bind fun t275 => (if t275 = true then ((celluloidref07_in.f a0_2 1048576).bind fun t276 => (if t276 = true then ((celluloidref07_in.f a0_3 1048576).bind fun t277 => (if t277 = true then (if a0_0 ≤ a0_1 then (some (decide (a0_2 ≤ a0_3))) else (some false)) else (some false))) else (some false))) else (some false))) else (some false))

set_option maxHeartbeats 8000000 in
set_option maxRecDepth 100000 in
theorem celluloidref07_Rect.cn {a0_0 a0_1 a0_2 a0_3 : Int} {r : Bool} {w : World} (h : celluloidref07_Rect.f a0_0 a0_1 a0_2 a0_3 = some r) :
    Calls Try.prog 23 #[.agg #[.int .i64 a0_0, .int .i64 a0_1, .int .i64 a0_2, .int .i64 a0_3]] w fun e w' => e = .returned (.bool r) ∧ Below w.heap.size w w' := by
  have hu23 := Try.underlying23
  unfold celluloidref07_Rect.f at h
  repeat' first
    | (with_reducible replace h := zs h)
    | (with_reducible replace h := zez h (by assumption) (by decide))
    | (with_reducible replace h := zb h; obtain ⟨t, A, h⟩ := h)
    | (with_reducible first | replace h := z1 h | replace h := z0 h | replace h := zep h (by assumption) | replace h := zen h (by assumption) | replace h := zcp h (by assumption) | replace h := zcn h (by assumption) | replace h := zbp h (by assumption) | replace h := zbn h (by assumption))
    | (with_reducible (first | replace h := zx h | replace h := zt h); obtain ⟨rfl, h⟩ | ⟨rfl, h⟩ := h)
    | (with_reducible (first | replace h := zd h | replace h := zl h | replace h := zm h); obtain ⟨c, h⟩ | ⟨c, h⟩ := h)
    | (with_reducible (first | replace h := ze h | replace h := zg h); obtain ⟨c, c', h⟩ | ⟨c, c', h⟩ := h)
    | (with_reducible replace h := zt h; obtain ⟨c, h⟩ | ⟨c, h⟩ := h)
    | (with_reducible replace h := Option.some.inj h; subst h)
    | (with_reducible exact (zn h).elim)
  all_goals
    try (have H' := za h; clear h)
    go_enter Try.func23, Try.ntmps23
    go_wp2_with (first
      | ((with_reducible refine zq ?_); first | go_quiet ((first | (go_at_call 33; refine Calls.quiet_of ((celluloidref07_in.cn (by assumption : Aside0 _).out).mono fun _ _ h => ⟨h.1, h.2.out⟩)))))
      | (go_at_call 33; refine (celluloidref07_in.cn (by assumption : Aside0 _).out).mono ?_; rintro e w' ⟨rfl, ⟨n, rfl⟩⟩))
  all_goals first
    | (go_ret; exact ⟨rfl, Bw.out⟩)

/-! ### celluloidref07_RGBA: function 48 -/
def celluloidref07_RGBA.l0 : Nat → List Int → Int → Int → Option (Bool)
  | 0, _, _, _ => none
  | k + 1, x13, x14, x15 => if x15 < x14 then (if 0 ≤ x15 then (if x15 < (x13.length : Int) then (if (rd x13 x15) < 0 then (some false) else (if (rd x13 x15) > 255 then (some false) else (celluloidref07_RGBA.l0 k x13 x14 (wrap64 (x15 + 1))))) else (none)) else (none)) else (some true)
def celluloidref07_RGBA.f (k : Nat) (a0_0 : Int) (a0_1 : Int) (a0_2 : Int) (a0_3 : Int) : Option (Bool) := (some (([a0_0, a0_1, a0_2, a0_3] : List Int) : List Int)).bind fun y279 => (celluloidref07_RGBA.l0 k y279 (y279.length : Int) 0)
theorem celluloidref07_RGBA.mono_l : ∀ k, (∀ y0 y1 y2, LeO (celluloidref07_RGBA.l0 k y0 y1 y2) (celluloidref07_RGBA.l0 (k + 1) y0 y1 y2))
  | 0 => fun _ _ _ r h => by simp [celluloidref07_RGBA.l0] at h
  | k + 1 => by
    have ih0 := celluloidref07_RGBA.mono_l k
    · intro y0 y1 y2
      unfold celluloidref07_RGBA.l0
      repeat' first
      | with_reducible exact ih0 _ _ _
      | with_reducible exact LeO.refl _
      | with_reducible exact LeO.none _
      | with_reducible refine LeO.ite ?_ ?_
      | with_reducible refine LeO.bind ?_ (fun _ => ?_)
theorem celluloidref07_RGBA.mono : ∀ a0 a1 a2 a3 k, LeO (celluloidref07_RGBA.f k a0 a1 a2 a3) (celluloidref07_RGBA.f (k + 1) a0 a1 a2 a3) := by
  intro a0 a1 a2 a3 k
  have ih0 := celluloidref07_RGBA.mono_l k
  unfold celluloidref07_RGBA.f
  repeat' first
      | with_reducible exact ih0 _ _ _
      | with_reducible exact LeO.refl _
      | with_reducible exact LeO.none _
      | with_reducible refine LeO.ite ?_ ?_
      | with_reducible refine LeO.bind ?_ (fun _ => ?_)
set_option maxHeartbeats 8000000 in
set_option maxRecDepth 100000 in
theorem celluloidref07_RGBA.cn {a0_0 a0_1 a0_2 a0_3 : Int} {k : Nat} {r : Bool} {w : World} (h : celluloidref07_RGBA.f k a0_0 a0_1 a0_2 a0_3 = some r) :
    Calls Try.prog 48 #[.agg #[.int .i64 a0_0, .int .i64 a0_1, .int .i64 a0_2, .int .i64 a0_3]] w fun e w' => e = .returned (.bool r) ∧ Below w.heap.size w w' := by
  have hu60 := Try.underlying60
  unfold celluloidref07_RGBA.f at h
  simp only [Option.bind_some] at h
  repeat' first
    | (with_reducible replace h := zs h)
    | (with_reducible replace h := zez h (by assumption) (by decide))
    | (with_reducible replace h := zb h; obtain ⟨t, A, h⟩ := h)
    | (with_reducible first | replace h := z1 h | replace h := z0 h | replace h := zep h (by assumption) | replace h := zen h (by assumption) | replace h := zcp h (by assumption) | replace h := zcn h (by assumption) | replace h := zbp h (by assumption) | replace h := zbn h (by assumption))
    | (with_reducible (first | replace h := zx h | replace h := zt h); obtain ⟨rfl, h⟩ | ⟨rfl, h⟩ := h)
    | (with_reducible (first | replace h := zd h | replace h := zl h | replace h := zm h); obtain ⟨c, h⟩ | ⟨c, h⟩ := h)
    | (with_reducible (first | replace h := ze h | replace h := zg h); obtain ⟨c, c', h⟩ | ⟨c, c', h⟩ := h)
    | (with_reducible replace h := zt h; obtain ⟨c, h⟩ | ⟨c, h⟩ := h)
    | (with_reducible replace h := Option.some.inj h; subst h)
    | (with_reducible exact (zn h).elim)
  all_goals
    try (have H' := za h; clear h)
    go_enter Try.func48, Try.ntmps48
    go_wp2_with (first
      | ((with_reducible refine zq ?_); first | go_quiet (fail)))
  all_goals first
    | (go_ret; exact ⟨rfl, Bw.out⟩)
    | (go_loopg [15] k (fun kq v15 w' => ∃ (x15_1 : Int), v15 = .int .i64 x15_1 ∧ Aside0 (celluloidref07_RGBA.l0 kq [a0_0, a0_1, a0_2, a0_3] 4 x15_1 = some r) ∧ Aside0 (kq ≤ k) ∧ Aside0 (w'.heap[w.heap.size]? = some (.cells #[.int .i64 a0_0, .int .i64 a0_1, .int .i64 a0_2, .int .i64 a0_3] 60 (0, 0))) ∧ Aside0 (w'.heap[w.heap.size + 1]? = some (.cells #[.int .i64 a0_0, .int .i64 a0_1, .int .i64 a0_2, .int .i64 a0_3] 3 (0, 0))) ∧ Aside0 (Below w.heap.size w w'))
       case atStart => exact ⟨_, rfl, H', ⟨Nat.le_refl _⟩, ⟨by (with_reducible repeat (first | exact (by assumption : Aside0 _).out | (refine znew ?_; simp only [World.size_alloc, World.heap_drewN, heap_drew]; done) | refine blk_alloc ?_ _ | refine blk_drewN ?_ _ | refine blk_drew ?_ | refine blk_below ?_ Bs.out | apply zput | (refine zfar ?_ ?_; (focus omega)))) <;> rfl⟩, ⟨by (with_reducible repeat (first | exact (by assumption : Aside0 _).out | (refine znew ?_; simp only [World.size_alloc, World.heap_drewN, heap_drew]; done) | refine blk_alloc ?_ _ | refine blk_drewN ?_ _ | refine blk_drew ?_ | refine blk_below ?_ Bs.out | apply zput | (refine zfar ?_ ?_; (focus omega)))) <;> rfl⟩, ⟨Bw.out⟩⟩
       case round =>
        obtain ⟨x15_1, rfl, HA, HK1, BK0, BK1, HB⟩ := hrel
        have HB := Bw.mk HB.out; clear H'
        cases gk with
        | zero => exact absurd HA.out (by simp [celluloidref07_RGBA.l0])
        | succ k1 =>
          have h := HA.out; clear HA; simp only [celluloidref07_RGBA.l0] at h
          repeat' first
            | (with_reducible replace h := zs h)
            | (with_reducible replace h := zez h (by assumption) (by decide))
            | (with_reducible replace h := zb h; obtain ⟨t, A, h⟩ := h)
            | (with_reducible first | replace h := z1 h | replace h := z0 h | replace h := zep h (by assumption) | replace h := zen h (by assumption) | replace h := zcp h (by assumption) | replace h := zcn h (by assumption) | replace h := zbp h (by assumption) | replace h := zbn h (by assumption))
            | (with_reducible (first | replace h := zx h | replace h := zt h); obtain ⟨rfl, h⟩ | ⟨rfl, h⟩ := h)
            | (with_reducible (first | replace h := zd h | replace h := zl h | replace h := zm h); obtain ⟨c, h⟩ | ⟨c, h⟩ := h)
            | (with_reducible (first | replace h := ze h | replace h := zg h); obtain ⟨c, c', h⟩ | ⟨c, c', h⟩ := h)
            | (with_reducible replace h := zt h; obtain ⟨c, h⟩ | ⟨c, h⟩ := h)
            | (with_reducible replace h := Option.some.inj h; subst h)
            | (with_reducible exact (zn h).elim)
          all_goals
            obtain ⟨hc0, hf0, hz0⟩ := zo BK0.out
            have HN : Lw w wr 2 := ⟨by have := blk_lt BK1.out; omega⟩
            try (refine zatint (w := wr) (W := wr) (za (zlit4 (t := 3) BK1.out)) x15_1 ?_ ?_ ?_; assumption; assumption; rintro ad ⟨⟩; intro p q x; have q : (x15_1 < 4) = True := q; simp only [add_plain] at x)
            try (have H' := za h; clear h)
            go_wp2_with (first
              | ((with_reducible refine zq ?_); first | go_quiet (fail)))
          all_goals first
            | (go_ret; exact ⟨rfl, Bw.out⟩)
            | (go_roundg k1
               case measure => have := HK1.out; omega
               case rel => exact ⟨_, rfl, H', ⟨by have := HK1.out; omega⟩, ⟨by (with_reducible repeat (first | exact (by assumption : Aside0 _).out | (refine znew ?_; simp only [World.size_alloc, World.heap_drewN, heap_drew]; done) | refine blk_alloc ?_ _ | refine blk_drewN ?_ _ | refine blk_drew ?_ | refine blk_below ?_ Bs.out | apply zput | (refine zfar ?_ ?_; (focus omega)))) <;> rfl⟩, ⟨by (with_reducible repeat (first | exact (by assumption : Aside0 _).out | (refine znew ?_; simp only [World.size_alloc, World.heap_drewN, heap_drew]; done) | refine blk_alloc ?_ _ | refine blk_drewN ?_ _ | refine blk_drew ?_ | refine blk_below ?_ Bs.out | apply zput | (refine zfar ?_ ?_; (focus omega)))) <;> rfl⟩, ⟨Bw.out⟩⟩))

/-! ### celluloidref07_Matrix: function 49 -/
def celluloidref07_Matrix.f (a0_0 : Int) (a0_1 : Int) (a0_2 : Int) (a0_3 : Int) (a0_4 : Int) (a0_5 : Int) : Option (Bool) := (celluloidref07_in.f a0_0 4194304).bind fun t284 => (if t284 = true then ((celluloidref07_in.f a0_1 4194304).bind fun t285 => (if t285 = true then ((celluloidref07_in.f a0_2 4194304).bind fun t286 => (if t286 = true then ((celluloidref07_in.f a0_3 4194304).bind fun t287 => (if t287 = true then ((celluloidref07_in.f a0_4 1048576).bind fun t288 => (if t288 = true then ((celluloidref07_in.f a0_5 1048576).bind fun t289 => (some t289)) else (some false))) else (some false))) else (some false))) else (some false))) else (some false))

set_option maxHeartbeats 8000000 in
set_option maxRecDepth 100000 in
theorem celluloidref07_Matrix.cn {a0_0 a0_1 a0_2 a0_3 a0_4 a0_5 : Int} {r : Bool} {w : World} (h : celluloidref07_Matrix.f a0_0 a0_1 a0_2 a0_3 a0_4 a0_5 = some r) :
    Calls Try.prog 49 #[.agg #[.int .i64 a0_0, .int .i64 a0_1, .int .i64 a0_2, .int .i64 a0_3, .int .i64 a0_4, .int .i64 a0_5]] w fun e w' => e = .returned (.bool r) ∧ Below w.heap.size w w' := by
  have hu62 := Try.underlying62
  unfold celluloidref07_Matrix.f at h
  repeat' first
    | (with_reducible replace h := zs h)
    | (with_reducible replace h := zez h (by assumption) (by decide))
    | (with_reducible replace h := zb h; obtain ⟨t, A, h⟩ := h)
    | (with_reducible first | replace h := z1 h | replace h := z0 h | replace h := zep h (by assumption) | replace h := zen h (by assumption) | replace h := zcp h (by assumption) | replace h := zcn h (by assumption) | replace h := zbp h (by assumption) | replace h := zbn h (by assumption))
    | (with_reducible (first | replace h := zx h | replace h := zt h); obtain ⟨rfl, h⟩ | ⟨rfl, h⟩ := h)
    | (with_reducible (first | replace h := zd h | replace h := zl h | replace h := zm h); obtain ⟨c, h⟩ | ⟨c, h⟩ := h)
    | (with_reducible (first | replace h := ze h | replace h := zg h); obtain ⟨c, c', h⟩ | ⟨c, c', h⟩ := h)
    | (with_reducible replace h := zt h; obtain ⟨c, h⟩ | ⟨c, h⟩ := h)
    | (with_reducible replace h := Option.some.inj h; subst h)
    | (with_reducible exact (zn h).elim)
  all_goals
    try (have H' := za h; clear h)
    go_enter Try.func49, Try.ntmps49
    go_wp2_with (first
      | ((with_reducible refine zq ?_); first | go_quiet ((first | (go_at_call 33; refine Calls.quiet_of ((celluloidref07_in.cn (by assumption : Aside0 _).out).mono fun _ _ h => ⟨h.1, h.2.out⟩)))))
      | (go_at_call 33; refine (celluloidref07_in.cn (by assumption : Aside0 _).out).mono ?_; rintro e w' ⟨rfl, ⟨n, rfl⟩⟩))
  all_goals first
    | (go_ret; exact ⟨rfl, Bw.out⟩)

end Go.Proofs.Ytlldbmodidhidaa.P
