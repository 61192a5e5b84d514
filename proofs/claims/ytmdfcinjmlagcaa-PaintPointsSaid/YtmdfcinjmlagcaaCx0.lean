/- Walks by cw.py (wip/tool): plain functions that tell what the program answers, and the proofs that the program comes to these answers, for all arguments of their kinds. -/
import Derived.Test.YtmdfcinjmlagcaaCwR
import Derived.Test.YtmdfcinjmlagcaaPx1
namespace Go.Proofs.Ytmdfcinjmlagcaa.P
open Go.RowKit Go.Proofs.YtmdfcinjmlagcaaW.PrintWords Go.Proofs.YtmdfcinjmlagcaaW.PrintLast Go.Proofs.YtmdfcinjmlagcaaW.PrintMore
attribute [local go_sem] max2_int min2_int max_two min_two max_three min_three max_four min_four max_five min_five max_six min_six
set_option linter.unusedVariables false
set_option linter.unusedSimpArgs false
attribute [local go_sem high] eqA23

/-! ### field_within: function 44 -/
def field_within.l0 : Nat → Int → Int → List Int → Int → Int → Option (Bool)
  | 0, _, _, _, _, _ => none
  | k + 1, x0, x1, x9, x10, x11 => if x11 < x10 then (if 0 ≤ x11 then (if x11 < (x9.length : Int) then (if (rd x9 x11) < x0 then (some false) else (if (rd x9 x11) > x1 then (some false) else (field_within.l0 k x0 x1 x9 x10 (wrap64 (x11 + 1))))) else (none)) else (none)) else (some true)
def field_within.f (k : Nat) (a0 : Int) (a1 : Int) (l2 : List Int) : Option (Bool) := field_within.l0 k a0 a1 l2 (l2.length : Int) 0
theorem field_within.mono_l : ∀ k, (∀ y0 y1 y2 y3 y4, LeO (field_within.l0 k y0 y1 y2 y3 y4) (field_within.l0 (k + 1) y0 y1 y2 y3 y4))
  | 0 => fun _ _ _ _ _ r h => by simp [field_within.l0] at h
  | k + 1 => by
    have ih0 := field_within.mono_l k
    · intro y0 y1 y2 y3 y4
      unfold field_within.l0
      repeat' first
      | with_reducible exact ih0 _ _ _ _ _
      | with_reducible exact LeO.refl _
      | with_reducible exact LeO.none _
      | with_reducible refine LeO.ite ?_ ?_
      | with_reducible refine LeO.bind ?_ (fun _ => ?_)
theorem field_within.mono : ∀ a0 a1 a2 k, LeO (field_within.f k a0 a1 a2) (field_within.f (k + 1) a0 a1 a2) := by
  intro a0 a1 a2 k
  have ih0 := field_within.mono_l k
  unfold field_within.f
  repeat' first
      | with_reducible exact ih0 _ _ _ _ _
      | with_reducible exact LeO.refl _
      | with_reducible exact LeO.none _
      | with_reducible refine LeO.ite ?_ ?_
      | with_reducible refine LeO.bind ?_ (fun _ => ?_)
set_option maxHeartbeats 8000000 in
set_option maxRecDepth 100000 in
theorem field_within.cn {a0 a1 : Int} {k : Nat} {A2 : Option Addr} {n2 c2 : Nat} {l2 : List Int} {r : Bool} {w : World} (h : field_within.f k a0 a1 l2 = some r) (hr2 : Kd.C (Kd.int .i64) w A2 n2 l2) (hc2 : n2 ≤ c2) :
    Calls Try.prog 44 #[.int .i64 a0, .int .i64 a1, .slice A2 n2 c2] w fun e w' => e = .returned (.bool r) ∧ Drawn0 w w' := by
  obtain rfl := hr2.1
  have HC2 := za hr2; have HL2 := za hc2; clear hr2 hc2
  have HB := Drawn0.refl w
  unfold field_within.f at h
  repeat' first
    | (with_reducible replace h := zs h)
    | (with_reducible replace h := zez h (by assumption) (by decide))
    | (with_reducible replace h := zb h; obtain ⟨t, A, h⟩ := h)
    | (with_reducible first | replace h := z1 h | replace h := z0 h | replace h := zep h (by assumption) | replace h := zen h (by assumption) | replace h := zcp h (by assumption) | replace h := zcn h (by assumption) | replace h := zbp h (by assumption) | replace h := zbn h (by assumption))
    | (with_reducible (first | replace h := zx h | replace h := zt h); obtain ⟨rfl, h⟩ | ⟨rfl, h⟩ := h)
    | (with_reducible (first | replace h := zd h | replace h := zl h | replace h := zm h); obtain ⟨c, h⟩ | ⟨c, h⟩ := h)
    | (with_reducible (first | replace h := ze h | replace h := zg h); obtain ⟨c, c', h⟩ | ⟨c, c', h⟩ := h)
    | (with_reducible replace h := zt h; obtain ⟨c, h⟩ | ⟨c, h⟩ := h)
    | (with_reducible replace h := Option.some.inj h; subst h)
    | (with_reducible exact (zn h).elim)
  all_goals
    try (have H' := za h; clear h)
    go_enter Try.func44, Try.ntmps44
    go_wp2_with (first
      | ((with_reducible refine zq ?_); first | go_quiet (fail)))
  all_goals first
    | (first | (go_ret; exact ⟨rfl, by repeat (first | exact HB | exact Drawn0.refl _ | apply Drawn0.step)⟩))
    | (go_loopg [11] k (fun kq v11 w' => ∃ (x11_1 : Int), v11 = .int .i64 x11_1 ∧ Aside0 (field_within.l0 kq a0 a1 l2 (l2.length : Int) x11_1 = some r) ∧ Aside0 (kq ≤ k) ∧ Drawn0 w w')
       case atStart => exact ⟨_, rfl, H', ⟨Nat.le_refl _⟩, by repeat (first | exact HB | exact Drawn0.refl _ | apply Drawn0.step)⟩
       case round =>
        obtain ⟨x11_1, rfl, HA, HK1, HB⟩ := hrel
        have HW := Bw.mk HB.below; clear H'
        cases gk with
        | zero => exact absurd HA.out (by simp [field_within.l0])
        | succ k1 =>
          have h := HA.out; clear HA; simp only [field_within.l0] at h
          repeat' first
            | (with_reducible replace h := zs h)
            | (with_reducible replace h := zez h (by assumption) (by decide))
            | (with_reducible replace h := zb h; obtain ⟨t, A, h⟩ := h)
            | (with_reducible first | replace h := z1 h | replace h := z0 h | replace h := zep h (by assumption) | replace h := zen h (by assumption) | replace h := zcp h (by assumption) | replace h := zcn h (by assumption) | replace h := zbp h (by assumption) | replace h := zbn h (by assumption))
            | (with_reducible (first | replace h := zx h | replace h := zt h); obtain ⟨rfl, h⟩ | ⟨rfl, h⟩ := h)
            | (with_reducible (first | replace h := zd h | replace h := zl h | replace h := zm h); obtain ⟨c, h⟩ | ⟨c, h⟩ := h)
            | (with_reducible (first | replace h := ze h | replace h := zg h); obtain ⟨c, c', h⟩ | ⟨c, c', h⟩ := h)
            | (with_reducible replace h := zt h; obtain ⟨c, h⟩ | ⟨c, h⟩ := h)
            | (with_reducible replace h := Option.some.inj h; subst h)
            | (with_reducible exact (zn h).elim)
          all_goals
            have HN : Lw w wr 0 := ⟨HW.out.size⟩
            try (refine zatint (W := wr) HC2 x11_1 ?_ ?_ ?_; (first | assumption | decide); assumption; rintro ad ⟨⟩; intros)
            try (have H' := za h; clear h)
            go_wp2_with (first
              | ((with_reducible refine zq ?_); first | go_quiet (fail)))
          all_goals first
            | (first | (go_ret; exact ⟨rfl, by repeat (first | exact HB | exact Drawn0.refl _ | apply Drawn0.step)⟩))
            | (go_roundg k1
               case measure => have := HK1.out; omega
               case rel => exact ⟨_, rfl, H', ⟨by have := HK1.out; omega⟩, by repeat (first | exact HB | exact Drawn0.refl _ | apply Drawn0.step)⟩))
theorem field_within.calls (k : Nat) (a0 : Int) (a1 : Int) (A2 : Option Addr) (c2 : Nat) (l2 : List Int) (r : Bool) (w : World) (hr2 : Kd.C (Kd.int .i64) w A2 l2.length l2) (hc2 : l2.length ≤ c2) (h : field_within.f k a0 a1 l2 = some r) :
    Calls Try.prog 44 #[.int .i64 a0, .int .i64 a1, .slice A2 l2.length c2] w fun e w' => e = .returned (.bool r) ∧ Drawn0 w w' := field_within.cn h hr2 hc2

/-! ### field_RightRGBA: function 24 -/
def field_RightRGBA.f (k : Nat) (a0_0 : Int) (a0_1 : Int) (a0_2 : Int) (a0_3 : Int) : Option (Bool) := (field_within.f k 0 255 (([a0_0, a0_1, a0_2, a0_3] : List Int))).bind fun t106 => (some t106)
theorem field_RightRGBA.mono : ∀ a0 a1 a2 a3 k, LeO (field_RightRGBA.f k a0 a1 a2 a3) (field_RightRGBA.f (k + 1) a0 a1 a2 a3) := by
  intro a0 a1 a2 a3 k
  unfold field_RightRGBA.f
  repeat' first
      | with_reducible exact field_within.mono _ _ _ _
      | with_reducible exact LeO.refl _
      | with_reducible exact LeO.none _
      | with_reducible refine LeO.ite ?_ ?_
      | with_reducible refine LeO.bind ?_ (fun _ => ?_)
set_option maxHeartbeats 8000000 in
set_option maxRecDepth 100000 in
theorem field_RightRGBA.cn {a0_0 a0_1 a0_2 a0_3 : Int} {k : Nat} {r : Bool} {w : World} (h : field_RightRGBA.f k a0_0 a0_1 a0_2 a0_3 = some r) :
    Calls Try.prog 24 #[.agg #[.int .i64 a0_0, .int .i64 a0_1, .int .i64 a0_2, .int .i64 a0_3]] w fun e w' => e = .returned (.bool r) ∧ Below w.heap.size w w' := by
  have hu23 := Try.underlying23
  unfold field_RightRGBA.f at h
  repeat' first
    | (with_reducible replace h := zs h)
    | (with_reducible replace h := zez h (by assumption) (by decide))
    | (with_reducible replace h := zb h; obtain ⟨t, A, h⟩ := h)
    | (with_reducible first | replace h := z1 h | replace h := z0 h | replace h := zep h (by assumption) | replace h := zen h (by assumption) | replace h := zcp h (by assumption) | replace h := zcn h (by assumption) | replace h := zbp h (by assumption) | replace h := zbn h (by assumption))
    | (with_reducible (first | replace h := zx h | replace h := zt h); obtain ⟨rfl, h⟩ | ⟨rfl, h⟩ := h)
    | (with_reducible (first | replace h := zd h | replace h := zl h | replace h := zm h); obtain ⟨c, h⟩ | ⟨c, h⟩ := h)
    | (with_reducible (first | replace h := ze h | replace h := zg h); obtain ⟨c, c', h⟩ | ⟨c, c', h⟩ := h)
    | (with_reducible replace h := zt h; obtain ⟨c, h⟩ | ⟨c, h⟩ := h)
    | (with_reducible replace h := Option.some.inj h; subst h)
    | (with_reducible exact (zn h).elim)
  all_goals
    try (have H' := za h; clear h)
    go_enter Try.func24, Try.ntmps24
    go_wp2_with (first
      | ((with_reducible refine zq ?_); first | go_quiet ((first | (go_at_call 44; refine Calls.quiet_of ((field_within.cn (by assumption : Aside0 _).out ?_ ?_).mono fun _ _ h => ⟨h.1, h.2.out⟩); (focus first | with_reducible exact zC (by assumption) | (with_reducible first | refine zlit1 (t := 3) ?_ | refine zlit2 (t := 3) ?_ | refine zlit3 (t := 3) ?_ | refine zlit4 (t := 3) ?_ | refine zlit6 (t := 3) ?_); ((with_reducible repeat (first | exact (by assumption : Aside0 _).out | (focus (refine znew ?_; simp only [World.size_alloc, World.heap_drewN, heap_drew]; done)) | refine blk_alloc ?_ _ | refine blk_drewN ?_ _ | refine blk_drew ?_ | refine blk_below ?_ Bs.out | apply zput | (refine zfar ?_ ?_; (focus omega)))) <;> rfl); done); (first | exact Nat.le_refl _ | exact (by assumption : Aside0 _).out)))))
      | (go_at_call 44; refine (field_within.cn (by assumption : Aside0 _).out ?_ ?_).mono ?_; (focus first | with_reducible exact zC (by assumption) | (with_reducible first | refine zlit1 (t := 3) ?_ | refine zlit2 (t := 3) ?_ | refine zlit3 (t := 3) ?_ | refine zlit4 (t := 3) ?_ | refine zlit6 (t := 3) ?_); ((with_reducible repeat (first | exact (by assumption : Aside0 _).out | (focus (refine znew ?_; simp only [World.size_alloc, World.heap_drewN, heap_drew]; done)) | refine blk_alloc ?_ _ | refine blk_drewN ?_ _ | refine blk_drew ?_ | refine blk_below ?_ Bs.out | apply zput | (refine zfar ?_ ?_; (focus omega)))) <;> rfl); done); (first | exact Nat.le_refl _ | exact (by assumption : Aside0 _).out); rintro e w' ⟨rfl, ⟨n, rfl⟩⟩))
  all_goals first
    | (go_ret; exact ⟨rfl, Bw.out⟩)
theorem field_RightRGBA.calls (k : Nat) (a0_0 : Int) (a0_1 : Int) (a0_2 : Int) (a0_3 : Int) (r : Bool) (w : World) (h : field_RightRGBA.f k a0_0 a0_1 a0_2 a0_3 = some r) :
    Calls Try.prog 24 #[.agg #[.int .i64 a0_0, .int .i64 a0_1, .int .i64 a0_2, .int .i64 a0_3]] w fun e w' => e = .returned (.bool r) ∧ Below w.heap.size w w' := field_RightRGBA.cn h

/-! ### celluloidref07_RGBA: function 11 -/
def celluloidref07_RGBA.l0 : Nat → List Int → Int → Int → Option (Bool)
  | 0, _, _, _ => none
  | k + 1, x13, x14, x15 => if x15 < x14 then (if 0 ≤ x15 then (if x15 < (x13.length : Int) then (if (rd x13 x15) < 0 then (some false) else (if (rd x13 x15) > 255 then (some false) else (celluloidref07_RGBA.l0 k x13 x14 (wrap64 (x15 + 1))))) else (none)) else (none)) else (some true)
def celluloidref07_RGBA.f (k : Nat) (a0_0 : Int) (a0_1 : Int) (a0_2 : Int) (a0_3 : Int) : Option (Bool) := (some (([a0_0, a0_1, a0_2, a0_3] : List Int) : List Int)).bind fun y108 => (celluloidref07_RGBA.l0 k y108 (y108.length : Int) 0)
theorem celluloidref07_RGBA.mono_l : ∀ k, (∀ y0 y1 y2, LeO (celluloidref07_RGBA.l0 k y0 y1 y2) (celluloidref07_RGBA.l0 (k + 1) y0 y1 y2))
  | 0 => fun _ _ _ r h => by simp [celluloidref07_RGBA.l0] at h
  | k + 1 => by
    have ih0 := celluloidref07_RGBA.mono_l k
    · intro y0 y1 y2
      unfold celluloidref07_RGBA.l0
      repeat' first
      | with_reducible exact ih0 _ _ _
      | with_reducible exact LeO.refl _
      | with_reducible exact LeO.none _
      | with_reducible refine LeO.ite ?_ ?_
      | with_reducible refine LeO.bind ?_ (fun _ => ?_)
theorem celluloidref07_RGBA.mono : ∀ a0 a1 a2 a3 k, LeO (celluloidref07_RGBA.f k a0 a1 a2 a3) (celluloidref07_RGBA.f (k + 1) a0 a1 a2 a3) := by
  intro a0 a1 a2 a3 k
  have ih0 := celluloidref07_RGBA.mono_l k
  unfold celluloidref07_RGBA.f
  repeat' first
      | with_reducible exact ih0 _ _ _
      | with_reducible exact LeO.refl _
      | with_reducible exact LeO.none _
      | with_reducible refine LeO.ite ?_ ?_
      | with_reducible refine LeO.bind ?_ (fun _ => ?_)
set_option maxHeartbeats 8000000 in
set_option maxRecDepth 100000 in
theorem celluloidref07_RGBA.cn {a0_0 a0_1 a0_2 a0_3 : Int} {k : Nat} {r : Bool} {w : World} (h : celluloidref07_RGBA.f k a0_0 a0_1 a0_2 a0_3 = some r) :
    Calls Try.prog 11 #[.agg #[.int .i64 a0_0, .int .i64 a0_1, .int .i64 a0_2, .int .i64 a0_3]] w fun e w' => e = .returned (.bool r) ∧ Below w.heap.size w w' := by
  have hu23 := Try.underlying23
  unfold celluloidref07_RGBA.f at h
  simp only [Option.bind_some] at h
  repeat' first
    | (with_reducible replace h := zs h)
    | (with_reducible replace h := zez h (by assumption) (by decide))
    | (with_reducible replace h := zb h; obtain ⟨t, A, h⟩ := h)
    | (with_reducible first | replace h := z1 h | replace h := z0 h | replace h := zep h (by assumption) | replace h := zen h (by assumption) | replace h := zcp h (by assumption) | replace h := zcn h (by assumption) | replace h := zbp h (by assumption) | replace h := zbn h (by assumption))
    | (with_reducible (first | replace h := zx h | replace h := zt h); obtain ⟨rfl, h⟩ | ⟨rfl, h⟩ := h)
    | (with_reducible (first | replace h := zd h | replace h := zl h | replace h := zm h); obtain ⟨c, h⟩ | ⟨c, h⟩ := h)
    | (with_reducible (first | replace h := ze h | replace h := zg h); obtain ⟨c, c', h⟩ | ⟨c, c', h⟩ := h)
    | (with_reducible replace h := zt h; obtain ⟨c, h⟩ | ⟨c, h⟩ := h)
    | (with_reducible replace h := Option.some.inj h; subst h)
    | (with_reducible exact (zn h).elim)
  all_goals
    try (have H' := za h; clear h)
    go_enter Try.func11, Try.ntmps11
    go_wp2_with (first
      | ((with_reducible refine zq ?_); first | go_quiet (fail)))
  all_goals first
    | (go_ret; exact ⟨rfl, Bw.out⟩)
    | (go_loopg [15] k (fun kq v15 w' => ∃ (x15_1 : Int), v15 = .int .i64 x15_1 ∧ Aside0 (celluloidref07_RGBA.l0 kq [a0_0, a0_1, a0_2, a0_3] 4 x15_1 = some r) ∧ Aside0 (kq ≤ k) ∧ Aside0 (w'.heap[w.heap.size]? = some (.cells #[.int .i64 a0_0, .int .i64 a0_1, .int .i64 a0_2, .int .i64 a0_3] 23 (0, 0))) ∧ Aside0 (w'.heap[w.heap.size + 1]? = some (.cells #[.int .i64 a0_0, .int .i64 a0_1, .int .i64 a0_2, .int .i64 a0_3] 3 (0, 0))) ∧ Aside0 (Below w.heap.size w w'))
       case atStart => exact ⟨_, rfl, H', ⟨Nat.le_refl _⟩, ⟨by (with_reducible repeat (first | exact (by assumption : Aside0 _).out | (focus (refine znew ?_; simp only [World.size_alloc, World.heap_drewN, heap_drew]; done)) | refine blk_alloc ?_ _ | refine blk_drewN ?_ _ | refine blk_drew ?_ | refine blk_below ?_ Bs.out | apply zput | (refine zfar ?_ ?_; (focus omega)))) <;> rfl⟩, ⟨by (with_reducible repeat (first | exact (by assumption : Aside0 _).out | (focus (refine znew ?_; simp only [World.size_alloc, World.heap_drewN, heap_drew]; done)) | refine blk_alloc ?_ _ | refine blk_drewN ?_ _ | refine blk_drew ?_ | refine blk_below ?_ Bs.out | apply zput | (refine zfar ?_ ?_; (focus omega)))) <;> rfl⟩, ⟨Bw.out⟩⟩
       case round =>
        obtain ⟨x15_1, rfl, HA, HK1, BK0, BK1, HB⟩ := hrel
        have HB := Bw.mk HB.out; clear H'
        cases gk with
        | zero => exact absurd HA.out (by simp [celluloidref07_RGBA.l0])
        | succ k1 =>
          have h := HA.out; clear HA; simp only [celluloidref07_RGBA.l0] at h
          repeat' first
            | (with_reducible replace h := zs h)
            | (with_reducible replace h := zez h (by assumption) (by decide))
            | (with_reducible replace h := zb h; obtain ⟨t, A, h⟩ := h)
            | (with_reducible first | replace h := z1 h | replace h := z0 h | replace h := zep h (by assumption) | replace h := zen h (by assumption) | replace h := zcp h (by assumption) | replace h := zcn h (by assumption) | replace h := zbp h (by assumption) | replace h := zbn h (by assumption))
            | (with_reducible (first | replace h := zx h | replace h := zt h); obtain ⟨rfl, h⟩ | ⟨rfl, h⟩ := h)
            | (with_reducible (first | replace h := zd h | replace h := zl h | replace h := zm h); obtain ⟨c, h⟩ | ⟨c, h⟩ := h)
            | (with_reducible (first | replace h := ze h | replace h := zg h); obtain ⟨c, c', h⟩ | ⟨c, c', h⟩ := h)
            | (with_reducible replace h := zt h; obtain ⟨c, h⟩ | ⟨c, h⟩ := h)
            | (with_reducible replace h := Option.some.inj h; subst h)
            | (with_reducible exact (zn h).elim)
          all_goals
            obtain ⟨hc0, hf0, hz0⟩ := zo BK0.out
            have HN : Lw w wr 2 := ⟨by have := blk_lt BK1.out; omega⟩
            try (refine zatint (w := wr) (W := wr) (za (zlit4 (t := 3) BK1.out)) x15_1 ?_ ?_ ?_; assumption; assumption; rintro ad ⟨⟩; intro p q x; have q : (x15_1 < 4) = True := q; simp only [add_plain] at x)
            try (have H' := za h; clear h)
            go_wp2_with (first
              | ((with_reducible refine zq ?_); first | go_quiet (fail)))
          all_goals first
            | (go_ret; exact ⟨rfl, Bw.out⟩)
            | (go_roundg k1
               case measure => have := HK1.out; omega
               case rel => exact ⟨_, rfl, H', ⟨by have := HK1.out; omega⟩, ⟨by (with_reducible repeat (first | exact (by assumption : Aside0 _).out | (focus (refine znew ?_; simp only [World.size_alloc, World.heap_drewN, heap_drew]; done)) | refine blk_alloc ?_ _ | refine blk_drewN ?_ _ | refine blk_drew ?_ | refine blk_below ?_ Bs.out | apply zput | (refine zfar ?_ ?_; (focus omega)))) <;> rfl⟩, ⟨by (with_reducible repeat (first | exact (by assumption : Aside0 _).out | (focus (refine znew ?_; simp only [World.size_alloc, World.heap_drewN, heap_drew]; done)) | refine blk_alloc ?_ _ | refine blk_drewN ?_ _ | refine blk_drew ?_ | refine blk_below ?_ Bs.out | apply zput | (refine zfar ?_ ?_; (focus omega)))) <;> rfl⟩, ⟨Bw.out⟩⟩))

/-! ### paint_Faint: function 9 -/
def paint_Faint.f (k : Nat) (a0_0 : Int) (a0_1 : Int) (a0_2 : Int) (a0_3 : Int) : Option (Int × Int × Int × Int) := (field_RightRGBA.f k a0_0 a0_1 a0_2 a0_3).bind fun t => (if t = true then (some (wrap64 (Int.tdiv (wrap64 (wrap64 (a0_0 * a0_3) + 127)) 255), wrap64 (Int.tdiv (wrap64 (wrap64 (a0_1 * a0_3) + 127)) 255), wrap64 (Int.tdiv (wrap64 (wrap64 (a0_2 * a0_3) + 127)) 255), a0_3)) else (some (0, 0, 0, 0)))
theorem paint_Faint.mono : ∀ a0 a1 a2 a3 k, LeO (paint_Faint.f k a0 a1 a2 a3) (paint_Faint.f (k + 1) a0 a1 a2 a3) := by
  intro a0 a1 a2 a3 k
  unfold paint_Faint.f
  exact LeO.bind (field_RightRGBA.mono _ _ _ _ _) (fun _ => LeO.refl _)
/-- The literal: a part times the alpha. -/
theorem paint_Faint.lit (n a v : Int) (p : Nat) (w : World) (h : w.cell? ⟨p, 3, none⟩ = some (.int .i64 a)) (hv : v = wrap64 (Int.tdiv (wrap64 (wrap64 (n * a) + 127)) 255)) :
    Calls Try.prog 25 #[.int .i64 n, .pointer (some ⟨p, 0, none⟩)] w fun e w' => e = .returned (.int .i64 v) ∧ w' = w := by
  replace hv := Aside0.mk hv
  have hu := Try.underlying23
  go_enter Try.func25, Try.ntmps25
  go_wp2
  go_ret
  exact ⟨by rw [hv.out]; first | rfl | (simp; done), rfl⟩
set_option maxHeartbeats 8000000 in
set_option maxRecDepth 100000 in
theorem paint_Faint.calls (k : Nat) (a0_0 : Int) (a0_1 : Int) (a0_2 : Int) (a0_3 : Int) (r1 : Int) (r2 : Int) (r3 : Int) (r4 : Int) (w : World) (h : paint_Faint.f k a0_0 a0_1 a0_2 a0_3 = some (r1, r2, r3, r4)) :
    Calls Try.prog 9 #[.agg #[.int .i64 a0_0, .int .i64 a0_1, .int .i64 a0_2, .int .i64 a0_3]] w fun e w' => e = .returned (.agg #[.int .i64 r1, .int .i64 r2, .int .i64 r3, .int .i64 r4]) ∧ Below w.heap.size w w' := by
  have hu := Try.underlying23
  unfold paint_Faint.f at h
  obtain ⟨t, A1, H⟩ := Option.bind_eq_some_iff.mp h
  clear h
  replace A1 := Aside0.mk A1
  cases t with
  | true =>
    rw [if_pos rfl] at H
    simp only [Option.some.injEq, Prod.mk.injEq] at H
    obtain ⟨e1, e2, e3, e4⟩ := H
    subst e4
    replace e1 := Aside0.mk e1.symm
    replace e2 := Aside0.mk e2.symm
    replace e3 := Aside0.mk e3.symm
    go_enter Try.func9, Try.ntmps9
    go_wp2_with (go_at_call 24; (with_reducible refine (field_RightRGBA.calls k a0_0 a0_1 a0_2 a0_3 true _ A1.out).mono ?_); rintro e w1 ⟨rfl, hb⟩; have B1 : Aside0 (w1.heap[w.heap.size]? = some (.cells #[.int .i64 a0_0, .int .i64 a0_1, .int .i64 a0_2, .int .i64 a0_3] 23 (0, 0))) := ⟨blk_below (blk_alloc (blk_new w _) _) hb⟩; have B2 : Aside0 (w1.heap[w.heap.size + 1]? = some (.cells #[.int .i64 0, .int .i64 0, .int .i64 0, .int .i64 0] 23 (0, 0))) := ⟨by have z := blk_below (blk_new (w.alloc (.cells #[.int .i64 a0_0, .int .i64 a0_1, .int .i64 a0_2, .int .i64 a0_3] 23 (0, 0))) _) hb; simpa using z⟩; have HB : Aside0 (Below w.heap.size w w1) := ⟨below_step (below_alloc (below_alloc (Below.refl _ _) _) _) hb⟩; clear hb)
    have c0 : w1.drew.cell? ⟨w.heap.size, 0, none⟩ = some (.int .i64 a0_0) := (blk_cell (blk_drew B1.out) 0).trans rfl
    have c1 : w1.drew.cell? ⟨w.heap.size, 1, none⟩ = some (.int .i64 a0_1) := (blk_cell (blk_drew B1.out) 1).trans rfl
    have c2 : w1.drew.cell? ⟨w.heap.size, 2, none⟩ = some (.int .i64 a0_2) := (blk_cell (blk_drew B1.out) 2).trans rfl
    have c3 : w1.drew.cell? ⟨w.heap.size, 3, none⟩ = some (.int .i64 a0_3) := (blk_cell (blk_drew B1.out) 3).trans rfl
    go_still_tail 15, (by kernel_rfl)
    still_call (paint_Faint.lit a0_0 a0_3 r1 _ w1.drew c3 e1.out)
    repeat still_step
    still_call (paint_Faint.lit a0_1 a0_3 r2 _ w1.drew c3 e2.out)
    repeat still_step
    still_call (paint_Faint.lit a0_2 a0_3 r3 _ w1.drew c3 e3.out)
    repeat still_step
    try refine wpStill_nil ?_
    change wpList _ _ _ _ _ w1.drew
    replace B2 := Aside0.mk (blk_drew B2.out)
    replace HB := Aside0.mk (below_drew1 HB.out)
    clear B1 c0 c1 c2 c3
    generalize w1.drew = w2 at B2 HB ⊢
    have d0 : w2.cell? ⟨w.heap.size + 1, 0, none⟩ = some (.int .i64 0) := (blk_cell B2.out 0).trans rfl
    have d1 : w2.cell? ⟨w.heap.size + 1, 1, none⟩ = some (.int .i64 0) := (blk_cell B2.out 1).trans rfl
    have d2 : w2.cell? ⟨w.heap.size + 1, 2, none⟩ = some (.int .i64 0) := (blk_cell B2.out 2).trans rfl
    have d3 : w2.cell? ⟨w.heap.size + 1, 3, none⟩ = some (.int .i64 0) := (blk_cell B2.out 3).trans rfl
    have z0 := blk_frozen B2.out 0
    have z1 := blk_frozen B2.out 1
    have z2 := blk_frozen B2.out 2
    have z3 := blk_frozen B2.out 3
    go_wp2
    refine bodyPost_ret (results_cell_row rfl _ _ (w.heap.size + 1) 23 #[.int .i64 r1, .int .i64 r2, .int .i64 r3, .int .i64 a0_3] (0, 0) _ rfl (by refine blk_put (cs := #[.int .i64 r1, .int .i64 r2, .int .i64 r3, .int .i64 0]) ?_ 3 _ rfl; refine blk_put (cs := #[.int .i64 r1, .int .i64 r2, .int .i64 0, .int .i64 0]) ?_ 2 _ rfl; refine blk_put (cs := #[.int .i64 r1, .int .i64 0, .int .i64 0, .int .i64 0]) ?_ 1 _ rfl; refine blk_put (cs := #[.int .i64 0, .int .i64 0, .int .i64 0, .int .i64 0]) ?_ 0 _ rfl; exact B2.out) Try.underlying23 rfl (by kernel_rfl)) rfl ?_
    exact ⟨rfl, below_set (below_set (below_set (below_set HB.out (Nat.le_succ _)) (Nat.le_succ _)) (Nat.le_succ _)) (Nat.le_succ _)⟩
  | false =>
    rw [if_neg (by simp)] at H
    simp only [Option.some.injEq, Prod.mk.injEq] at H
    obtain ⟨rfl, rfl, rfl, rfl⟩ := H
    go_enter Try.func9, Try.ntmps9
    go_wp2_with (go_at_call 24; (with_reducible refine (field_RightRGBA.calls k a0_0 a0_1 a0_2 a0_3 false _ A1.out).mono ?_); rintro e w1 ⟨rfl, hb⟩; have B1 : Aside0 (w1.heap[w.heap.size]? = some (.cells #[.int .i64 a0_0, .int .i64 a0_1, .int .i64 a0_2, .int .i64 a0_3] 23 (0, 0))) := ⟨blk_below (blk_alloc (blk_new w _) _) hb⟩; have B2 : Aside0 (w1.heap[w.heap.size + 1]? = some (.cells #[.int .i64 0, .int .i64 0, .int .i64 0, .int .i64 0] 23 (0, 0))) := ⟨by have z := blk_below (blk_new (w.alloc (.cells #[.int .i64 a0_0, .int .i64 a0_1, .int .i64 a0_2, .int .i64 a0_3] 23 (0, 0))) _) hb; simpa using z⟩; have HB : Aside0 (Below w.heap.size w w1) := ⟨below_step (below_alloc (below_alloc (Below.refl _ _) _) _) hb⟩; clear hb; have d0 : w1.cell? ⟨w.heap.size + 1, 0, none⟩ = some (.int .i64 0) := (blk_cell B2.out 0).trans rfl; have d1 : w1.cell? ⟨w.heap.size + 1, 1, none⟩ = some (.int .i64 0) := (blk_cell B2.out 1).trans rfl; have d2 : w1.cell? ⟨w.heap.size + 1, 2, none⟩ = some (.int .i64 0) := (blk_cell B2.out 2).trans rfl; have d3 : w1.cell? ⟨w.heap.size + 1, 3, none⟩ = some (.int .i64 0) := (blk_cell B2.out 3).trans rfl; have z0 := blk_frozen B2.out 0; have z1 := blk_frozen B2.out 1; have z2 := blk_frozen B2.out 2; have z3 := blk_frozen B2.out 3)
    refine bodyPost_ret (results_cell_row rfl _ _ (w.heap.size + 1) 23 #[.int .i64 0, .int .i64 0, .int .i64 0, .int .i64 0] (0, 0) _ rfl (by refine blk_put (cs := #[.int .i64 0, .int .i64 0, .int .i64 0, .int .i64 0]) ?_ 3 _ rfl; refine blk_put (cs := #[.int .i64 0, .int .i64 0, .int .i64 0, .int .i64 0]) ?_ 2 _ rfl; refine blk_put (cs := #[.int .i64 0, .int .i64 0, .int .i64 0, .int .i64 0]) ?_ 1 _ rfl; refine blk_put (cs := #[.int .i64 0, .int .i64 0, .int .i64 0, .int .i64 0]) ?_ 0 _ rfl; exact B2.out) Try.underlying23 rfl (by kernel_rfl)) rfl ?_
    exact ⟨rfl, below_set (below_set (below_set (below_set HB.out (Nat.le_succ _)) (Nat.le_succ _)) (Nat.le_succ _)) (Nat.le_succ _)⟩
theorem paint_Faint.cn {a0_0 a0_1 a0_2 a0_3 r1 r2 r3 r4 : Int} {k : Nat} {w : World} (h : paint_Faint.f k a0_0 a0_1 a0_2 a0_3 = some (r1, r2, r3, r4)) :
    Calls Try.prog 9 #[.agg #[.int .i64 a0_0, .int .i64 a0_1, .int .i64 a0_2, .int .i64 a0_3]] w fun e w' => e = .returned (.agg #[.int .i64 r1, .int .i64 r2, .int .i64 r3, .int .i64 r4]) ∧ Below w.heap.size w w' := by
  apply paint_Faint.calls <;> assumption

/-! ### paint_Clear: function 10 -/
def paint_Clear.f (k : Nat) (a0_0 : Int) (a0_1 : Int) (a0_2 : Int) (a0_3 : Int) : Option (Int × Int × Int × Int) := (field_RightRGBA.f k a0_0 a0_1 a0_2 a0_3).bind fun t => (if t = true then (if a0_3 = 0 then (some (0, 0, 0, 0)) else (some (mn (wrap64 (Int.tdiv (wrap64 (wrap64 (a0_0 * 255) + wrap64 (Int.tdiv a0_3 2))) a0_3)) 255, mn (wrap64 (Int.tdiv (wrap64 (wrap64 (a0_1 * 255) + wrap64 (Int.tdiv a0_3 2))) a0_3)) 255, mn (wrap64 (Int.tdiv (wrap64 (wrap64 (a0_2 * 255) + wrap64 (Int.tdiv a0_3 2))) a0_3)) 255, a0_3))) else (some (0, 0, 0, 0)))
theorem paint_Clear.mono : ∀ a0 a1 a2 a3 k, LeO (paint_Clear.f k a0 a1 a2 a3) (paint_Clear.f (k + 1) a0 a1 a2 a3) := by
  intro a0 a1 a2 a3 k
  unfold paint_Clear.f
  exact LeO.bind (field_RightRGBA.mono _ _ _ _ _) (fun _ => LeO.refl _)
set_option maxRecDepth 100000 in
theorem paint_Clear.lit (n a v : Int) (p : Nat) (w : World) (h : w.cell? ⟨p, 3, none⟩ = some (.int .i64 a)) (h0 : (a == 0) = false) (hv : v = mn (wrap64 (Int.tdiv (wrap64 (wrap64 (n * 255) + wrap64 (Int.tdiv a 2))) a)) 255) :
    Calls Try.prog 26 #[.int .i64 n, .pointer (some ⟨p, 0, none⟩)] w fun e w' => e = .returned (.int .i64 v) ∧ w' = w := by
  replace hv := Aside0.mk hv
  have hu := Try.underlying23
  go_enter Try.func26, Try.ntmps26
  go_wp2
  all_goals first | (go_ret; exact ⟨by rw [hv.out]; refine congrArg (fun z => Ending.returned (Value.int .i64 z)) (?_ : (_ : Int) = _); unfold mn; split <;> omega, rfl⟩) | (exfalso; simp_all; done)
set_option maxHeartbeats 8000000 in
set_option maxRecDepth 100000 in
theorem paint_Clear.calls (k : Nat) (a0_0 : Int) (a0_1 : Int) (a0_2 : Int) (a0_3 : Int) (r1 : Int) (r2 : Int) (r3 : Int) (r4 : Int) (w : World) (h : paint_Clear.f k a0_0 a0_1 a0_2 a0_3 = some (r1, r2, r3, r4)) :
    Calls Try.prog 10 #[.agg #[.int .i64 a0_0, .int .i64 a0_1, .int .i64 a0_2, .int .i64 a0_3]] w fun e w' => e = .returned (.agg #[.int .i64 r1, .int .i64 r2, .int .i64 r3, .int .i64 r4]) ∧ Below w.heap.size w w' := by
  have hu := Try.underlying23
  unfold paint_Clear.f at h
  obtain ⟨t, A1, H⟩ := Option.bind_eq_some_iff.mp h
  clear h
  replace A1 := Aside0.mk A1
  cases t with
  | true =>
    rw [if_pos rfl] at H
    by_cases h0 : a0_3 = 0
    · rw [if_pos h0] at H
      subst h0
      simp only [Option.some.injEq, Prod.mk.injEq] at H
      obtain ⟨rfl, rfl, rfl, rfl⟩ := H
      go_enter Try.func10, Try.ntmps10
      go_wp2_with (go_at_call 24; (with_reducible refine (field_RightRGBA.calls k a0_0 a0_1 a0_2 0 true _ A1.out).mono ?_); rintro e w1 ⟨rfl, hb⟩; have B1 : Aside0 (w1.heap[w.heap.size]? = some (.cells #[.int .i64 a0_0, .int .i64 a0_1, .int .i64 a0_2, .int .i64 0] 23 (0, 0))) := ⟨blk_below (blk_alloc (blk_new w _) _) hb⟩; have B2 : Aside0 (w1.heap[w.heap.size + 1]? = some (.cells #[.int .i64 0, .int .i64 0, .int .i64 0, .int .i64 0] 23 (0, 0))) := ⟨by have z := blk_below (blk_new (w.alloc (.cells #[.int .i64 a0_0, .int .i64 a0_1, .int .i64 a0_2, .int .i64 0] 23 (0, 0))) _) hb; simpa using z⟩; have HB : Aside0 (Below w.heap.size w w1) := ⟨below_step (below_alloc (below_alloc (Below.refl _ _) _) _) hb⟩; clear hb; have c0 : w1.cell? ⟨w.heap.size, 0, none⟩ = some (.int .i64 a0_0) := (blk_cell B1.out 0).trans rfl; have c1 : w1.cell? ⟨w.heap.size, 1, none⟩ = some (.int .i64 a0_1) := (blk_cell B1.out 1).trans rfl; have c2 : w1.cell? ⟨w.heap.size, 2, none⟩ = some (.int .i64 a0_2) := (blk_cell B1.out 2).trans rfl; have c3 : w1.cell? ⟨w.heap.size, 3, none⟩ = some (.int .i64 0) := (blk_cell B1.out 3).trans rfl; have d0 : w1.cell? ⟨w.heap.size + 1, 0, none⟩ = some (.int .i64 0) := (blk_cell B2.out 0).trans rfl; have z0 := blk_frozen B2.out 0; have d1 : w1.cell? ⟨w.heap.size + 1, 1, none⟩ = some (.int .i64 0) := (blk_cell B2.out 1).trans rfl; have z1 := blk_frozen B2.out 1; have d2 : w1.cell? ⟨w.heap.size + 1, 2, none⟩ = some (.int .i64 0) := (blk_cell B2.out 2).trans rfl; have z2 := blk_frozen B2.out 2; have d3 : w1.cell? ⟨w.heap.size + 1, 3, none⟩ = some (.int .i64 0) := (blk_cell B2.out 3).trans rfl; have z3 := blk_frozen B2.out 3)
      refine bodyPost_ret (results_cell_row rfl _ _ (w.heap.size + 1) 23 #[.int .i64 0, .int .i64 0, .int .i64 0, .int .i64 0] (0, 0) _ rfl (by refine blk_put (cs := #[.int .i64 0, .int .i64 0, .int .i64 0, .int .i64 0]) ?_ 3 _ rfl; refine blk_put (cs := #[.int .i64 0, .int .i64 0, .int .i64 0, .int .i64 0]) ?_ 2 _ rfl; refine blk_put (cs := #[.int .i64 0, .int .i64 0, .int .i64 0, .int .i64 0]) ?_ 1 _ rfl; refine blk_put (cs := #[.int .i64 0, .int .i64 0, .int .i64 0, .int .i64 0]) ?_ 0 _ rfl; (with_reducible repeat (first | refine blk_drewN ?_ _ | refine blk_drew ?_ | refine blk_alloc ?_ _)); exact B2.out) Try.underlying23 rfl (by kernel_rfl)) rfl ?_
      exact ⟨rfl, below_set (below_set (below_set (below_set (by first | exact HB.out | exact below_drew1 HB.out) (Nat.le_succ _)) (Nat.le_succ _)) (Nat.le_succ _)) (Nat.le_succ _)⟩
    · rw [if_neg h0] at H
      have h0b : (a0_3 == 0) = false := beq_eq_false_iff_ne.mpr h0
      simp only [Option.some.injEq, Prod.mk.injEq] at H
      obtain ⟨e1, e2, e3, e4⟩ := H
      subst e4
      replace e1 := Aside0.mk e1.symm
      replace e2 := Aside0.mk e2.symm
      replace e3 := Aside0.mk e3.symm
      go_enter Try.func10, Try.ntmps10
      go_wp2_with (go_at_call 24; (with_reducible refine (field_RightRGBA.calls k a0_0 a0_1 a0_2 a0_3 true _ A1.out).mono ?_); rintro e w1 ⟨rfl, hb⟩; have B1 : Aside0 (w1.heap[w.heap.size]? = some (.cells #[.int .i64 a0_0, .int .i64 a0_1, .int .i64 a0_2, .int .i64 a0_3] 23 (0, 0))) := ⟨blk_below (blk_alloc (blk_new w _) _) hb⟩; have B2 : Aside0 (w1.heap[w.heap.size + 1]? = some (.cells #[.int .i64 0, .int .i64 0, .int .i64 0, .int .i64 0] 23 (0, 0))) := ⟨by have z := blk_below (blk_new (w.alloc (.cells #[.int .i64 a0_0, .int .i64 a0_1, .int .i64 a0_2, .int .i64 a0_3] 23 (0, 0))) _) hb; simpa using z⟩; have HB : Aside0 (Below w.heap.size w w1) := ⟨below_step (below_alloc (below_alloc (Below.refl _ _) _) _) hb⟩; clear hb; have c0 : w1.cell? ⟨w.heap.size, 0, none⟩ = some (.int .i64 a0_0) := (blk_cell B1.out 0).trans rfl; have c1 : w1.cell? ⟨w.heap.size, 1, none⟩ = some (.int .i64 a0_1) := (blk_cell B1.out 1).trans rfl; have c2 : w1.cell? ⟨w.heap.size, 2, none⟩ = some (.int .i64 a0_2) := (blk_cell B1.out 2).trans rfl; have c3 : w1.cell? ⟨w.heap.size, 3, none⟩ = some (.int .i64 a0_3) := (blk_cell B1.out 3).trans rfl; have d0 : w1.cell? ⟨w.heap.size + 1, 0, none⟩ = some (.int .i64 0) := (blk_cell B2.out 0).trans rfl; have z0 := blk_frozen B2.out 0; have d1 : w1.cell? ⟨w.heap.size + 1, 1, none⟩ = some (.int .i64 0) := (blk_cell B2.out 1).trans rfl; have z1 := blk_frozen B2.out 1; have d2 : w1.cell? ⟨w.heap.size + 1, 2, none⟩ = some (.int .i64 0) := (blk_cell B2.out 2).trans rfl; have z2 := blk_frozen B2.out 2; have d3 : w1.cell? ⟨w.heap.size + 1, 3, none⟩ = some (.int .i64 0) := (blk_cell B2.out 3).trans rfl; have z3 := blk_frozen B2.out 3)
      clear c0 c1 c2 c3 d0 d1 d2 d3 z0 z1 z2 z3
      have c0 : w1.drew.cell? ⟨w.heap.size, 0, none⟩ = some (.int .i64 a0_0) := (blk_cell (blk_drew B1.out) 0).trans rfl
      have c1 : w1.drew.cell? ⟨w.heap.size, 1, none⟩ = some (.int .i64 a0_1) := (blk_cell (blk_drew B1.out) 1).trans rfl
      have c2 : w1.drew.cell? ⟨w.heap.size, 2, none⟩ = some (.int .i64 a0_2) := (blk_cell (blk_drew B1.out) 2).trans rfl
      have c3 : w1.drew.cell? ⟨w.heap.size, 3, none⟩ = some (.int .i64 a0_3) := (blk_cell (blk_drew B1.out) 3).trans rfl
      go_still_tail 15, (by kernel_rfl)
      still_call (paint_Clear.lit a0_0 a0_3 r1 _ w1.drew c3 h0b e1.out)
      repeat still_step
      still_call (paint_Clear.lit a0_1 a0_3 r2 _ w1.drew c3 h0b e2.out)
      repeat still_step
      still_call (paint_Clear.lit a0_2 a0_3 r3 _ w1.drew c3 h0b e3.out)
      repeat still_step
      try refine wpStill_nil ?_
      change wpList _ _ _ _ _ w1.drew
      replace B2 := Aside0.mk (blk_drew B2.out)
      replace HB := Aside0.mk (below_drew1 HB.out)
      clear B1 c0 c1 c2 c3
      generalize w1.drew = w2 at B2 HB ⊢
      have d0 : w2.cell? ⟨w.heap.size + 1, 0, none⟩ = some (.int .i64 0) := (blk_cell B2.out 0).trans rfl
      have d1 : w2.cell? ⟨w.heap.size + 1, 1, none⟩ = some (.int .i64 0) := (blk_cell B2.out 1).trans rfl
      have d2 : w2.cell? ⟨w.heap.size + 1, 2, none⟩ = some (.int .i64 0) := (blk_cell B2.out 2).trans rfl
      have d3 : w2.cell? ⟨w.heap.size + 1, 3, none⟩ = some (.int .i64 0) := (blk_cell B2.out 3).trans rfl
      have z0 := blk_frozen B2.out 0
      have z1 := blk_frozen B2.out 1
      have z2 := blk_frozen B2.out 2
      have z3 := blk_frozen B2.out 3
      go_wp2
      refine bodyPost_ret (results_cell_row rfl _ _ (w.heap.size + 1) 23 #[.int .i64 r1, .int .i64 r2, .int .i64 r3, .int .i64 a0_3] (0, 0) _ rfl (by refine blk_put (cs := #[.int .i64 r1, .int .i64 r2, .int .i64 r3, .int .i64 0]) ?_ 3 _ rfl; refine blk_put (cs := #[.int .i64 r1, .int .i64 r2, .int .i64 0, .int .i64 0]) ?_ 2 _ rfl; refine blk_put (cs := #[.int .i64 r1, .int .i64 0, .int .i64 0, .int .i64 0]) ?_ 1 _ rfl; refine blk_put (cs := #[.int .i64 0, .int .i64 0, .int .i64 0, .int .i64 0]) ?_ 0 _ rfl; (with_reducible repeat (first | refine blk_drewN ?_ _ | refine blk_drew ?_ | refine blk_alloc ?_ _)); exact B2.out) Try.underlying23 rfl (by kernel_rfl)) rfl ?_
      exact ⟨rfl, below_set (below_set (below_set (below_set (by first | exact HB.out | exact below_drew1 HB.out) (Nat.le_succ _)) (Nat.le_succ _)) (Nat.le_succ _)) (Nat.le_succ _)⟩
  | false =>
    rw [if_neg (by simp)] at H
    simp only [Option.some.injEq, Prod.mk.injEq] at H
    obtain ⟨rfl, rfl, rfl, rfl⟩ := H
    go_enter Try.func10, Try.ntmps10
    go_wp2_with (go_at_call 24; (with_reducible refine (field_RightRGBA.calls k a0_0 a0_1 a0_2 a0_3 false _ A1.out).mono ?_); rintro e w1 ⟨rfl, hb⟩; have B1 : Aside0 (w1.heap[w.heap.size]? = some (.cells #[.int .i64 a0_0, .int .i64 a0_1, .int .i64 a0_2, .int .i64 a0_3] 23 (0, 0))) := ⟨blk_below (blk_alloc (blk_new w _) _) hb⟩; have B2 : Aside0 (w1.heap[w.heap.size + 1]? = some (.cells #[.int .i64 0, .int .i64 0, .int .i64 0, .int .i64 0] 23 (0, 0))) := ⟨by have z := blk_below (blk_new (w.alloc (.cells #[.int .i64 a0_0, .int .i64 a0_1, .int .i64 a0_2, .int .i64 a0_3] 23 (0, 0))) _) hb; simpa using z⟩; have HB : Aside0 (Below w.heap.size w w1) := ⟨below_step (below_alloc (below_alloc (Below.refl _ _) _) _) hb⟩; clear hb; have c0 : w1.cell? ⟨w.heap.size, 0, none⟩ = some (.int .i64 a0_0) := (blk_cell B1.out 0).trans rfl; have c1 : w1.cell? ⟨w.heap.size, 1, none⟩ = some (.int .i64 a0_1) := (blk_cell B1.out 1).trans rfl; have c2 : w1.cell? ⟨w.heap.size, 2, none⟩ = some (.int .i64 a0_2) := (blk_cell B1.out 2).trans rfl; have c3 : w1.cell? ⟨w.heap.size, 3, none⟩ = some (.int .i64 a0_3) := (blk_cell B1.out 3).trans rfl; have d0 : w1.cell? ⟨w.heap.size + 1, 0, none⟩ = some (.int .i64 0) := (blk_cell B2.out 0).trans rfl; have z0 := blk_frozen B2.out 0; have d1 : w1.cell? ⟨w.heap.size + 1, 1, none⟩ = some (.int .i64 0) := (blk_cell B2.out 1).trans rfl; have z1 := blk_frozen B2.out 1; have d2 : w1.cell? ⟨w.heap.size + 1, 2, none⟩ = some (.int .i64 0) := (blk_cell B2.out 2).trans rfl; have z2 := blk_frozen B2.out 2; have d3 : w1.cell? ⟨w.heap.size + 1, 3, none⟩ = some (.int .i64 0) := (blk_cell B2.out 3).trans rfl; have z3 := blk_frozen B2.out 3)
    refine bodyPost_ret (results_cell_row rfl _ _ (w.heap.size + 1) 23 #[.int .i64 0, .int .i64 0, .int .i64 0, .int .i64 0] (0, 0) _ rfl (by refine blk_put (cs := #[.int .i64 0, .int .i64 0, .int .i64 0, .int .i64 0]) ?_ 3 _ rfl; refine blk_put (cs := #[.int .i64 0, .int .i64 0, .int .i64 0, .int .i64 0]) ?_ 2 _ rfl; refine blk_put (cs := #[.int .i64 0, .int .i64 0, .int .i64 0, .int .i64 0]) ?_ 1 _ rfl; refine blk_put (cs := #[.int .i64 0, .int .i64 0, .int .i64 0, .int .i64 0]) ?_ 0 _ rfl; (with_reducible repeat (first | refine blk_drewN ?_ _ | refine blk_drew ?_ | refine blk_alloc ?_ _)); exact B2.out) Try.underlying23 rfl (by kernel_rfl)) rfl ?_
    exact ⟨rfl, below_set (below_set (below_set (below_set (by first | exact HB.out | exact below_drew1 HB.out) (Nat.le_succ _)) (Nat.le_succ _)) (Nat.le_succ _)) (Nat.le_succ _)⟩
theorem paint_Clear.cn {a0_0 a0_1 a0_2 a0_3 r1 r2 r3 r4 : Int} {k : Nat} {w : World} (h : paint_Clear.f k a0_0 a0_1 a0_2 a0_3 = some (r1, r2, r3, r4)) :
    Calls Try.prog 10 #[.agg #[.int .i64 a0_0, .int .i64 a0_1, .int .i64 a0_2, .int .i64 a0_3]] w fun e w' => e = .returned (.agg #[.int .i64 r1, .int .i64 r2, .int .i64 r3, .int .i64 r4]) ∧ Below w.heap.size w w' := by
  apply paint_Clear.calls <;> assumption

/-! ### celluloidlaw20_awake: function 12 -/
def celluloidlaw20_awake.f (k : Nat)  : Option (Bool) := (paint_Faint.f k 255 100 0 128).bind fun bt112 => (if (bt112.1 == 128 && (bt112.2.1 == 50 && (bt112.2.2.1 == 0 && (bt112.2.2.2 == 128)))) = true then ((paint_Clear.f k 64 0 0 128).bind fun bt116 => (some (bt116.1 == 128 && (bt116.2.1 == 0 && (bt116.2.2.1 == 0 && (bt116.2.2.2 == 128)))))) else (some false))
theorem celluloidlaw20_awake.mono : ∀ k, LeO (celluloidlaw20_awake.f k ) (celluloidlaw20_awake.f (k + 1) ) := by
  intro  k
  unfold celluloidlaw20_awake.f
  repeat' first
      | with_reducible exact paint_Clear.mono _ _ _ _ _
      | with_reducible exact paint_Faint.mono _ _ _ _ _
      | with_reducible exact LeO.refl _
      | with_reducible exact LeO.none _
      | with_reducible refine LeO.ite ?_ ?_
      | with_reducible refine LeO.bind ?_ (fun _ => ?_)
set_option maxHeartbeats 8000000 in
set_option maxRecDepth 100000 in
theorem celluloidlaw20_awake.cn {k : Nat} {r : Bool} {w : World} (h : celluloidlaw20_awake.f k  = some r) :
    Calls Try.prog 12 #[] w fun e w' => e = .returned (.bool r) ∧ Below w.heap.size w w' := by
  have hu23 := Try.underlying23
  unfold celluloidlaw20_awake.f at h
  repeat' first
    | (with_reducible replace h := zs h)
    | (with_reducible replace h := zez h (by assumption) (by decide))
    | (with_reducible replace h := zb h; obtain ⟨t, A, h⟩ := h)
    | (with_reducible first | replace h := z1 h | replace h := z0 h | replace h := zep h (by assumption) | replace h := zen h (by assumption) | replace h := zcp h (by assumption) | replace h := zcn h (by assumption) | replace h := zbp h (by assumption) | replace h := zbn h (by assumption))
    | (with_reducible (first | replace h := zx h | replace h := zt h); obtain ⟨rfl, h⟩ | ⟨rfl, h⟩ := h)
    | (with_reducible (first | replace h := zd h | replace h := zl h | replace h := zm h); obtain ⟨c, h⟩ | ⟨c, h⟩ := h)
    | (with_reducible (first | replace h := ze h | replace h := zg h); obtain ⟨c, c', h⟩ | ⟨c, c', h⟩ := h)
    | (with_reducible replace h := zt h; obtain ⟨c, h⟩ | ⟨c, h⟩ := h)
    | (with_reducible replace h := Option.some.inj h; subst h)
    | (with_reducible exact (zn h).elim)
  all_goals
    try (have H' := za h; clear h)
    go_enter Try.func12, Try.ntmps12
    go_wp2_with (first
      | ((with_reducible refine zq ?_); first | go_quiet (fail))
      | (go_at_call 10; refine (paint_Clear.cn (by assumption : Aside0 _).out).mono ?_; rintro e w' ⟨rfl, hb⟩; (with_reducible first | replace hb := zkd hb | replace hb := zkn hb | replace hb := zk hb); obtain ⟨hb, hc, hf⟩ := hb; have hy := zy w w'; simp only [zL, Nat.add_zero] at hy)
      | (go_at_call 9; refine (paint_Faint.cn (by assumption : Aside0 _).out).mono ?_; rintro e w' ⟨rfl, hb⟩; (with_reducible first | replace hb := zkd hb | replace hb := zkn hb | replace hb := zk hb); obtain ⟨hb, hc, hf⟩ := hb; have hy := zy w w'; simp only [zL, Nat.add_zero] at hy))
  all_goals first
    | (go_ret; exact ⟨rfl, Bw.out⟩)

/-! ### celluloidref20_Faint: function 13 -/
def celluloidref20_Faint.f (a0_0 : Int) (a0_1 : Int) (a0_2 : Int) (a0_3 : Int) : Option (Int × Int × Int × Int) := some (wrap64 (Int.tdiv (wrap64 ((wrap64 (a0_0 * a0_3)) + 127)) 255), wrap64 (Int.tdiv (wrap64 ((wrap64 (a0_1 * a0_3)) + 127)) 255), wrap64 (Int.tdiv (wrap64 ((wrap64 (a0_2 * a0_3)) + 127)) 255), a0_3)

set_option maxHeartbeats 8000000 in
set_option maxRecDepth 100000 in
theorem celluloidref20_Faint.cn {a0_0 a0_1 a0_2 a0_3 r1 r2 r3 r4 : Int} {w : World} (h : celluloidref20_Faint.f a0_0 a0_1 a0_2 a0_3 = some (r1, r2, r3, r4)) :
    Calls Try.prog 13 #[.agg #[.int .i64 a0_0, .int .i64 a0_1, .int .i64 a0_2, .int .i64 a0_3]] w fun e w' => e = .returned (.agg #[.int .i64 r1, .int .i64 r2, .int .i64 r3, .int .i64 r4]) ∧ Below w.heap.size w w' := by
  have hu23 := Try.underlying23
  unfold celluloidref20_Faint.f at h
  repeat' first
    | (with_reducible replace h := zs h)
    | (with_reducible replace h := zez h (by assumption) (by decide))
    | (with_reducible replace h := zb h; obtain ⟨t, A, h⟩ := h)
    | (with_reducible first | replace h := z1 h | replace h := z0 h | replace h := zep h (by assumption) | replace h := zen h (by assumption) | replace h := zcp h (by assumption) | replace h := zcn h (by assumption) | replace h := zbp h (by assumption) | replace h := zbn h (by assumption))
    | (with_reducible (first | replace h := zx h | replace h := zt h); obtain ⟨rfl, h⟩ | ⟨rfl, h⟩ := h)
    | (with_reducible (first | replace h := zd h | replace h := zl h | replace h := zm h); obtain ⟨c, h⟩ | ⟨c, h⟩ := h)
    | (with_reducible replace h := zeq h; obtain ⟨c, c', h⟩ | ⟨c, c', cn, h⟩ := h)
    | (with_reducible (first | replace h := ze h | replace h := zg h); obtain ⟨c, c', h⟩ | ⟨c, c', h⟩ := h)
    | (with_reducible replace h := zt h; obtain ⟨c, h⟩ | ⟨c, h⟩ := h)
    | (with_reducible replace h := Option.some.inj h; subst h)
    | (with_reducible exact (zn h).elim)
    | (simp only [Option.some.injEq, Prod.mk.injEq] at h; obtain ⟨rfl, rfl, rfl, rfl⟩ := h)
  all_goals
    try (have H' := za h; clear h)
    go_enter Try.func13, Try.ntmps13
    go_wp2_with (first
      | ((with_reducible refine zq ?_); first | go_quiet (fail)))
  all_goals first
    | (first | (go_ret; exact ⟨rfl, Bw.out⟩) | (go_ret3; exact ⟨rfl, Bw.out⟩) | (refine bodyPost_ret (v := ?_) ?_ rfl ?_; rotate_left 2; (refine ⟨?_, Bw.out⟩; rfl); exact results_cell_row rfl _ _ _ 23 _ (0, 0) _ rfl (by (with_reducible repeat (first | exact (by assumption : Aside0 _).out | (focus (refine znew ?_; simp only [World.size_alloc, World.heap_drewN, heap_drew]; done)) | refine blk_alloc ?_ _ | refine blk_drewN ?_ _ | refine blk_drew ?_ | refine blk_below ?_ Bs.out | apply zput | (refine zfar ?_ ?_; (focus omega)))) <;> rfl) Try.underlying23 rfl (by kernel_rfl)))

/-! ### celluloidref20_clear: function 27 -/
def celluloidref20_clear.f (a0 : Int) (a1 : Int) : Option (Int) := if a1 = 0 then (none) else (if (wrap64 (Int.tdiv (wrap64 ((wrap64 (255 * a0)) + (wrap64 (Int.tdiv a1 2)))) a1)) > 255 then (some 255) else (some (wrap64 (Int.tdiv (wrap64 ((wrap64 (255 * a0)) + (wrap64 (Int.tdiv a1 2)))) a1))))

set_option maxHeartbeats 8000000 in
set_option maxRecDepth 100000 in
theorem celluloidref20_clear.cn {a0 a1 r : Int} {w : World} (h : celluloidref20_clear.f a0 a1 = some r) :
    Calls Try.prog 27 #[.int .i64 a0, .int .i64 a1] w fun e w' => e = .returned (.int .i64 r) ∧ Drawn0 w w' := by
  have HB := Drawn0.refl w
  unfold celluloidref20_clear.f at h
  repeat' first
    | (with_reducible replace h := zs h)
    | (with_reducible replace h := zez h (by assumption) (by decide))
    | (with_reducible replace h := zb h; obtain ⟨t, A, h⟩ := h)
    | (with_reducible first | replace h := z1 h | replace h := z0 h | replace h := zep h (by assumption) | replace h := zen h (by assumption) | replace h := zcp h (by assumption) | replace h := zcn h (by assumption) | replace h := zbp h (by assumption) | replace h := zbn h (by assumption))
    | (with_reducible (first | replace h := zx h | replace h := zt h); obtain ⟨rfl, h⟩ | ⟨rfl, h⟩ := h)
    | (with_reducible (first | replace h := zd h | replace h := zl h | replace h := zm h); obtain ⟨c, h⟩ | ⟨c, h⟩ := h)
    | (with_reducible replace h := zeq h; obtain ⟨c, c', h⟩ | ⟨c, c', cn, h⟩ := h)
    | (with_reducible (first | replace h := ze h | replace h := zg h); obtain ⟨c, c', h⟩ | ⟨c, c', h⟩ := h)
    | (with_reducible replace h := zt h; obtain ⟨c, h⟩ | ⟨c, h⟩ := h)
    | (with_reducible replace h := Option.some.inj h; subst h)
    | (with_reducible exact (zn h).elim)
  all_goals
    try (have H' := za h; clear h)
    go_enter Try.func27, Try.ntmps27
    go_wp2_with (first
      | ((with_reducible refine zq ?_); first | go_quiet (fail)))
  all_goals first
    | (first | (go_ret; exact ⟨rfl, by repeat (first | exact HB | exact Drawn0.refl _ | apply Drawn0.step)⟩))

/-! ### celluloidref20_Clear: function 14 -/
def celluloidref20_Clear.f (a0_0 : Int) (a0_1 : Int) (a0_2 : Int) (a0_3 : Int) : Option (Int × Int × Int × Int) := if a0_3 = 0 then (some (0, 0, 0, 0)) else ((celluloidref20_clear.f a0_0 a0_3).bind fun t124 => ((celluloidref20_clear.f a0_1 a0_3).bind fun t125 => ((celluloidref20_clear.f a0_2 a0_3).bind fun t126 => (some (t124, t125, t126, a0_3)))))
def celluloidref20_Clear.O3 : List Nat := [0, 2, 5, 7, 10, 12, 15, 1, 3, 6, 8, 11, 13, 16, 4, 9, 14, 17, 18]
def celluloidref20_Clear.T3 : Bool × List (List Nat × List Nat) := (true, [([], []), ([0], [0]), ([], []), ([2], [2]), ([1, 3], [1, 3]), ([], []), ([5], [5]), ([], []), ([7], [7]), ([6, 8, 4], [6, 8]), ([], []), ([10], [10]), ([], []), ([12], [12]), ([11, 13, 9], [11, 13]), ([], []), ([15], [15]), ([4, 9, 14, 16], [4, 9, 14, 16]), ([17, 14, 0, 1, 2, 3, 4, 5, 6, 7, 8, 9, 10, 11, 12, 13, 14, 15, 16, 17], [17])])
theorem celluloidref20_Clear.tab3 : rtab .any (opsOf Try.f14 3) = celluloidref20_Clear.T3 := by kernel_rfl

set_option maxHeartbeats 8000000 in
set_option maxRecDepth 100000 in
theorem celluloidref20_Clear.cn {a0_0 a0_1 a0_2 a0_3 r1 r2 r3 r4 : Int} {w : World} (h : celluloidref20_Clear.f a0_0 a0_1 a0_2 a0_3 = some (r1, r2, r3, r4)) :
    Calls Try.prog 14 #[.agg #[.int .i64 a0_0, .int .i64 a0_1, .int .i64 a0_2, .int .i64 a0_3]] w fun e w' => e = .returned (.agg #[.int .i64 r1, .int .i64 r2, .int .i64 r3, .int .i64 r4]) ∧ Below w.heap.size w w' := by
  have hu23 := Try.underlying23
  unfold celluloidref20_Clear.f at h
  repeat' first
    | (with_reducible replace h := zs h)
    | (with_reducible replace h := zez h (by assumption) (by decide))
    | (with_reducible replace h := zb h; obtain ⟨t, A, h⟩ := h)
    | (with_reducible first | replace h := z1 h | replace h := z0 h | replace h := zep h (by assumption) | replace h := zen h (by assumption) | replace h := zcp h (by assumption) | replace h := zcn h (by assumption) | replace h := zbp h (by assumption) | replace h := zbn h (by assumption))
    | (with_reducible (first | replace h := zx h | replace h := zt h); obtain ⟨rfl, h⟩ | ⟨rfl, h⟩ := h)
    | (with_reducible (first | replace h := zd h | replace h := zl h | replace h := zm h); obtain ⟨c, h⟩ | ⟨c, h⟩ := h)
    | (with_reducible (first | replace h := ze h | replace h := zg h); obtain ⟨c, c', h⟩ | ⟨c, c', h⟩ := h)
    | (with_reducible replace h := zt h; obtain ⟨c, h⟩ | ⟨c, h⟩ := h)
    | (with_reducible replace h := Option.some.inj h; subst h)
    | (with_reducible exact (zn h).elim)
    | (simp only [Option.some.injEq, Prod.mk.injEq] at h; obtain ⟨rfl, rfl, rfl, rfl⟩ := h)
  all_goals
    try (have H' := za h; clear h)
    go_enter Try.func14, Try.ntmps14
    go_wp2_with (first
      | ((with_reducible refine zq ?_); first | go_quiet ((first | (go_at_call 27; refine Calls.quiet_of ((celluloidref20_clear.cn (by assumption : Aside0 _).out).mono fun _ _ h => ⟨h.1, h.2.out⟩)))))
      | (go_at_call 27; refine (celluloidref20_clear.cn (by assumption : Aside0 _).out).mono ?_; rintro e w' ⟨rfl, ⟨n, rfl⟩⟩)
      | ((with_reducible refine zq ?_); refine rS 19 celluloidref20_Clear.O3 [18] (by kernel_rfl) (by rfl) celluloidref20_Clear.tab3 (fun HT => ?_); (repeat (first | (refine rP HT.out rfl rfl (v := undef) (a' := ?_) (by kernel_rfl) (fun _ _ _ h => h) (Or.inr ⟨by rfl, rfl⟩) ?_ ?_; rotate_left; (show Act.put _ (some _) _ = _; simp only [Act.put, q1, q2, q3, i64_w, i32_w]; rfl)) | (refine rP HT.out rfl rfl (v := ?_) (a' := ?_) (by kernel_rfl) (fun _ _ _ h => h) (Or.inl ⟨by rfl, ?_⟩) ?_ ?_; rotate_left 2; (intro w'; go_simp; with_reducible rfl); (show Act.put _ (some _) _ = _; simp only [Act.put, q1, q2, q3, i64_w, i32_w]; rfl)) | (refine rT HT.out rfl rfl (v := ?_) (a' := ?_) (by kernel_rfl) (fun _ _ _ h => h) (Or.inl ⟨by rfl, ?_⟩) (by infer_instance) ?_ ?_; rotate_left 2; (intro w' hS; obtain ⟨hc, hf⟩ := rH hS; go_simp; with_reducible rfl); (show Act.put _ (some _) _ = _; simp only [Act.put, q1, q2, q3, i64_w, i32_w]; rfl)) | (refine rO HT.out rfl (by rfl) (by decide) (by rfl) (fun K hK => ?_); go_wp2_with (first | (go_at_call 27; refine (celluloidref20_clear.cn (by assumption : Aside0 _).out).mono ?_; rintro e w' ⟨rfl, ⟨n, rfl⟩⟩)); refine Shut.out hK _ _ (by infer_instance) ?_) | (refine rL HT.out rfl (by rfl) (by decide) (by rfl) (fun K hK => ?_); go_wp2_with (first | (go_at_call 27; refine (celluloidref20_clear.cn (by assumption : Aside0 _).out).mono ?_; rintro e w' ⟨rfl, ⟨n, rfl⟩⟩)); refine Shut.out hK _ _ ?_))); refine rD HT.out (by kernel_rfl) ?_))
  all_goals first
    | (first | (go_ret; exact ⟨rfl, Bw.out⟩) | (go_ret3; exact ⟨rfl, Bw.out⟩) | (refine bodyPost_ret (v := ?_) ?_ rfl ?_; rotate_left 2; (refine ⟨?_, Bw.out⟩; rfl); exact results_cell_row rfl _ _ _ 23 _ (0, 0) _ rfl (by (with_reducible repeat (first | exact (by assumption : Aside0 _).out | (focus (refine znew ?_; simp only [World.size_alloc, World.heap_drewN, heap_drew]; done)) | refine blk_alloc ?_ _ | refine blk_drewN ?_ _ | refine blk_drew ?_ | refine blk_below ?_ Bs.out | apply zput | (refine zfar ?_ ?_; (focus omega)))) <;> rfl) Try.underlying23 rfl (by kernel_rfl)))

end Go.Proofs.Ytmdfcinjmlagcaa.P
