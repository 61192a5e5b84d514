/- Walks by cw.py (wip/tool): plain functions that tell what the program answers, and the proofs that the program comes to these answers, for all arguments of their kinds. -/
import Derived.Test.YtlldbmodidhidaaCw
import Derived.Test.YtlldbmodidhidaaPx3
import Derived.Test.YtlldbmodidhidaaPx4
import Derived.Test.YtlldbmodidhidaaPx7
namespace Go.Proofs.Ytlldbmodidhidaa.P
open Go.RowKit Go.Proofs.YtlldbmodidhidaaW.PrintWords Go.Proofs.YtlldbmodidhidaaW.PrintLast Go.Proofs.YtlldbmodidhidaaW.PrintMore
attribute [local go_sem] max2_int min2_int max_two min_two max_three min_three max_four min_four max_five min_five max_six min_six
set_option linter.unusedVariables false
set_option linter.unusedSimpArgs false
attribute [local go_sem high] eqA60 eqA62 eqA86

/-! ### field_within: function 40 -/
def field_within.l0 : Nat → Int → Int → List Int → Int → Int → Option (Bool)
  | 0, _, _, _, _, _ => none
  | k + 1, x0, x1, x9, x10, x11 => if x11 < x10 then (if 0 ≤ x11 then (if x11 < (x9.length : Int) then (if (rd x9 x11) < x0 then (some false) else (if (rd x9 x11) > x1 then (some false) else (field_within.l0 k x0 x1 x9 x10 (wrap64 (x11 + 1))))) else (none)) else (none)) else (some true)
def field_within.f (k : Nat) (a0 : Int) (a1 : Int) (l2 : List Int) : Option (Bool) := field_within.l0 k a0 a1 l2 (l2.length : Int) 0
theorem field_within.mono_l : ∀ k, (∀ y0 y1 y2 y3 y4, LeO (field_within.l0 k y0 y1 y2 y3 y4) (field_within.l0 (k + 1) y0 y1 y2 y3 y4))
  | 0 => fun _ _ _ _ _ r h => by simp [field_within.l0] at h
  | k + 1 => by
    have ih0 := field_within.mono_l k
    · intro y0 y1 y2 y3 y4
      unfold field_within.l0
      repeat' first
      | with_reducible exact ih0 _ _ _ _ _
      | with_reducible exact LeO.refl _
      | with_reducible exact LeO.none _
      | with_reducible refine LeO.ite ?_ ?_
      | with_reducible refine LeO.bind ?_ (fun _ => ?_)
theorem field_within.mono : ∀ a0 a1 a2 k, LeO (field_within.f k a0 a1 a2) (field_within.f (k + 1) a0 a1 a2) := by
  intro a0 a1 a2 k
  have ih0 := field_within.mono_l k
  unfold field_within.f
  repeat' first
      | with_reducible exact ih0 _ _ _ _ _
      | with_reducible exact LeO.refl _
      | with_reducible exact LeO.none _
      | with_reducible refine LeO.ite ?_ ?_
      | with_reducible refine LeO.bind ?_ (fun _ => ?_)
set_option maxHeartbeats 8000000 in
set_option maxRecDepth 100000 in
theorem field_within.cn {a0 a1 : Int} {k : Nat} {A2 : Option Addr} {n2 c2 : Nat} {l2 : List Int} {r : Bool} {w : World} (h : field_within.f k a0 a1 l2 = some r) (hr2 : Kd.C (Kd.int .i64) w A2 n2 l2) (hc2 : n2 ≤ c2) :
    Calls Try.prog 40 #[.int .i64 a0, .int .i64 a1, .slice A2 n2 c2] w fun e w' => e = .returned (.bool r) ∧ Drawn0 w w' := by
  obtain rfl := hr2.1
  have HC2 := za hr2; have HL2 := za hc2; clear hr2 hc2
  have HB := Drawn0.refl w
  unfold field_within.f at h
  repeat' first
    | (with_reducible replace h := zs h)
    | (with_reducible replace h := zez h (by assumption) (by decide))
    | (with_reducible replace h := zb h; obtain ⟨t, A, h⟩ := h)
    | (with_reducible first | replace h := z1 h | replace h := z0 h | replace h := zep h (by assumption) | replace h := zen h (by assumption) | replace h := zcp h (by assumption) | replace h := zcn h (by assumption) | replace h := zbp h (by assumption) | replace h := zbn h (by assumption))
    | (with_reducible (first | replace h := zx h | replace h := zt h); obtain ⟨rfl, h⟩ | ⟨rfl, h⟩ := h)
    | (with_reducible (first | replace h := zd h | replace h := zl h | replace h := zm h); obtain ⟨c, h⟩ | ⟨c, h⟩ := h)
    | (with_reducible (first | replace h := ze h | replace h := zg h); obtain ⟨c, c', h⟩ | ⟨c, c', h⟩ := h)
    | (with_reducible replace h := zt h; obtain ⟨c, h⟩ | ⟨c, h⟩ := h)
    | (with_reducible replace h := Option.some.inj h; subst h)
    | (with_reducible exact (zn h).elim)
  all_goals
    try (have H' := za h; clear h)
    go_enter Try.func40, Try.ntmps40
    go_wp2_with (first
      | ((with_reducible refine zq ?_); first | go_quiet (fail)))
  all_goals first
    | (go_ret; exact ⟨rfl, by repeat (first | exact HB | exact Drawn0.refl _ | apply Drawn0.step)⟩)
    | (go_loopg [11] k (fun kq v11 w' => ∃ (x11_1 : Int), v11 = .int .i64 x11_1 ∧ Aside0 (field_within.l0 kq a0 a1 l2 (l2.length : Int) x11_1 = some r) ∧ Aside0 (kq ≤ k) ∧ Drawn0 w w')
       case atStart => exact ⟨_, rfl, H', ⟨Nat.le_refl _⟩, by repeat (first | exact HB | exact Drawn0.refl _ | apply Drawn0.step)⟩
       case round =>
        obtain ⟨x11_1, rfl, HA, HK1, HB⟩ := hrel
        have HW := Bw.mk HB.below; clear H'
        cases gk with
        | zero => exact absurd HA.out (by simp [field_within.l0])
        | succ k1 =>
          have h := HA.out; clear HA; simp only [field_within.l0] at h
          repeat' first
            | (with_reducible replace h := zs h)
            | (with_reducible replace h := zez h (by assumption) (by decide))
            | (with_reducible replace h := zb h; obtain ⟨t, A, h⟩ := h)
            | (with_reducible first | replace h := z1 h | replace h := z0 h | replace h := zep h (by assumption) | replace h := zen h (by assumption) | replace h := zcp h (by assumption) | replace h := zcn h (by assumption) | replace h := zbp h (by assumption) | replace h := zbn h (by assumption))
            | (with_reducible (first | replace h := zx h | replace h := zt h); obtain ⟨rfl, h⟩ | ⟨rfl, h⟩ := h)
            | (with_reducible (first | replace h := zd h | replace h := zl h | replace h := zm h); obtain ⟨c, h⟩ | ⟨c, h⟩ := h)
            | (with_reducible (first | replace h := ze h | replace h := zg h); obtain ⟨c, c', h⟩ | ⟨c, c', h⟩ := h)
            | (with_reducible replace h := zt h; obtain ⟨c, h⟩ | ⟨c, h⟩ := h)
            | (with_reducible replace h := Option.some.inj h; subst h)
            | (with_reducible exact (zn h).elim)
          all_goals
            have HN : Lw w wr 0 := ⟨HW.out.size⟩
            try (refine zatint (W := wr) HC2 x11_1 ?_ ?_ ?_; assumption; assumption; rintro ad ⟨⟩; intros)
            try (have H' := za h; clear h)
            go_wp2_with (first
              | ((with_reducible refine zq ?_); first | go_quiet (fail)))
          all_goals first
            | (go_ret; exact ⟨rfl, by repeat (first | exact HB | exact Drawn0.refl _ | apply Drawn0.step)⟩)
            | (go_roundg k1
               case measure => have := HK1.out; omega
               case rel => exact ⟨_, rfl, H', ⟨by have := HK1.out; omega⟩, by repeat (first | exact HB | exact Drawn0.refl _ | apply Drawn0.step)⟩))

/-! ### field_RightRect: function 30 -/
def field_RightRect.f (k : Nat) (a0_0 : Int) (a0_1 : Int) (a0_2 : Int) (a0_3 : Int) : Option (Bool) := (field_within.f k (-1048576) 1048576 (([a0_0, a0_1, a0_2, a0_3] : List Int))).bind fun t113 => (if t113 = true then (if a0_0 ≤ a0_1 then (some (decide (a0_2 ≤ a0_3))) else (some false)) else (some false))
theorem field_RightRect.mono : ∀ a0 a1 a2 a3 k, LeO (field_RightRect.f k a0 a1 a2 a3) (field_RightRect.f (k + 1) a0 a1 a2 a3) := by
  intro a0 a1 a2 a3 k
  unfold field_RightRect.f
  repeat' first
      | with_reducible exact field_within.mono _ _ _ _
      | with_reducible exact LeO.refl _
      | with_reducible exact LeO.none _
      | with_reducible refine LeO.ite ?_ ?_
      | with_reducible refine LeO.bind ?_ (fun _ => ?_)
set_option maxHeartbeats 8000000 in
set_option maxRecDepth 100000 in
theorem field_RightRect.cn {a0_0 a0_1 a0_2 a0_3 : Int} {k : Nat} {r : Bool} {w : World} (h : field_RightRect.f k a0_0 a0_1 a0_2 a0_3 = some r) :
    Calls Try.prog 30 #[.agg #[.int .i64 a0_0, .int .i64 a0_1, .int .i64 a0_2, .int .i64 a0_3]] w fun e w' => e = .returned (.bool r) ∧ Below w.heap.size w w' := by
  have hu23 := Try.underlying23
  unfold field_RightRect.f at h
  repeat' first
    | (with_reducible replace h := zs h)
    | (with_reducible replace h := zez h (by assumption) (by decide))
    | (with_reducible replace h := zb h; obtain ⟨t, A, h⟩ := h)
    | (with_reducible first | replace h := z1 h | replace h := z0 h | replace h := zep h (by assumption) | replace h := zen h (by assumption) | replace h := zcp h (by assumption) | replace h := zcn h (by assumption) | replace h := zbp h (by assumption) | replace h := zbn h (by assumption))
    | (with_reducible (first | replace h := zx h | replace h := zt h); obtain ⟨rfl, h⟩ | ⟨rfl, h⟩ := h)
    | (with_reducible (first | replace h := zd h | replace h := zl h | replace h := zm h); obtain ⟨c, h⟩ | ⟨c, h⟩ := h)
    | (with_reducible (first | replace h := ze h | replace h := zg h); obtain ⟨c, c', h⟩ | ⟨c, c', h⟩ := h)
    | (with_reducible replace h := zt h; obtain ⟨c, h⟩ | ⟨c, h⟩ := h)
    | (with_reducible replace h := Option.some.inj h; subst h)
    | (with_reducible exact (zn h).elim)
  all_goals
    try (have H' := za h; clear h)
    go_enter Try.func30, Try.ntmps30
    go_wp2_with (first
      | ((with_reducible refine zq ?_); first | go_quiet ((first | (go_at_call 40; refine Calls.quiet_of ((field_within.cn (by assumption : Aside0 _).out ?_ ?_).mono fun _ _ h => ⟨h.1, h.2.out⟩); (focus first | with_reducible exact zC (by assumption) | (with_reducible first | refine zlit1 (t := 3) ?_ | refine zlit2 (t := 3) ?_ | refine zlit3 (t := 3) ?_ | refine zlit4 (t := 3) ?_ | refine zlit6 (t := 3) ?_); ((with_reducible repeat (first | exact (by assumption : Aside0 _).out | (refine znew ?_; simp only [World.size_alloc, World.heap_drewN, heap_drew]; done) | refine blk_alloc ?_ _ | refine blk_drewN ?_ _ | refine blk_drew ?_ | refine blk_below ?_ Bs.out | apply zput | (refine zfar ?_ ?_; (focus omega)))) <;> rfl); done); (first | exact Nat.le_refl _ | exact (by assumption : Aside0 _).out)))))
      | (go_at_call 40; refine (field_within.cn (by assumption : Aside0 _).out ?_ ?_).mono ?_; (focus first | with_reducible exact zC (by assumption) | (with_reducible first | refine zlit1 (t := 3) ?_ | refine zlit2 (t := 3) ?_ | refine zlit3 (t := 3) ?_ | refine zlit4 (t := 3) ?_ | refine zlit6 (t := 3) ?_); ((with_reducible repeat (first | exact (by assumption : Aside0 _).out | (refine znew ?_; simp only [World.size_alloc, World.heap_drewN, heap_drew]; done) | refine blk_alloc ?_ _ | refine blk_drewN ?_ _ | refine blk_drew ?_ | refine blk_below ?_ Bs.out | apply zput | (refine zfar ?_ ?_; (focus omega)))) <;> rfl); done); (first | exact Nat.le_refl _ | exact (by assumption : Aside0 _).out); rintro e w' ⟨rfl, ⟨n, rfl⟩⟩))
  all_goals first
    | (go_ret; exact ⟨rfl, Bw.out⟩)

/-! ### field_RightRGBA: function 52 -/
def field_RightRGBA.f (k : Nat) (a0_0 : Int) (a0_1 : Int) (a0_2 : Int) (a0_3 : Int) : Option (Bool) := (field_within.f k 0 255 (([a0_0, a0_1, a0_2, a0_3] : List Int))).bind fun t118 => (some t118)
theorem field_RightRGBA.mono : ∀ a0 a1 a2 a3 k, LeO (field_RightRGBA.f k a0 a1 a2 a3) (field_RightRGBA.f (k + 1) a0 a1 a2 a3) := by
  intro a0 a1 a2 a3 k
  unfold field_RightRGBA.f
  repeat' first
      | with_reducible exact field_within.mono _ _ _ _
      | with_reducible exact LeO.refl _
      | with_reducible exact LeO.none _
      | with_reducible refine LeO.ite ?_ ?_
      | with_reducible refine LeO.bind ?_ (fun _ => ?_)
set_option maxHeartbeats 8000000 in
set_option maxRecDepth 100000 in
theorem field_RightRGBA.cn {a0_0 a0_1 a0_2 a0_3 : Int} {k : Nat} {r : Bool} {w : World} (h : field_RightRGBA.f k a0_0 a0_1 a0_2 a0_3 = some r) :
    Calls Try.prog 52 #[.agg #[.int .i64 a0_0, .int .i64 a0_1, .int .i64 a0_2, .int .i64 a0_3]] w fun e w' => e = .returned (.bool r) ∧ Below w.heap.size w w' := by
  have hu60 := Try.underlying60
  unfold field_RightRGBA.f at h
  repeat' first
    | (with_reducible replace h := zs h)
    | (with_reducible replace h := zez h (by assumption) (by decide))
    | (with_reducible replace h := zb h; obtain ⟨t, A, h⟩ := h)
    | (with_reducible first | replace h := z1 h | replace h := z0 h | replace h := zep h (by assumption) | replace h := zen h (by assumption) | replace h := zcp h (by assumption) | replace h := zcn h (by assumption) | replace h := zbp h (by assumption) | replace h := zbn h (by assumption))
    | (with_reducible (first | replace h := zx h | replace h := zt h); obtain ⟨rfl, h⟩ | ⟨rfl, h⟩ := h)
    | (with_reducible (first | replace h := zd h | replace h := zl h | replace h := zm h); obtain ⟨c, h⟩ | ⟨c, h⟩ := h)
    | (with_reducible (first | replace h := ze h | replace h := zg h); obtain ⟨c, c', h⟩ | ⟨c, c', h⟩ := h)
    | (with_reducible replace h := zt h; obtain ⟨c, h⟩ | ⟨c, h⟩ := h)
    | (with_reducible replace h := Option.some.inj h; subst h)
    | (with_reducible exact (zn h).elim)
  all_goals
    try (have H' := za h; clear h)
    go_enter Try.func52, Try.ntmps52
    go_wp2_with (first
      | ((with_reducible refine zq ?_); first | go_quiet ((first | (go_at_call 40; refine Calls.quiet_of ((field_within.cn (by assumption : Aside0 _).out ?_ ?_).mono fun _ _ h => ⟨h.1, h.2.out⟩); (focus first | with_reducible exact zC (by assumption) | (with_reducible first | refine zlit1 (t := 3) ?_ | refine zlit2 (t := 3) ?_ | refine zlit3 (t := 3) ?_ | refine zlit4 (t := 3) ?_ | refine zlit6 (t := 3) ?_); ((with_reducible repeat (first | exact (by assumption : Aside0 _).out | (refine znew ?_; simp only [World.size_alloc, World.heap_drewN, heap_drew]; done) | refine blk_alloc ?_ _ | refine blk_drewN ?_ _ | refine blk_drew ?_ | refine blk_below ?_ Bs.out | apply zput | (refine zfar ?_ ?_; (focus omega)))) <;> rfl); done); (first | exact Nat.le_refl _ | exact (by assumption : Aside0 _).out)))))
      | (go_at_call 40; refine (field_within.cn (by assumption : Aside0 _).out ?_ ?_).mono ?_; (focus first | with_reducible exact zC (by assumption) | (with_reducible first | refine zlit1 (t := 3) ?_ | refine zlit2 (t := 3) ?_ | refine zlit3 (t := 3) ?_ | refine zlit4 (t := 3) ?_ | refine zlit6 (t := 3) ?_); ((with_reducible repeat (first | exact (by assumption : Aside0 _).out | (refine znew ?_; simp only [World.size_alloc, World.heap_drewN, heap_drew]; done) | refine blk_alloc ?_ _ | refine blk_drewN ?_ _ | refine blk_drew ?_ | refine blk_below ?_ Bs.out | apply zput | (refine zfar ?_ ?_; (focus omega)))) <;> rfl); done); (first | exact Nat.le_refl _ | exact (by assumption : Aside0 _).out); rintro e w' ⟨rfl, ⟨n, rfl⟩⟩))
  all_goals first
    | (go_ret; exact ⟨rfl, Bw.out⟩)

/-! ### api_Stop: function 60 -/
def api_Stop.l0 : Nat → List (S86) → List (S86) → Int → Int → Option (Bool)
  | 0, _, _, _, _ => none
  | k + 1, x0, x1, x12, x13 => if x13 < x12 then (if 0 ≤ x13 then (if x13 < (x0.length : Int) then (if x13 < (x1.length : Int) then (if (!(((rd_T86 x0 x13).f0) == ((rd_T86 x1 x13).f0)) || ((!(((rd_T86 x0 x13).f1.f0) == ((rd_T86 x1 x13).f1.f0)) || (!(((rd_T86 x0 x13).f1.f1) == ((rd_T86 x1 x13).f1.f1)) || (!(((rd_T86 x0 x13).f1.f2) == ((rd_T86 x1 x13).f1.f2)) || (!(((rd_T86 x0 x13).f1.f3) == ((rd_T86 x1 x13).f1.f3)))))))) = true then (some false) else (api_Stop.l0 k x0 x1 x12 (wrap64 (x13 + 1)))) else (none)) else (none)) else (none)) else (some true)
def api_Stop.f (k : Nat) (l0 : List (S86)) (l1 : List (S86)) : Option (Bool) := if (l0.length : Int) = (l1.length : Int) then (api_Stop.l0 k l0 l1 (l0.length : Int) 0) else (some false)
theorem api_Stop.mono_l : ∀ k, (∀ y0 y1 y2 y3, LeO (api_Stop.l0 k y0 y1 y2 y3) (api_Stop.l0 (k + 1) y0 y1 y2 y3))
  | 0 => fun _ _ _ _ r h => by simp [api_Stop.l0] at h
  | k + 1 => by
    have ih0 := api_Stop.mono_l k
    · intro y0 y1 y2 y3
      unfold api_Stop.l0
      repeat' first
      | with_reducible exact ih0 _ _ _ _
      | with_reducible exact LeO.refl _
      | with_reducible exact LeO.none _
      | with_reducible refine LeO.ite ?_ ?_
      | with_reducible refine LeO.bind ?_ (fun _ => ?_)
theorem api_Stop.mono : ∀ a0 a1 k, LeO (api_Stop.f k a0 a1) (api_Stop.f (k + 1) a0 a1) := by
  intro a0 a1 k
  have ih0 := api_Stop.mono_l k
  unfold api_Stop.f
  repeat' first
      | with_reducible exact ih0 _ _ _ _
      | with_reducible exact LeO.refl _
      | with_reducible exact LeO.none _
      | with_reducible refine LeO.ite ?_ ?_
      | with_reducible refine LeO.bind ?_ (fun _ => ?_)
set_option maxHeartbeats 8000000 in
set_option maxRecDepth 100000 in
theorem api_Stop.cn {k : Nat} {A0 : Option Addr} {n0 c0 : Nat} {l0 : List (S86)} {A1 : Option Addr} {n1 c1 : Nat} {l1 : List (S86)} {r : Bool} {w : World} (h : api_Stop.f k l0 l1 = some r) (hr0 : Kd.C k86 w A0 n0 l0) (hc0 : n0 ≤ c0) (hr1 : Kd.C k86 w A1 n1 l1) (hc1 : n1 ≤ c1) :
    Calls Try.prog 60 #[.slice A0 n0 c0, .slice A1 n1 c1] w fun e w' => e = .returned (.bool r) ∧ Drawn0 w w' := by
  obtain rfl := hr0.1
  obtain rfl := hr1.1
  have HC0 := za hr0; have HL0 := za hc0; clear hr0 hc0
  have HC1 := za hr1; have HL1 := za hc1; clear hr1 hc1
  have HB := Drawn0.refl w
  have hu86 := Try.underlying86
  unfold api_Stop.f at h
  repeat' first
    | (with_reducible replace h := zs h)
    | (with_reducible replace h := zez h (by assumption) (by decide))
    | (with_reducible replace h := zb h; obtain ⟨t, A, h⟩ := h)
    | (with_reducible first | replace h := z1 h | replace h := z0 h | replace h := zep h (by assumption) | replace h := zen h (by assumption) | replace h := zcp h (by assumption) | replace h := zcn h (by assumption) | replace h := zbp h (by assumption) | replace h := zbn h (by assumption))
    | (with_reducible (first | replace h := zx h | replace h := zt h); obtain ⟨rfl, h⟩ | ⟨rfl, h⟩ := h)
    | (with_reducible (first | replace h := zd h | replace h := zl h | replace h := zm h); obtain ⟨c, h⟩ | ⟨c, h⟩ := h)
    | (with_reducible (first | replace h := ze h | replace h := zg h); obtain ⟨c, c', h⟩ | ⟨c, c', h⟩ := h)
    | (with_reducible replace h := zt h; obtain ⟨c, h⟩ | ⟨c, h⟩ := h)
    | (with_reducible replace h := Option.some.inj h; subst h)
    | (with_reducible exact (zn h).elim)
  all_goals
    try (have H' := za h; clear h)
    go_enter Try.func60, Try.ntmps60
    go_wp2_with (first
      | ((with_reducible refine zq ?_); first | go_quiet (fail)))
  all_goals first
    | (go_ret; exact ⟨rfl, by repeat (first | exact HB | exact Drawn0.refl _ | apply Drawn0.step)⟩)
    | (go_loopg [13] k (fun kq v13 w' => ∃ (x13_1 : Int), v13 = .int .i64 x13_1 ∧ Aside0 (api_Stop.l0 kq l0 l1 (l0.length : Int) x13_1 = some r) ∧ Aside0 (kq ≤ k) ∧ Drawn0 w w')
       case atStart => exact ⟨_, rfl, H', ⟨Nat.le_refl _⟩, by repeat (first | exact HB | exact Drawn0.refl _ | apply Drawn0.step)⟩
       case round =>
        obtain ⟨x13_1, rfl, HA, HK1, HB⟩ := hrel
        have HW := Bw.mk HB.below; clear H'
        cases gk with
        | zero => exact absurd HA.out (by simp [api_Stop.l0])
        | succ k1 =>
          have h := HA.out; clear HA; simp only [api_Stop.l0] at h
          repeat' first
            | (with_reducible replace h := zs h)
            | (with_reducible replace h := zez h (by assumption) (by decide))
            | (with_reducible replace h := zb h; obtain ⟨t, A, h⟩ := h)
            | (with_reducible first | replace h := z1 h | replace h := z0 h | replace h := zep h (by assumption) | replace h := zen h (by assumption) | replace h := zcp h (by assumption) | replace h := zcn h (by assumption) | replace h := zbp h (by assumption) | replace h := zbn h (by assumption))
            | (with_reducible (first | replace h := zx h | replace h := zt h); obtain ⟨rfl, h⟩ | ⟨rfl, h⟩ := h)
            | (with_reducible (first | replace h := zd h | replace h := zl h | replace h := zm h); obtain ⟨c, h⟩ | ⟨c, h⟩ := h)
            | (with_reducible (first | replace h := ze h | replace h := zg h); obtain ⟨c, c', h⟩ | ⟨c, c', h⟩ := h)
            | (with_reducible replace h := zt h; obtain ⟨c, h⟩ | ⟨c, h⟩ := h)
            | (with_reducible replace h := Option.some.inj h; subst h)
            | (with_reducible exact (zn h).elim)
          all_goals
            have HN : Lw w wr 0 := ⟨HW.out.size⟩
            try (refine zat86 (W := wr) HC0 x13_1 ?_ ?_ ?_; assumption; assumption; rintro ad ⟨⟩; intros)
            try (refine zat86 (W := wr) HC1 x13_1 ?_ ?_ ?_; assumption; assumption; rintro ad ⟨⟩; intros)
            try (have H' := za h; clear h)
            go_wp2_with (first
              | ((with_reducible refine zq ?_); first | go_quiet (fail)))
          all_goals first
            | (go_ret; exact ⟨rfl, by repeat (first | exact HB | exact Drawn0.refl _ | apply Drawn0.step)⟩)
            | (go_roundg k1
               case measure => have := HK1.out; omega
               case rel => exact ⟨_, rfl, H', ⟨by have := HK1.out; omega⟩, by repeat (first | exact HB | exact Drawn0.refl _ | apply Drawn0.step)⟩))

/-! ### style_SameFill: function 53 -/
def style_SameFill.f (k : Nat) (a0_0 : Int) (a0_1 : Int) (a0_2 : Int) (a0_3 : Int) (a0_4 : Int) (a0_5 : Int) (a0_6 : Int) (a0_7 : Int) (a0_8 : Int) (a0_9 : Int) (a0_10 : Int) (a0_11 : Int) (l0_12 : List (S86)) (a0_13 : Int) (a1_0 : Int) (a1_1 : Int) (a1_2 : Int) (a1_3 : Int) (a1_4 : Int) (a1_5 : Int) (a1_6 : Int) (a1_7 : Int) (a1_8 : Int) (a1_9 : Int) (a1_10 : Int) (a1_11 : Int) (l1_12 : List (S86)) (a1_13 : Int) : Option (Bool) := if a0_0 = a1_0 then (if (a0_1 == a1_1 && (a0_2 == a1_2 && (a0_3 == a1_3 && (a0_4 == a1_4)))) = true then (if (a0_5 == a1_5 && (a0_6 == a1_6 && (a0_7 == a1_7 && (a0_8 == a1_8 && (a0_9 == a1_9 && (a0_10 == a1_10)))))) = true then (if a0_11 = a1_11 then (if a0_13 = a1_13 then ((api_Stop.f k l0_12 l1_12).bind fun t123 => (some t123)) else (some false)) else (some false)) else (some false)) else (some false)) else (some false)
theorem style_SameFill.mono : ∀ a0 a1 a2 a3 a4 a5 a6 a7 a8 a9 a10 a11 a12 a13 a14 a15 a16 a17 a18 a19 a20 a21 a22 a23 a24 a25 a26 a27 k, LeO (style_SameFill.f k a0 a1 a2 a3 a4 a5 a6 a7 a8 a9 a10 a11 a12 a13 a14 a15 a16 a17 a18 a19 a20 a21 a22 a23 a24 a25 a26 a27) (style_SameFill.f (k + 1) a0 a1 a2 a3 a4 a5 a6 a7 a8 a9 a10 a11 a12 a13 a14 a15 a16 a17 a18 a19 a20 a21 a22 a23 a24 a25 a26 a27) := by
  intro a0 a1 a2 a3 a4 a5 a6 a7 a8 a9 a10 a11 a12 a13 a14 a15 a16 a17 a18 a19 a20 a21 a22 a23 a24 a25 a26 a27 k
  unfold style_SameFill.f
  repeat' first
      | with_reducible exact api_Stop.mono _ _ _
      | with_reducible exact LeO.refl _
      | with_reducible exact LeO.none _
      | with_reducible refine LeO.ite ?_ ?_
      | with_reducible refine LeO.bind ?_ (fun _ => ?_)
set_option maxHeartbeats 8000000 in
set_option maxRecDepth 100000 in
theorem style_SameFill.cn {a0_0 a0_1 a0_2 a0_3 a0_4 a0_5 a0_6 a0_7 a0_8 a0_9 a0_10 a0_11 a0_13 a1_0 a1_1 a1_2 a1_3 a1_4 a1_5 a1_6 a1_7 a1_8 a1_9 a1_10 a1_11 a1_13 : Int} {k : Nat} {A0_12 : Option Addr} {n0_12 c0_12 : Nat} {l0_12 : List (S86)} {A1_12 : Option Addr} {n1_12 c1_12 : Nat} {l1_12 : List (S86)} {r : Bool} {w : World} (h : style_SameFill.f k a0_0 a0_1 a0_2 a0_3 a0_4 a0_5 a0_6 a0_7 a0_8 a0_9 a0_10 a0_11 l0_12 a0_13 a1_0 a1_1 a1_2 a1_3 a1_4 a1_5 a1_6 a1_7 a1_8 a1_9 a1_10 a1_11 l1_12 a1_13 = some r) (hr0_12 : Kd.C k86 w A0_12 n0_12 l0_12) (hc0_12 : n0_12 ≤ c0_12) (hr1_12 : Kd.C k86 w A1_12 n1_12 l1_12) (hc1_12 : n1_12 ≤ c1_12) :
    Calls Try.prog 53 #[.agg #[.int .i64 a0_0, .int .i64 a0_1, .int .i64 a0_2, .int .i64 a0_3, .int .i64 a0_4, .int .i64 a0_5, .int .i64 a0_6, .int .i64 a0_7, .int .i64 a0_8, .int .i64 a0_9, .int .i64 a0_10, .int .i64 a0_11, .slice A0_12 n0_12 c0_12, .int .i64 a0_13], .agg #[.int .i64 a1_0, .int .i64 a1_1, .int .i64 a1_2, .int .i64 a1_3, .int .i64 a1_4, .int .i64 a1_5, .int .i64 a1_6, .int .i64 a1_7, .int .i64 a1_8, .int .i64 a1_9, .int .i64 a1_10, .int .i64 a1_11, .slice A1_12 n1_12 c1_12, .int .i64 a1_13]] w fun e w' => e = .returned (.bool r) ∧ Below w.heap.size w w' := by
  obtain rfl := hr0_12.1
  obtain rfl := hr1_12.1
  have HC0_12 := za hr0_12; have HL0_12 := za hc0_12; clear hr0_12 hc0_12
  have HC1_12 := za hr1_12; have HL1_12 := za hc1_12; clear hr1_12 hc1_12
  have hu60 := Try.underlying60
  have hu62 := Try.underlying62
  have hu65 := Try.underlying65
  unfold style_SameFill.f at h
  repeat' first
    | (with_reducible replace h := zs h)
    | (with_reducible replace h := zez h (by assumption) (by decide))
    | (with_reducible replace h := zb h; obtain ⟨t, A, h⟩ := h)
    | (with_reducible first | replace h := z1 h | replace h := z0 h | replace h := zep h (by assumption) | replace h := zen h (by assumption) | replace h := zcp h (by assumption) | replace h := zcn h (by assumption) | replace h := zbp h (by assumption) | replace h := zbn h (by assumption))
    | (with_reducible (first | replace h := zx h | replace h := zt h); obtain ⟨rfl, h⟩ | ⟨rfl, h⟩ := h)
    | (with_reducible (first | replace h := zd h | replace h := zl h | replace h := zm h); obtain ⟨c, h⟩ | ⟨c, h⟩ := h)
    | (with_reducible (first | replace h := ze h | replace h := zg h); obtain ⟨c, c', h⟩ | ⟨c, c', h⟩ := h)
    | (with_reducible replace h := zt h; obtain ⟨c, h⟩ | ⟨c, h⟩ := h)
    | (with_reducible replace h := Option.some.inj h; subst h)
    | (with_reducible exact (zn h).elim)
  all_goals
    try (have H' := za h; clear h)
    go_enter Try.func53, Try.ntmps53
    go_wp2_with (first
      | ((with_reducible refine zq ?_); first | go_quiet ((first | (go_at_call 60; refine Calls.quiet_of ((api_Stop.cn (by assumption : Aside0 _).out ?_ ?_ ?_ ?_).mono fun _ _ h => ⟨h.1, h.2.out⟩); (focus with_reducible first | exact znil | exact zC (by assumption)); (first | exact Nat.le_refl _ | exact (by assumption : Aside0 _).out); (focus with_reducible first | exact znil | exact zC (by assumption)); (first | exact Nat.le_refl _ | exact (by assumption : Aside0 _).out)))))
      | (go_at_call 60; refine (api_Stop.cn (by assumption : Aside0 _).out ?_ ?_ ?_ ?_).mono ?_; (focus with_reducible first | exact znil | exact zC (by assumption)); (first | exact Nat.le_refl _ | exact (by assumption : Aside0 _).out); (focus with_reducible first | exact znil | exact zC (by assumption)); (first | exact Nat.le_refl _ | exact (by assumption : Aside0 _).out); rintro e w' ⟨rfl, ⟨n, rfl⟩⟩))
  all_goals first
    | (go_ret; exact ⟨rfl, Bw.out⟩)

/-! ### style_picture: function 54 -/
def style_picture.f (a0 : Int) : Option (Bool) := if a0 = 64 then (some true) else (some (a0 == 65))

set_option maxHeartbeats 8000000 in
set_option maxRecDepth 100000 in
theorem style_picture.cn {a0 : Int} {r : Bool} {w : World} (h : style_picture.f a0 = some r) :
    Calls Try.prog 54 #[.int .i64 a0] w fun e w' => e = .returned (.bool r) ∧ Drawn0 w w' := by
  have HB := Drawn0.refl w
  unfold style_picture.f at h
  repeat' first
    | (with_reducible replace h := zs h)
    | (with_reducible replace h := zez h (by assumption) (by decide))
    | (with_reducible replace h := zb h; obtain ⟨t, A, h⟩ := h)
    | (with_reducible first | replace h := z1 h | replace h := z0 h | replace h := zep h (by assumption) | replace h := zen h (by assumption) | replace h := zcp h (by assumption) | replace h := zcn h (by assumption) | replace h := zbp h (by assumption) | replace h := zbn h (by assumption))
    | (with_reducible (first | replace h := zx h | replace h := zt h); obtain ⟨rfl, h⟩ | ⟨rfl, h⟩ := h)
    | (with_reducible (first | replace h := zd h | replace h := zl h | replace h := zm h); obtain ⟨c, h⟩ | ⟨c, h⟩ := h)
    | (with_reducible (first | replace h := ze h | replace h := zg h); obtain ⟨c, c', h⟩ | ⟨c, c', h⟩ := h)
    | (with_reducible replace h := zt h; obtain ⟨c, h⟩ | ⟨c, h⟩ := h)
    | (with_reducible replace h := Option.some.inj h; subst h)
    | (with_reducible exact (zn h).elim)
  all_goals
    try (have H' := za h; clear h)
    go_enter Try.func54, Try.ntmps54
    go_wp2_with (first
      | ((with_reducible refine zq ?_); first | go_quiet (fail)))
  all_goals first
    | (go_ret; exact ⟨rfl, by repeat (first | exact HB | exact Drawn0.refl _ | apply Drawn0.step)⟩)

/-! ### field_RightMatrix: function 55 -/
def field_RightMatrix.f (k : Nat) (a0_0 : Int) (a0_1 : Int) (a0_2 : Int) (a0_3 : Int) (a0_4 : Int) (a0_5 : Int) : Option (Bool) := (field_within.f k (-4194304) 4194304 (([a0_0, a0_1, a0_2, a0_3] : List Int))).bind fun t128 => (if t128 = true then ((field_within.f k (-1048576) 1048576 (([a0_4, a0_5] : List Int))).bind fun t132 => (some t132)) else (some false))
theorem field_RightMatrix.mono : ∀ a0 a1 a2 a3 a4 a5 k, LeO (field_RightMatrix.f k a0 a1 a2 a3 a4 a5) (field_RightMatrix.f (k + 1) a0 a1 a2 a3 a4 a5) := by
  intro a0 a1 a2 a3 a4 a5 k
  unfold field_RightMatrix.f
  repeat' first
      | with_reducible exact field_within.mono _ _ _ _
      | with_reducible exact LeO.refl _
      | with_reducible exact LeO.none _
      | with_reducible refine LeO.ite ?_ ?_
      | with_reducible refine LeO.bind ?_ (fun _ => ?_)
set_option maxHeartbeats 8000000 in
set_option maxRecDepth 100000 in
theorem field_RightMatrix.cn {a0_0 a0_1 a0_2 a0_3 a0_4 a0_5 : Int} {k : Nat} {r : Bool} {w : World} (h : field_RightMatrix.f k a0_0 a0_1 a0_2 a0_3 a0_4 a0_5 = some r) :
    Calls Try.prog 55 #[.agg #[.int .i64 a0_0, .int .i64 a0_1, .int .i64 a0_2, .int .i64 a0_3, .int .i64 a0_4, .int .i64 a0_5]] w fun e w' => e = .returned (.bool r) ∧ Below w.heap.size w w' := by
  have hu62 := Try.underlying62
  unfold field_RightMatrix.f at h
  repeat' first
    | (with_reducible replace h := zs h)
    | (with_reducible replace h := zez h (by assumption) (by decide))
    | (with_reducible replace h := zb h; obtain ⟨t, A, h⟩ := h)
    | (with_reducible first | replace h := z1 h | replace h := z0 h | replace h := zep h (by assumption) | replace h := zen h (by assumption) | replace h := zcp h (by assumption) | replace h := zcn h (by assumption) | replace h := zbp h (by assumption) | replace h := zbn h (by assumption))
    | (with_reducible (first | replace h := zx h | replace h := zt h); obtain ⟨rfl, h⟩ | ⟨rfl, h⟩ := h)
    | (with_reducible (first | replace h := zd h | replace h := zl h | replace h := zm h); obtain ⟨c, h⟩ | ⟨c, h⟩ := h)
    | (with_reducible (first | replace h := ze h | replace h := zg h); obtain ⟨c, c', h⟩ | ⟨c, c', h⟩ := h)
    | (with_reducible replace h := zt h; obtain ⟨c, h⟩ | ⟨c, h⟩ := h)
    | (with_reducible replace h := Option.some.inj h; subst h)
    | (with_reducible exact (zn h).elim)
  all_goals
    try (have H' := za h; clear h)
    go_enter Try.func55, Try.ntmps55
    go_wp2_with (first
      | ((with_reducible refine zq ?_); first | go_quiet ((first | (go_at_call 40; refine Calls.quiet_of ((field_within.cn (by assumption : Aside0 _).out ?_ ?_).mono fun _ _ h => ⟨h.1, h.2.out⟩); (focus first | with_reducible exact zC (by assumption) | (with_reducible first | refine zlit1 (t := 3) ?_ | refine zlit2 (t := 3) ?_ | refine zlit3 (t := 3) ?_ | refine zlit4 (t := 3) ?_ | refine zlit6 (t := 3) ?_); ((with_reducible repeat (first | exact (by assumption : Aside0 _).out | (refine znew ?_; simp only [World.size_alloc, World.heap_drewN, heap_drew]; done) | refine blk_alloc ?_ _ | refine blk_drewN ?_ _ | refine blk_drew ?_ | refine blk_below ?_ Bs.out | apply zput | (refine zfar ?_ ?_; (focus omega)))) <;> rfl); done); (first | exact Nat.le_refl _ | exact (by assumption : Aside0 _).out)))))
      | (go_at_call 40; refine (field_within.cn (by assumption : Aside0 _).out ?_ ?_).mono ?_; (focus first | with_reducible exact zC (by assumption) | (with_reducible first | refine zlit1 (t := 3) ?_ | refine zlit2 (t := 3) ?_ | refine zlit3 (t := 3) ?_ | refine zlit4 (t := 3) ?_ | refine zlit6 (t := 3) ?_); ((with_reducible repeat (first | exact (by assumption : Aside0 _).out | (refine znew ?_; simp only [World.size_alloc, World.heap_drewN, heap_drew]; done) | refine blk_alloc ?_ _ | refine blk_drewN ?_ _ | refine blk_drew ?_ | refine blk_below ?_ Bs.out | apply zput | (refine zfar ?_ ?_; (focus omega)))) <;> rfl); done); (first | exact Nat.le_refl _ | exact (by assumption : Aside0 _).out); rintro e w' ⟨rfl, ⟨n, rfl⟩⟩))
  all_goals first
    | (go_ret; exact ⟨rfl, Bw.out⟩)

/-! ### style_gradient: function 56 -/
def style_gradient.f (a0 : Int) : Option (Bool) := if a0 = 16 then (some true) else (some (a0 == 18))

set_option maxHeartbeats 8000000 in
set_option maxRecDepth 100000 in
theorem style_gradient.cn {a0 : Int} {r : Bool} {w : World} (h : style_gradient.f a0 = some r) :
    Calls Try.prog 56 #[.int .i64 a0] w fun e w' => e = .returned (.bool r) ∧ Drawn0 w w' := by
  have HB := Drawn0.refl w
  unfold style_gradient.f at h
  repeat' first
    | (with_reducible replace h := zs h)
    | (with_reducible replace h := zez h (by assumption) (by decide))
    | (with_reducible replace h := zb h; obtain ⟨t, A, h⟩ := h)
    | (with_reducible first | replace h := z1 h | replace h := z0 h | replace h := zep h (by assumption) | replace h := zen h (by assumption) | replace h := zcp h (by assumption) | replace h := zcn h (by assumption) | replace h := zbp h (by assumption) | replace h := zbn h (by assumption))
    | (with_reducible (first | replace h := zx h | replace h := zt h); obtain ⟨rfl, h⟩ | ⟨rfl, h⟩ := h)
    | (with_reducible (first | replace h := zd h | replace h := zl h | replace h := zm h); obtain ⟨c, h⟩ | ⟨c, h⟩ := h)
    | (with_reducible (first | replace h := ze h | replace h := zg h); obtain ⟨c, c', h⟩ | ⟨c, c', h⟩ := h)
    | (with_reducible replace h := zt h; obtain ⟨c, h⟩ | ⟨c, h⟩ := h)
    | (with_reducible replace h := Option.some.inj h; subst h)
    | (with_reducible exact (zn h).elim)
  all_goals
    try (have H' := za h; clear h)
    go_enter Try.func56, Try.ntmps56
    go_wp2_with (first
      | ((with_reducible refine zq ?_); first | go_quiet (fail)))
  all_goals first
    | (go_ret; exact ⟨rfl, by repeat (first | exact HB | exact Drawn0.refl _ | apply Drawn0.step)⟩)

/-! ### style_stop: function 57 -/
def style_stop.f (k : Nat) (a0_0 : Int) (a0_1 : Int) (a0_2 : Int) (a0_3 : Int) (a0_4 : Int) (a1 : Int) : Option (Bool) := if a0_0 ≥ a1 then (if a0_0 ≤ 255 then ((field_RightRGBA.f k a0_1 a0_2 a0_3 a0_4).bind fun t134 => (some t134)) else (some false)) else (some false)
theorem style_stop.mono : ∀ a0 a1 a2 a3 a4 a5 k, LeO (style_stop.f k a0 a1 a2 a3 a4 a5) (style_stop.f (k + 1) a0 a1 a2 a3 a4 a5) := by
  intro a0 a1 a2 a3 a4 a5 k
  unfold style_stop.f
  repeat' first
      | with_reducible exact field_RightRGBA.mono _ _ _ _ _
      | with_reducible exact LeO.refl _
      | with_reducible exact LeO.none _
      | with_reducible refine LeO.ite ?_ ?_
      | with_reducible refine LeO.bind ?_ (fun _ => ?_)
set_option maxHeartbeats 8000000 in
set_option maxRecDepth 100000 in
theorem style_stop.cn {a0_0 a0_1 a0_2 a0_3 a0_4 a1 : Int} {k : Nat} {r : Bool} {w : World} (h : style_stop.f k a0_0 a0_1 a0_2 a0_3 a0_4 a1 = some r) :
    Calls Try.prog 57 #[.agg #[.int .i64 a0_0, .int .i64 a0_1, .int .i64 a0_2, .int .i64 a0_3, .int .i64 a0_4], .int .i64 a1] w fun e w' => e = .returned (.bool r) ∧ Below w.heap.size w w' := by
  have hu60 := Try.underlying60
  have hu86 := Try.underlying86
  unfold style_stop.f at h
  repeat' first
    | (with_reducible replace h := zs h)
    | (with_reducible replace h := zez h (by assumption) (by decide))
    | (with_reducible replace h := zb h; obtain ⟨t, A, h⟩ := h)
    | (with_reducible first | replace h := z1 h | replace h := z0 h | replace h := zep h (by assumption) | replace h := zen h (by assumption) | replace h := zcp h (by assumption) | replace h := zcn h (by assumption) | replace h := zbp h (by assumption) | replace h := zbn h (by assumption))
    | (with_reducible (first | replace h := zx h | replace h := zt h); obtain ⟨rfl, h⟩ | ⟨rfl, h⟩ := h)
    | (with_reducible (first | replace h := zd h | replace h := zl h | replace h := zm h); obtain ⟨c, h⟩ | ⟨c, h⟩ := h)
    | (with_reducible (first | replace h := ze h | replace h := zg h); obtain ⟨c, c', h⟩ | ⟨c, c', h⟩ := h)
    | (with_reducible replace h := zt h; obtain ⟨c, h⟩ | ⟨c, h⟩ := h)
    | (with_reducible replace h := Option.some.inj h; subst h)
    | (with_reducible exact (zn h).elim)
  all_goals
    try (have H' := za h; clear h)
    go_enter Try.func57, Try.ntmps57
    go_wp2_with (first
      | ((with_reducible refine zq ?_); first | go_quiet (fail))
      | (go_at_call 52; refine (field_RightRGBA.cn (by assumption : Aside0 _).out).mono ?_; rintro e w' ⟨rfl, hb⟩; obtain ⟨hb, hc, hf⟩ := zk hb; have hy := zy w w'; simp only [zL, Nat.add_zero] at hy))
  all_goals first
    | (go_ret; exact ⟨rfl, Bw.out⟩)

end Go.Proofs.Ytlldbmodidhidaa.P
