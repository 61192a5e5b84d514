/- Walks by cw.py (wip/tool): plain functions that tell what the program answers, and the proofs that the program comes to these answers, for all arguments of their kinds. -/
import Derived.Test.YtmdfcinjmlagcaaCx0
import Derived.Test.YtmdfcinjmlagcaaPx1
import Derived.Test.YtmdfcinjmlagcaaPx2
import Derived.Test.YtmdfcinjmlagcaaPx3
namespace Go.Proofs.Ytmdfcinjmlagcaa.P
open Go.RowKit Go.Proofs.YtmdfcinjmlagcaaW.PrintWords Go.Proofs.YtmdfcinjmlagcaaW.PrintLast Go.Proofs.YtmdfcinjmlagcaaW.PrintMore
attribute [local go_sem] max2_int min2_int max_two min_two max_three min_three max_four min_four max_five min_five max_six min_six
set_option linter.unusedVariables false
set_option linter.unusedSimpArgs false
attribute [local go_sem high] eqA23 eqA28 eqA80

/-! ### api_Stop: function 71 -/
def api_Stop.l0 : Nat → List (S80) → List (S80) → Int → Int → Option (Bool)
  | 0, _, _, _, _ => none
  | k + 1, x0, x1, x12, x13 => if x13 < x12 then (if 0 ≤ x13 then (if x13 < (x0.length : Int) then (if x13 < (x1.length : Int) then (if (!(((rd_T80 x0 x13).f0) == ((rd_T80 x1 x13).f0)) || ((!(((rd_T80 x0 x13).f1.f0) == ((rd_T80 x1 x13).f1.f0)) || (!(((rd_T80 x0 x13).f1.f1) == ((rd_T80 x1 x13).f1.f1)) || (!(((rd_T80 x0 x13).f1.f2) == ((rd_T80 x1 x13).f1.f2)) || (!(((rd_T80 x0 x13).f1.f3) == ((rd_T80 x1 x13).f1.f3)))))))) = true then (some false) else (api_Stop.l0 k x0 x1 x12 (wrap64 (x13 + 1)))) else (none)) else (none)) else (none)) else (some true)
def api_Stop.f (k : Nat) (l0 : List (S80)) (l1 : List (S80)) : Option (Bool) := if (l0.length : Int) = (l1.length : Int) then (api_Stop.l0 k l0 l1 (l0.length : Int) 0) else (some false)
theorem api_Stop.mono_l : ∀ k, (∀ y0 y1 y2 y3, LeO (api_Stop.l0 k y0 y1 y2 y3) (api_Stop.l0 (k + 1) y0 y1 y2 y3))
  | 0 => fun _ _ _ _ r h => by simp [api_Stop.l0] at h
  | k + 1 => by
    have ih0 := api_Stop.mono_l k
    · intro y0 y1 y2 y3
      unfold api_Stop.l0
      repeat' first
      | with_reducible exact ih0 _ _ _ _
      | with_reducible exact LeO.refl _
      | with_reducible exact LeO.none _
      | with_reducible refine LeO.ite ?_ ?_
      | with_reducible refine LeO.bind ?_ (fun _ => ?_)
theorem api_Stop.mono : ∀ a0 a1 k, LeO (api_Stop.f k a0 a1) (api_Stop.f (k + 1) a0 a1) := by
  intro a0 a1 k
  have ih0 := api_Stop.mono_l k
  unfold api_Stop.f
  repeat' first
      | with_reducible exact ih0 _ _ _ _
      | with_reducible exact LeO.refl _
      | with_reducible exact LeO.none _
      | with_reducible refine LeO.ite ?_ ?_
      | with_reducible refine LeO.bind ?_ (fun _ => ?_)
set_option maxHeartbeats 8000000 in
set_option maxRecDepth 100000 in
theorem api_Stop.cn {k : Nat} {A0 : Option Addr} {n0 c0 : Nat} {l0 : List (S80)} {A1 : Option Addr} {n1 c1 : Nat} {l1 : List (S80)} {r : Bool} {w : World} (h : api_Stop.f k l0 l1 = some r) (hr0 : Kd.C k80 w A0 n0 l0) (hc0 : n0 ≤ c0) (hr1 : Kd.C k80 w A1 n1 l1) (hc1 : n1 ≤ c1) :
    Calls Try.prog 71 #[.slice A0 n0 c0, .slice A1 n1 c1] w fun e w' => e = .returned (.bool r) ∧ Drawn0 w w' := by
  obtain rfl := hr0.1
  obtain rfl := hr1.1
  have HC0 := za hr0; have HL0 := za hc0; clear hr0 hc0
  have HC1 := za hr1; have HL1 := za hc1; clear hr1 hc1
  have HB := Drawn0.refl w
  have hu80 := Try.underlying80
  unfold api_Stop.f at h
  repeat' first
    | (with_reducible replace h := zs h)
    | (with_reducible replace h := zez h (by assumption) (by decide))
    | (with_reducible replace h := zb h; obtain ⟨t, A, h⟩ := h)
    | (with_reducible first | replace h := z1 h | replace h := z0 h | replace h := zep h (by assumption) | replace h := zen h (by assumption) | replace h := zcp h (by assumption) | replace h := zcn h (by assumption) | replace h := zbp h (by assumption) | replace h := zbn h (by assumption))
    | (with_reducible (first | replace h := zx h | replace h := zt h); obtain ⟨rfl, h⟩ | ⟨rfl, h⟩ := h)
    | (with_reducible (first | replace h := zd h | replace h := zl h | replace h := zm h); obtain ⟨c, h⟩ | ⟨c, h⟩ := h)
    | (with_reducible (first | replace h := ze h | replace h := zg h); obtain ⟨c, c', h⟩ | ⟨c, c', h⟩ := h)
    | (with_reducible replace h := zt h; obtain ⟨c, h⟩ | ⟨c, h⟩ := h)
    | (with_reducible replace h := Option.some.inj h; subst h)
    | (with_reducible exact (zn h).elim)
  all_goals
    try (have H' := za h; clear h)
    go_enter Try.func71, Try.ntmps71
    go_wp2_with (first
      | ((with_reducible refine zq ?_); first | go_quiet (fail)))
  all_goals first
    | (first | (go_ret; exact ⟨rfl, by repeat (first | exact HB | exact Drawn0.refl _ | apply Drawn0.step)⟩))
    | (go_loopg [13] k (fun kq v13 w' => ∃ (x13_1 : Int), v13 = .int .i64 x13_1 ∧ Aside0 (api_Stop.l0 kq l0 l1 (l0.length : Int) x13_1 = some r) ∧ Aside0 (kq ≤ k) ∧ Drawn0 w w')
       case atStart => exact ⟨_, rfl, H', ⟨Nat.le_refl _⟩, by repeat (first | exact HB | exact Drawn0.refl _ | apply Drawn0.step)⟩
       case round =>
        obtain ⟨x13_1, rfl, HA, HK1, HB⟩ := hrel
        have HW := Bw.mk HB.below; clear H'
        cases gk with
        | zero => exact absurd HA.out (by simp [api_Stop.l0])
        | succ k1 =>
          have h := HA.out; clear HA; simp only [api_Stop.l0] at h
          repeat' first
            | (with_reducible replace h := zs h)
            | (with_reducible replace h := zez h (by assumption) (by decide))
            | (with_reducible replace h := zb h; obtain ⟨t, A, h⟩ := h)
            | (with_reducible first | replace h := z1 h | replace h := z0 h | replace h := zep h (by assumption) | replace h := zen h (by assumption) | replace h := zcp h (by assumption) | replace h := zcn h (by assumption) | replace h := zbp h (by assumption) | replace h := zbn h (by assumption))
            | (with_reducible (first | replace h := zx h | replace h := zt h); obtain ⟨rfl, h⟩ | ⟨rfl, h⟩ := h)
            | (with_reducible (first | replace h := zd h | replace h := zl h | replace h := zm h); obtain ⟨c, h⟩ | ⟨c, h⟩ := h)
            | (with_reducible (first | replace h := ze h | replace h := zg h); obtain ⟨c, c', h⟩ | ⟨c, c', h⟩ := h)
            | (with_reducible replace h := zt h; obtain ⟨c, h⟩ | ⟨c, h⟩ := h)
            | (with_reducible replace h := Option.some.inj h; subst h)
            | (with_reducible exact (zn h).elim)
          all_goals
            have HN : Lw w wr 0 := ⟨HW.out.size⟩
            try (refine zat80 (W := wr) HC0 x13_1 ?_ ?_ ?_; (first | assumption | decide); assumption; rintro ad ⟨⟩; intros)
            try (refine zat80 (W := wr) HC1 x13_1 ?_ ?_ ?_; (first | assumption | decide); assumption; rintro ad ⟨⟩; intros)
            try (have H' := za h; clear h)
            go_wp2_with (first
              | ((with_reducible refine zq ?_); first | go_quiet (fail)))
          all_goals first
            | (first | (go_ret; exact ⟨rfl, by repeat (first | exact HB | exact Drawn0.refl _ | apply Drawn0.step)⟩))
            | (go_roundg k1
               case measure => have := HK1.out; omega
               case rel => exact ⟨_, rfl, H', ⟨by have := HK1.out; omega⟩, by repeat (first | exact HB | exact Drawn0.refl _ | apply Drawn0.step)⟩))

/-! ### style_SameFill: function 45 -/
def style_SameFill.f (k : Nat) (a0_0 : Int) (a0_1 : Int) (a0_2 : Int) (a0_3 : Int) (a0_4 : Int) (a0_5 : Int) (a0_6 : Int) (a0_7 : Int) (a0_8 : Int) (a0_9 : Int) (a0_10 : Int) (a0_11 : Int) (l0_12 : List (S80)) (a0_13 : Int) (a1_0 : Int) (a1_1 : Int) (a1_2 : Int) (a1_3 : Int) (a1_4 : Int) (a1_5 : Int) (a1_6 : Int) (a1_7 : Int) (a1_8 : Int) (a1_9 : Int) (a1_10 : Int) (a1_11 : Int) (l1_12 : List (S80)) (a1_13 : Int) : Option (Bool) := if a0_0 = a1_0 then (if (a0_1 == a1_1 && (a0_2 == a1_2 && (a0_3 == a1_3 && (a0_4 == a1_4)))) = true then (if (a0_5 == a1_5 && (a0_6 == a1_6 && (a0_7 == a1_7 && (a0_8 == a1_8 && (a0_9 == a1_9 && (a0_10 == a1_10)))))) = true then (if a0_11 = a1_11 then (if a0_13 = a1_13 then ((api_Stop.f k l0_12 l1_12).bind fun t199 => (some t199)) else (some false)) else (some false)) else (some false)) else (some false)) else (some false)
theorem style_SameFill.mono : ∀ a0 a1 a2 a3 a4 a5 a6 a7 a8 a9 a10 a11 a12 a13 a14 a15 a16 a17 a18 a19 a20 a21 a22 a23 a24 a25 a26 a27 k, LeO (style_SameFill.f k a0 a1 a2 a3 a4 a5 a6 a7 a8 a9 a10 a11 a12 a13 a14 a15 a16 a17 a18 a19 a20 a21 a22 a23 a24 a25 a26 a27) (style_SameFill.f (k + 1) a0 a1 a2 a3 a4 a5 a6 a7 a8 a9 a10 a11 a12 a13 a14 a15 a16 a17 a18 a19 a20 a21 a22 a23 a24 a25 a26 a27) := by
  intro a0 a1 a2 a3 a4 a5 a6 a7 a8 a9 a10 a11 a12 a13 a14 a15 a16 a17 a18 a19 a20 a21 a22 a23 a24 a25 a26 a27 k
  unfold style_SameFill.f
  repeat' first
      | with_reducible exact api_Stop.mono _ _ _
      | with_reducible exact LeO.refl _
      | with_reducible exact LeO.none _
      | with_reducible refine LeO.ite ?_ ?_
      | with_reducible refine LeO.bind ?_ (fun _ => ?_)
set_option maxHeartbeats 8000000 in
set_option maxRecDepth 100000 in
theorem style_SameFill.cn {a0_0 a0_1 a0_2 a0_3 a0_4 a0_5 a0_6 a0_7 a0_8 a0_9 a0_10 a0_11 a0_13 a1_0 a1_1 a1_2 a1_3 a1_4 a1_5 a1_6 a1_7 a1_8 a1_9 a1_10 a1_11 a1_13 : Int} {k : Nat} {A0_12 : Option Addr} {n0_12 c0_12 : Nat} {l0_12 : List (S80)} {A1_12 : Option Addr} {n1_12 c1_12 : Nat} {l1_12 : List (S80)} {r : Bool} {w : World} (h : style_SameFill.f k a0_0 a0_1 a0_2 a0_3 a0_4 a0_5 a0_6 a0_7 a0_8 a0_9 a0_10 a0_11 l0_12 a0_13 a1_0 a1_1 a1_2 a1_3 a1_4 a1_5 a1_6 a1_7 a1_8 a1_9 a1_10 a1_11 l1_12 a1_13 = some r) (hr0_12 : Kd.C k80 w A0_12 n0_12 l0_12) (hc0_12 : n0_12 ≤ c0_12) (hr1_12 : Kd.C k80 w A1_12 n1_12 l1_12) (hc1_12 : n1_12 ≤ c1_12) :
    Calls Try.prog 45 #[.agg #[.int .i64 a0_0, .int .i64 a0_1, .int .i64 a0_2, .int .i64 a0_3, .int .i64 a0_4, .int .i64 a0_5, .int .i64 a0_6, .int .i64 a0_7, .int .i64 a0_8, .int .i64 a0_9, .int .i64 a0_10, .int .i64 a0_11, .slice A0_12 n0_12 c0_12, .int .i64 a0_13], .agg #[.int .i64 a1_0, .int .i64 a1_1, .int .i64 a1_2, .int .i64 a1_3, .int .i64 a1_4, .int .i64 a1_5, .int .i64 a1_6, .int .i64 a1_7, .int .i64 a1_8, .int .i64 a1_9, .int .i64 a1_10, .int .i64 a1_11, .slice A1_12 n1_12 c1_12, .int .i64 a1_13]] w fun e w' => e = .returned (.bool r) ∧ Below w.heap.size w w' := by
  obtain rfl := hr0_12.1
  obtain rfl := hr1_12.1
  have HC0_12 := za hr0_12; have HL0_12 := za hc0_12; clear hr0_12 hc0_12
  have HC1_12 := za hr1_12; have HL1_12 := za hc1_12; clear hr1_12 hc1_12
  have hu23 := Try.underlying23
  have hu28 := Try.underlying28
  have hu31 := Try.underlying31
  unfold style_SameFill.f at h
  repeat' first
    | (with_reducible replace h := zs h)
    | (with_reducible replace h := zez h (by assumption) (by decide))
    | (with_reducible replace h := zb h; obtain ⟨t, A, h⟩ := h)
    | (with_reducible first | replace h := z1 h | replace h := z0 h | replace h := zep h (by assumption) | replace h := zen h (by assumption) | replace h := zcp h (by assumption) | replace h := zcn h (by assumption) | replace h := zbp h (by assumption) | replace h := zbn h (by assumption))
    | (with_reducible (first | replace h := zx h | replace h := zt h); obtain ⟨rfl, h⟩ | ⟨rfl, h⟩ := h)
    | (with_reducible (first | replace h := zd h | replace h := zl h | replace h := zm h); obtain ⟨c, h⟩ | ⟨c, h⟩ := h)
    | (with_reducible (first | replace h := ze h | replace h := zg h); obtain ⟨c, c', h⟩ | ⟨c, c', h⟩ := h)
    | (with_reducible replace h := zt h; obtain ⟨c, h⟩ | ⟨c, h⟩ := h)
    | (with_reducible replace h := Option.some.inj h; subst h)
    | (with_reducible exact (zn h).elim)
  all_goals
    try (have H' := za h; clear h)
    go_enter Try.func45, Try.ntmps45
    go_wp2_with (first
      | ((with_reducible refine zq ?_); first | go_quiet ((first | (go_at_call 71; refine Calls.quiet_of ((api_Stop.cn (by assumption : Aside0 _).out ?_ ?_ ?_ ?_).mono fun _ _ h => ⟨h.1, h.2.out⟩); (focus with_reducible first | exact znil | exact zC (by assumption)); (first | exact Nat.le_refl _ | exact (by assumption : Aside0 _).out); (focus with_reducible first | exact znil | exact zC (by assumption)); (first | exact Nat.le_refl _ | exact (by assumption : Aside0 _).out)))))
      | (go_at_call 71; refine (api_Stop.cn (by assumption : Aside0 _).out ?_ ?_ ?_ ?_).mono ?_; (focus with_reducible first | exact znil | exact zC (by assumption)); (first | exact Nat.le_refl _ | exact (by assumption : Aside0 _).out); (focus with_reducible first | exact znil | exact zC (by assumption)); (first | exact Nat.le_refl _ | exact (by assumption : Aside0 _).out); rintro e w' ⟨rfl, ⟨n, rfl⟩⟩))
  all_goals first
    | (go_ret; exact ⟨rfl, Bw.out⟩)

/-! ### field_RightMatrix: function 47 -/
def field_RightMatrix.f (k : Nat) (a0_0 : Int) (a0_1 : Int) (a0_2 : Int) (a0_3 : Int) (a0_4 : Int) (a0_5 : Int) : Option (Bool) := (field_within.f k (-4194304) 4194304 (([a0_0, a0_1, a0_2, a0_3] : List Int))).bind fun t204 => (if t204 = true then ((field_within.f k (-1048576) 1048576 (([a0_4, a0_5] : List Int))).bind fun t208 => (some t208)) else (some false))
theorem field_RightMatrix.mono : ∀ a0 a1 a2 a3 a4 a5 k, LeO (field_RightMatrix.f k a0 a1 a2 a3 a4 a5) (field_RightMatrix.f (k + 1) a0 a1 a2 a3 a4 a5) := by
  intro a0 a1 a2 a3 a4 a5 k
  unfold field_RightMatrix.f
  repeat' first
      | with_reducible exact field_within.mono _ _ _ _
      | with_reducible exact LeO.refl _
      | with_reducible exact LeO.none _
      | with_reducible refine LeO.ite ?_ ?_
      | with_reducible refine LeO.bind ?_ (fun _ => ?_)
set_option maxHeartbeats 8000000 in
set_option maxRecDepth 100000 in
theorem field_RightMatrix.cn {a0_0 a0_1 a0_2 a0_3 a0_4 a0_5 : Int} {k : Nat} {r : Bool} {w : World} (h : field_RightMatrix.f k a0_0 a0_1 a0_2 a0_3 a0_4 a0_5 = some r) :
    Calls Try.prog 47 #[.agg #[.int .i64 a0_0, .int .i64 a0_1, .int .i64 a0_2, .int .i64 a0_3, .int .i64 a0_4, .int .i64 a0_5]] w fun e w' => e = .returned (.bool r) ∧ Below w.heap.size w w' := by
  have hu28 := Try.underlying28
  unfold field_RightMatrix.f at h
  repeat' first
    | (with_reducible replace h := zs h)
    | (with_reducible replace h := zez h (by assumption) (by decide))
    | (with_reducible replace h := zb h; obtain ⟨t, A, h⟩ := h)
    | (with_reducible first | replace h := z1 h | replace h := z0 h | replace h := zep h (by assumption) | replace h := zen h (by assumption) | replace h := zcp h (by assumption) | replace h := zcn h (by assumption) | replace h := zbp h (by assumption) | replace h := zbn h (by assumption))
    | (with_reducible (first | replace h := zx h | replace h := zt h); obtain ⟨rfl, h⟩ | ⟨rfl, h⟩ := h)
    | (with_reducible (first | replace h := zd h | replace h := zl h | replace h := zm h); obtain ⟨c, h⟩ | ⟨c, h⟩ := h)
    | (with_reducible (first | replace h := ze h | replace h := zg h); obtain ⟨c, c', h⟩ | ⟨c, c', h⟩ := h)
    | (with_reducible replace h := zt h; obtain ⟨c, h⟩ | ⟨c, h⟩ := h)
    | (with_reducible replace h := Option.some.inj h; subst h)
    | (with_reducible exact (zn h).elim)
  all_goals
    try (have H' := za h; clear h)
    go_enter Try.func47, Try.ntmps47
    go_wp2_with (first
      | ((with_reducible refine zq ?_); first | go_quiet ((first | (go_at_call 44; refine Calls.quiet_of ((field_within.cn (by assumption : Aside0 _).out ?_ ?_).mono fun _ _ h => ⟨h.1, h.2.out⟩); (focus first | with_reducible exact zC (by assumption) | (with_reducible first | refine zlit1 (t := 3) ?_ | refine zlit2 (t := 3) ?_ | refine zlit3 (t := 3) ?_ | refine zlit4 (t := 3) ?_ | refine zlit6 (t := 3) ?_); ((with_reducible repeat (first | exact (by assumption : Aside0 _).out | (focus (refine znew ?_; simp only [World.size_alloc, World.heap_drewN, heap_drew]; done)) | refine blk_alloc ?_ _ | refine blk_drewN ?_ _ | refine blk_drew ?_ | refine blk_below ?_ Bs.out | apply zput | (refine zfar ?_ ?_; (focus omega)))) <;> rfl); done); (first | exact Nat.le_refl _ | exact (by assumption : Aside0 _).out)))))
      | (go_at_call 44; refine (field_within.cn (by assumption : Aside0 _).out ?_ ?_).mono ?_; (focus first | with_reducible exact zC (by assumption) | (with_reducible first | refine zlit1 (t := 3) ?_ | refine zlit2 (t := 3) ?_ | refine zlit3 (t := 3) ?_ | refine zlit4 (t := 3) ?_ | refine zlit6 (t := 3) ?_); ((with_reducible repeat (first | exact (by assumption : Aside0 _).out | (focus (refine znew ?_; simp only [World.size_alloc, World.heap_drewN, heap_drew]; done)) | refine blk_alloc ?_ _ | refine blk_drewN ?_ _ | refine blk_drew ?_ | refine blk_below ?_ Bs.out | apply zput | (refine zfar ?_ ?_; (focus omega)))) <;> rfl); done); (first | exact Nat.le_refl _ | exact (by assumption : Aside0 _).out); rintro e w' ⟨rfl, ⟨n, rfl⟩⟩))
  all_goals first
    | (go_ret; exact ⟨rfl, Bw.out⟩)
theorem field_RightMatrix.calls (k : Nat) (a0_0 : Int) (a0_1 : Int) (a0_2 : Int) (a0_3 : Int) (a0_4 : Int) (a0_5 : Int) (r : Bool) (w : World) (h : field_RightMatrix.f k a0_0 a0_1 a0_2 a0_3 a0_4 a0_5 = some r) :
    Calls Try.prog 47 #[.agg #[.int .i64 a0_0, .int .i64 a0_1, .int .i64 a0_2, .int .i64 a0_3, .int .i64 a0_4, .int .i64 a0_5]] w fun e w' => e = .returned (.bool r) ∧ Below w.heap.size w w' := field_RightMatrix.cn h

/-! ### style_gradient: function 48 -/
def style_gradient.f (a0 : Int) : Option (Bool) := if a0 = 16 then (some true) else (some (a0 == 18))

set_option maxHeartbeats 8000000 in
set_option maxRecDepth 100000 in
theorem style_gradient.cn {a0 : Int} {r : Bool} {w : World} (h : style_gradient.f a0 = some r) :
    Calls Try.prog 48 #[.int .i64 a0] w fun e w' => e = .returned (.bool r) ∧ Drawn0 w w' := by
  have HB := Drawn0.refl w
  unfold style_gradient.f at h
  repeat' first
    | (with_reducible replace h := zs h)
    | (with_reducible replace h := zez h (by assumption) (by decide))
    | (with_reducible replace h := zb h; obtain ⟨t, A, h⟩ := h)
    | (with_reducible first | replace h := z1 h | replace h := z0 h | replace h := zep h (by assumption) | replace h := zen h (by assumption) | replace h := zcp h (by assumption) | replace h := zcn h (by assumption) | replace h := zbp h (by assumption) | replace h := zbn h (by assumption))
    | (with_reducible (first | replace h := zx h | replace h := zt h); obtain ⟨rfl, h⟩ | ⟨rfl, h⟩ := h)
    | (with_reducible (first | replace h := zd h | replace h := zl h | replace h := zm h); obtain ⟨c, h⟩ | ⟨c, h⟩ := h)
    | (with_reducible (first | replace h := ze h | replace h := zg h); obtain ⟨c, c', h⟩ | ⟨c, c', h⟩ := h)
    | (with_reducible replace h := zt h; obtain ⟨c, h⟩ | ⟨c, h⟩ := h)
    | (with_reducible replace h := Option.some.inj h; subst h)
    | (with_reducible exact (zn h).elim)
  all_goals
    try (have H' := za h; clear h)
    go_enter Try.func48, Try.ntmps48
    go_wp2_with (first
      | ((with_reducible refine zq ?_); first | go_quiet (fail)))
  all_goals first
    | (first | (go_ret; exact ⟨rfl, by repeat (first | exact HB | exact Drawn0.refl _ | apply Drawn0.step)⟩))

/-! ### style_picture: function 46 -/
def style_picture.f (a0 : Int) : Option (Bool) := if a0 = 64 then (some true) else (some (a0 == 65))

set_option maxHeartbeats 8000000 in
set_option maxRecDepth 100000 in
theorem style_picture.cn {a0 : Int} {r : Bool} {w : World} (h : style_picture.f a0 = some r) :
    Calls Try.prog 46 #[.int .i64 a0] w fun e w' => e = .returned (.bool r) ∧ Drawn0 w w' := by
  have HB := Drawn0.refl w
  unfold style_picture.f at h
  repeat' first
    | (with_reducible replace h := zs h)
    | (with_reducible replace h := zez h (by assumption) (by decide))
    | (with_reducible replace h := zb h; obtain ⟨t, A, h⟩ := h)
    | (with_reducible first | replace h := z1 h | replace h := z0 h | replace h := zep h (by assumption) | replace h := zen h (by assumption) | replace h := zcp h (by assumption) | replace h := zcn h (by assumption) | replace h := zbp h (by assumption) | replace h := zbn h (by assumption))
    | (with_reducible (first | replace h := zx h | replace h := zt h); obtain ⟨rfl, h⟩ | ⟨rfl, h⟩ := h)
    | (with_reducible (first | replace h := zd h | replace h := zl h | replace h := zm h); obtain ⟨c, h⟩ | ⟨c, h⟩ := h)
    | (with_reducible (first | replace h := ze h | replace h := zg h); obtain ⟨c, c', h⟩ | ⟨c, c', h⟩ := h)
    | (with_reducible replace h := zt h; obtain ⟨c, h⟩ | ⟨c, h⟩ := h)
    | (with_reducible replace h := Option.some.inj h; subst h)
    | (with_reducible exact (zn h).elim)
  all_goals
    try (have H' := za h; clear h)
    go_enter Try.func46, Try.ntmps46
    go_wp2_with (first
      | ((with_reducible refine zq ?_); first | go_quiet (fail)))
  all_goals first
    | (first | (go_ret; exact ⟨rfl, by repeat (first | exact HB | exact Drawn0.refl _ | apply Drawn0.step)⟩))

/-! ### style_stop: function 49 -/
def style_stop.f (k : Nat) (a0_0 : Int) (a0_1 : Int) (a0_2 : Int) (a0_3 : Int) (a0_4 : Int) (a1 : Int) : Option (Bool) := if a0_0 ≥ a1 then (if a0_0 ≤ 255 then ((field_RightRGBA.f k a0_1 a0_2 a0_3 a0_4).bind fun t210 => (some t210)) else (some false)) else (some false)
theorem style_stop.mono : ∀ a0 a1 a2 a3 a4 a5 k, LeO (style_stop.f k a0 a1 a2 a3 a4 a5) (style_stop.f (k + 1) a0 a1 a2 a3 a4 a5) := by
  intro a0 a1 a2 a3 a4 a5 k
  unfold style_stop.f
  repeat' first
      | with_reducible exact field_RightRGBA.mono _ _ _ _ _
      | with_reducible exact LeO.refl _
      | with_reducible exact LeO.none _
      | with_reducible refine LeO.ite ?_ ?_
      | with_reducible refine LeO.bind ?_ (fun _ => ?_)
set_option maxHeartbeats 8000000 in
set_option maxRecDepth 100000 in
theorem style_stop.cn {a0_0 a0_1 a0_2 a0_3 a0_4 a1 : Int} {k : Nat} {r : Bool} {w : World} (h : style_stop.f k a0_0 a0_1 a0_2 a0_3 a0_4 a1 = some r) :
    Calls Try.prog 49 #[.agg #[.int .i64 a0_0, .int .i64 a0_1, .int .i64 a0_2, .int .i64 a0_3, .int .i64 a0_4], .int .i64 a1] w fun e w' => e = .returned (.bool r) ∧ Below w.heap.size w w' := by
  have hu23 := Try.underlying23
  have hu80 := Try.underlying80
  unfold style_stop.f at h
  repeat' first
    | (with_reducible replace h := zs h)
    | (with_reducible replace h := zez h (by assumption) (by decide))
    | (with_reducible replace h := zb h; obtain ⟨t, A, h⟩ := h)
    | (with_reducible first | replace h := z1 h | replace h := z0 h | replace h := zep h (by assumption) | replace h := zen h (by assumption) | replace h := zcp h (by assumption) | replace h := zcn h (by assumption) | replace h := zbp h (by assumption) | replace h := zbn h (by assumption))
    | (with_reducible (first | replace h := zx h | replace h := zt h); obtain ⟨rfl, h⟩ | ⟨rfl, h⟩ := h)
    | (with_reducible (first | replace h := zd h | replace h := zl h | replace h := zm h); obtain ⟨c, h⟩ | ⟨c, h⟩ := h)
    | (with_reducible (first | replace h := ze h | replace h := zg h); obtain ⟨c, c', h⟩ | ⟨c, c', h⟩ := h)
    | (with_reducible replace h := zt h; obtain ⟨c, h⟩ | ⟨c, h⟩ := h)
    | (with_reducible replace h := Option.some.inj h; subst h)
    | (with_reducible exact (zn h).elim)
  all_goals
    try (have H' := za h; clear h)
    go_enter Try.func49, Try.ntmps49
    go_wp2_with (first
      | ((with_reducible refine zq ?_); first | go_quiet (fail))
      | (go_at_call 24; refine (field_RightRGBA.cn (by assumption : Aside0 _).out).mono ?_; rintro e w' ⟨rfl, hb⟩; (with_reducible first | replace hb := zkd hb | replace hb := zkn hb | replace hb := zk hb); obtain ⟨hb, hc, hf⟩ := hb; have hy := zy w w'; simp only [zL, Nat.add_zero] at hy))
  all_goals first
    | (go_ret; exact ⟨rfl, Bw.out⟩)

/-! ### style_RightFill: function 28 -/
def style_RightFill.l0 : Nat → Int → List (S80) → Int → Int → Int → Int → Int → Int → Int → Int → Int → Int → Int → Int → Int → Int → List (S80) → Int → Option (Bool)
  | 0, _, _, _, _, _, _, _, _, _, _, _, _, _, _, _, _, _, _ => none
  | k + 1, x3, x68, x69, x70, x212000, x212001, x212002, x212003, x212004, x212005, x212006, x212007, x212008, x212009, x212010, x212011, x212012, x212013 => if x70 < x69 then (if 0 ≤ x70 then (if x70 < (x68.length : Int) then ((style_stop.f k ((rd_T80 x68 x70).f0) ((rd_T80 x68 x70).f1.f0) ((rd_T80 x68 x70).f1.f1) ((rd_T80 x68 x70).f1.f2) ((rd_T80 x68 x70).f1.f3) x3).bind fun t221 => (if t221 = true then (style_RightFill.l0 k ((rd_T80 x68 x70).f0) x68 x69 (wrap64 (x70 + 1)) x212000 x212001 x212002 x212003 x212004 x212005 x212006 x212007 x212008 x212009 x212010 x212011 x212012 x212013) else (some false))) else (none)) else (none)) else ((field_RightMatrix.f k x212005 x212006 x212007 x212008 x212009 x212010).bind fun t222 => (if t222 = true then (if x212011 ≥ 0 then (if x212011 ≤ 2 then (if (x212012.length : Int) ≥ 1 then (some (decide ((x212012.length : Int) ≤ 8))) else (some false)) else (some false)) else (some false)) else (some false)))
def style_RightFill.f (k : Nat) (a0_0 : Int) (a0_1 : Int) (a0_2 : Int) (a0_3 : Int) (a0_4 : Int) (a0_5 : Int) (a0_6 : Int) (a0_7 : Int) (a0_8 : Int) (a0_9 : Int) (a0_10 : Int) (a0_11 : Int) (l0_12 : List (S80)) (a0_13 : Int) : Option (Bool) := if a0_0 = 0 then ((field_RightRGBA.f k a0_1 a0_2 a0_3 a0_4).bind fun t212 => (if t212 = true then ((style_SameFill.f k a0_0 a0_1 a0_2 a0_3 a0_4 a0_5 a0_6 a0_7 a0_8 a0_9 a0_10 a0_11 l0_12 a0_13 0 a0_1 a0_2 a0_3 a0_4 0 0 0 0 0 0 0 ([] : List (S80)) 0).bind fun t213 => (some t213)) else (some false))) else ((style_picture.f a0_0).bind fun t214 => (if t214 = true then ((field_RightMatrix.f k a0_5 a0_6 a0_7 a0_8 a0_9 a0_10).bind fun t215 => (if t215 = true then (if a0_13 ≥ 0 then (if a0_13 < 65536 then ((style_SameFill.f k a0_0 a0_1 a0_2 a0_3 a0_4 a0_5 a0_6 a0_7 a0_8 a0_9 a0_10 a0_11 l0_12 a0_13 a0_0 0 0 0 0 a0_5 a0_6 a0_7 a0_8 a0_9 a0_10 0 ([] : List (S80)) a0_13).bind fun t216 => (some t216)) else (some false)) else (some false)) else (some false))) else ((style_gradient.f a0_0).bind fun t217 => (if t217 = true then ((style_SameFill.f k a0_0 a0_1 a0_2 a0_3 a0_4 a0_5 a0_6 a0_7 a0_8 a0_9 a0_10 a0_11 l0_12 a0_13 a0_0 0 0 0 0 a0_5 a0_6 a0_7 a0_8 a0_9 a0_10 a0_11 l0_12 0).bind fun t218 => (if t218 = true then (style_RightFill.l0 k 0 l0_12 (l0_12.length : Int) 0 a0_0 a0_1 a0_2 a0_3 a0_4 a0_5 a0_6 a0_7 a0_8 a0_9 a0_10 a0_11 l0_12 a0_13) else (some false))) else (some false)))))
theorem style_RightFill.mono_l : ∀ k, (∀ y0 y1 y2 y3 y4 y5 y6 y7 y8 y9 y10 y11 y12 y13 y14 y15 y16 y17, LeO (style_RightFill.l0 k y0 y1 y2 y3 y4 y5 y6 y7 y8 y9 y10 y11 y12 y13 y14 y15 y16 y17) (style_RightFill.l0 (k + 1) y0 y1 y2 y3 y4 y5 y6 y7 y8 y9 y10 y11 y12 y13 y14 y15 y16 y17))
  | 0 => fun _ _ _ _ _ _ _ _ _ _ _ _ _ _ _ _ _ _ r h => by simp [style_RightFill.l0] at h
  | k + 1 => by
    have ih0 := style_RightFill.mono_l k
    · intro y0 y1 y2 y3 y4 y5 y6 y7 y8 y9 y10 y11 y12 y13 y14 y15 y16 y17
      unfold style_RightFill.l0
      repeat' first
      | with_reducible exact ih0 _ _ _ _ _ _ _ _ _ _ _ _ _ _ _ _ _ _
      | with_reducible exact field_RightMatrix.mono _ _ _ _ _ _ _
      | with_reducible exact field_RightRGBA.mono _ _ _ _ _
      | with_reducible exact style_SameFill.mono _ _ _ _ _ _ _ _ _ _ _ _ _ _ _ _ _ _ _ _ _ _ _ _ _ _ _ _ _
      | with_reducible exact style_stop.mono _ _ _ _ _ _ _
      | with_reducible exact LeO.refl _
      | with_reducible exact LeO.none _
      | with_reducible refine LeO.ite ?_ ?_
      | with_reducible refine LeO.bind ?_ (fun _ => ?_)
theorem style_RightFill.mono : ∀ a0 a1 a2 a3 a4 a5 a6 a7 a8 a9 a10 a11 a12 a13 k, LeO (style_RightFill.f k a0 a1 a2 a3 a4 a5 a6 a7 a8 a9 a10 a11 a12 a13) (style_RightFill.f (k + 1) a0 a1 a2 a3 a4 a5 a6 a7 a8 a9 a10 a11 a12 a13) := by
  intro a0 a1 a2 a3 a4 a5 a6 a7 a8 a9 a10 a11 a12 a13 k
  have ih0 := style_RightFill.mono_l k
  unfold style_RightFill.f
  repeat' first
      | with_reducible exact ih0 _ _ _ _ _ _ _ _ _ _ _ _ _ _ _ _ _ _
      | with_reducible exact field_RightMatrix.mono _ _ _ _ _ _ _
      | with_reducible exact field_RightRGBA.mono _ _ _ _ _
      | with_reducible exact style_SameFill.mono _ _ _ _ _ _ _ _ _ _ _ _ _ _ _ _ _ _ _ _ _ _ _ _ _ _ _ _ _
      | with_reducible exact style_stop.mono _ _ _ _ _ _ _
      | with_reducible exact LeO.refl _
      | with_reducible exact LeO.none _
      | with_reducible refine LeO.ite ?_ ?_
      | with_reducible refine LeO.bind ?_ (fun _ => ?_)
set_option maxHeartbeats 8000000 in
set_option maxRecDepth 100000 in
theorem style_RightFill.cn {a0_0 a0_1 a0_2 a0_3 a0_4 a0_5 a0_6 a0_7 a0_8 a0_9 a0_10 a0_11 a0_13 : Int} {k : Nat} {A0_12 : Option Addr} {n0_12 c0_12 : Nat} {l0_12 : List (S80)} {r : Bool} {w : World} (h : style_RightFill.f k a0_0 a0_1 a0_2 a0_3 a0_4 a0_5 a0_6 a0_7 a0_8 a0_9 a0_10 a0_11 l0_12 a0_13 = some r) (hr0_12 : Kd.C k80 w A0_12 n0_12 l0_12) (hc0_12 : n0_12 ≤ c0_12) :
    Calls Try.prog 28 #[.agg #[.int .i64 a0_0, .int .i64 a0_1, .int .i64 a0_2, .int .i64 a0_3, .int .i64 a0_4, .int .i64 a0_5, .int .i64 a0_6, .int .i64 a0_7, .int .i64 a0_8, .int .i64 a0_9, .int .i64 a0_10, .int .i64 a0_11, .slice A0_12 n0_12 c0_12, .int .i64 a0_13]] w fun e w' => e = .returned (.bool r) ∧ Below w.heap.size w w' := by
  obtain rfl := hr0_12.1
  have HC0_12 := za hr0_12; have HL0_12 := za hc0_12; clear hr0_12 hc0_12
  have hu23 := Try.underlying23
  have hu28 := Try.underlying28
  have hu31 := Try.underlying31
  have hu80 := Try.underlying80
  unfold style_RightFill.f at h
  repeat' first
    | (with_reducible replace h := zs h)
    | (with_reducible replace h := zez h (by assumption) (by decide))
    | (with_reducible replace h := zb h; obtain ⟨t, A, h⟩ := h)
    | (with_reducible first | replace h := z1 h | replace h := z0 h | replace h := zep h (by assumption) | replace h := zen h (by assumption) | replace h := zcp h (by assumption) | replace h := zcn h (by assumption) | replace h := zbp h (by assumption) | replace h := zbn h (by assumption))
    | (with_reducible (first | replace h := zx h | replace h := zt h); obtain ⟨rfl, h⟩ | ⟨rfl, h⟩ := h)
    | (with_reducible (first | replace h := zd h | replace h := zl h | replace h := zm h); obtain ⟨c, h⟩ | ⟨c, h⟩ := h)
    | (with_reducible (first | replace h := ze h | replace h := zg h); obtain ⟨c, c', h⟩ | ⟨c, c', h⟩ := h)
    | (with_reducible replace h := zt h; obtain ⟨c, h⟩ | ⟨c, h⟩ := h)
    | (with_reducible replace h := Option.some.inj h; subst h)
    | (with_reducible exact (zn h).elim)
  all_goals
    try (have H' := za h; clear h)
    go_enter Try.func28, Try.ntmps28
    go_wp2_with (first
      | ((with_reducible refine zq ?_); first | go_quiet ((first | (go_at_call 48; refine Calls.quiet_of ((style_gradient.cn (by assumption : Aside0 _).out).mono fun _ _ h => ⟨h.1, h.2.out⟩)) | (go_at_call 46; refine Calls.quiet_of ((style_picture.cn (by assumption : Aside0 _).out).mono fun _ _ h => ⟨h.1, h.2.out⟩)))))
      | (go_at_call 47; refine (field_RightMatrix.cn (by assumption : Aside0 _).out).mono ?_; rintro e w' ⟨rfl, hb⟩; (with_reducible first | replace hb := zkd hb | replace hb := zkn hb | replace hb := zk hb); obtain ⟨hb, hc, hf⟩ := hb; have hy := zy w w'; simp only [zL, Nat.add_zero] at hy)
      | (go_at_call 24; refine (field_RightRGBA.cn (by assumption : Aside0 _).out).mono ?_; rintro e w' ⟨rfl, hb⟩; (with_reducible first | replace hb := zkd hb | replace hb := zkn hb | replace hb := zk hb); obtain ⟨hb, hc, hf⟩ := hb; have hy := zy w w'; simp only [zL, Nat.add_zero] at hy)
      | (go_at_call 45; refine (style_SameFill.cn (by assumption : Aside0 _).out ?_ ?_ ?_ ?_).mono ?_; (focus with_reducible first | exact znil | exact zC (by assumption)); (first | exact Nat.le_refl _ | exact (by assumption : Aside0 _).out); (focus with_reducible first | exact znil | exact zC (by assumption)); (first | exact Nat.le_refl _ | exact (by assumption : Aside0 _).out); rintro e w' ⟨rfl, hb⟩; (with_reducible first | replace hb := zkd hb | replace hb := zkn hb | replace hb := zk hb); obtain ⟨hb, hc, hf⟩ := hb; have hy := zy w w'; simp only [zL, Nat.add_zero] at hy)
      | (go_at_call 48; refine (style_gradient.cn (by assumption : Aside0 _).out).mono ?_; rintro e w' ⟨rfl, ⟨n, rfl⟩⟩)
      | (go_at_call 46; refine (style_picture.cn (by assumption : Aside0 _).out).mono ?_; rintro e w' ⟨rfl, ⟨n, rfl⟩⟩)
      | (go_at_call 49; refine (style_stop.cn (by assumption : Aside0 _).out).mono ?_; rintro e w' ⟨rfl, hb⟩; (with_reducible first | replace hb := zkd hb | replace hb := zkn hb | replace hb := zk hb); obtain ⟨hb, hc, hf⟩ := hb; have hy := zy w w'; simp only [zL, Nat.add_zero] at hy))
  all_goals first
    | (go_ret; exact ⟨rfl, Bw.out⟩)
    | (go_loopg [3, 70] k (fun kq v3 v70 w' => ∃ (x3_1 : Int) (x70_1 : Int), v3 = .int .i64 x3_1 ∧ v70 = .int .i64 x70_1 ∧ Aside0 (style_RightFill.l0 kq x3_1 l0_12 (l0_12.length : Int) x70_1 a0_0 a0_1 a0_2 a0_3 a0_4 a0_5 a0_6 a0_7 a0_8 a0_9 a0_10 a0_11 l0_12 a0_13 = some r) ∧ Aside0 (kq ≤ k) ∧ Aside0 (w'.heap[w.heap.size]? = some (.cells #[.int .i64 a0_0, .int .i64 a0_1, .int .i64 a0_2, .int .i64 a0_3, .int .i64 a0_4, .int .i64 a0_5, .int .i64 a0_6, .int .i64 a0_7, .int .i64 a0_8, .int .i64 a0_9, .int .i64 a0_10, .int .i64 a0_11, (.slice A0_12 l0_12.length c0_12), .int .i64 a0_13] 31 (0, 0))) ∧ Aside0 (Below w.heap.size w w'))
       case atStart => exact ⟨_, _, rfl, rfl, H', ⟨Nat.le_refl _⟩, ⟨by (with_reducible repeat (first | exact (by assumption : Aside0 _).out | (focus (refine znew ?_; simp only [World.size_alloc, World.heap_drewN, heap_drew]; done)) | refine blk_alloc ?_ _ | refine blk_drewN ?_ _ | refine blk_drew ?_ | refine blk_below ?_ Bs.out | apply zput | (refine zfar ?_ ?_; (focus omega)))) <;> rfl⟩, ⟨Bw.out⟩⟩
       case round =>
        obtain ⟨x3_1, x70_1, rfl, rfl, HA, HK1, BK0, HB⟩ := hrel
        have HB := Bw.mk HB.out; clear H'
        cases gk with
        | zero => exact absurd HA.out (by simp [style_RightFill.l0])
        | succ k1 =>
          have h := HA.out; clear HA; simp only [style_RightFill.l0] at h
          repeat' first
            | (with_reducible replace h := zs h)
            | (with_reducible replace h := zez h (by assumption) (by decide))
            | (with_reducible replace h := zb h; obtain ⟨t, A, h⟩ := h)
            | (with_reducible first | replace h := z1 h | replace h := z0 h | replace h := zep h (by assumption) | replace h := zen h (by assumption) | replace h := zcp h (by assumption) | replace h := zcn h (by assumption) | replace h := zbp h (by assumption) | replace h := zbn h (by assumption))
            | (with_reducible (first | replace h := zx h | replace h := zt h); obtain ⟨rfl, h⟩ | ⟨rfl, h⟩ := h)
            | (with_reducible (first | replace h := zd h | replace h := zl h | replace h := zm h); obtain ⟨c, h⟩ | ⟨c, h⟩ := h)
            | (with_reducible (first | replace h := ze h | replace h := zg h); obtain ⟨c, c', h⟩ | ⟨c, c', h⟩ := h)
            | (with_reducible replace h := zt h; obtain ⟨c, h⟩ | ⟨c, h⟩ := h)
            | (with_reducible replace h := Option.some.inj h; subst h)
            | (with_reducible exact (zn h).elim)
          all_goals
            obtain ⟨hc0, hf0, hz0⟩ := zo BK0.out
            have HN : Lw w wr 1 := ⟨by have := blk_lt BK0.out; omega⟩
            try (refine zat80 (W := wr) HC0_12 x70_1 ?_ ?_ ?_; (first | assumption | decide); assumption; rintro ad ⟨⟩; intros)
            try (have H' := za h; clear h)
            go_wp2_with (first
              | ((with_reducible refine zq ?_); first | go_quiet ((first | (go_at_call 48; refine Calls.quiet_of ((style_gradient.cn (by assumption : Aside0 _).out).mono fun _ _ h => ⟨h.1, h.2.out⟩)) | (go_at_call 46; refine Calls.quiet_of ((style_picture.cn (by assumption : Aside0 _).out).mono fun _ _ h => ⟨h.1, h.2.out⟩)))))
              | (go_at_call 47; refine (field_RightMatrix.cn (by assumption : Aside0 _).out).mono ?_; rintro e w' ⟨rfl, hb⟩; (with_reducible first | replace hb := zkd hb | replace hb := zkn hb | replace hb := zk hb); obtain ⟨hb, hc, hf⟩ := hb; have hy := zy w w'; simp only [zL, Nat.add_zero] at hy; have hy := zy wr w'; simp only [zL, Nat.add_zero] at hy)
              | (go_at_call 24; refine (field_RightRGBA.cn (by assumption : Aside0 _).out).mono ?_; rintro e w' ⟨rfl, hb⟩; (with_reducible first | replace hb := zkd hb | replace hb := zkn hb | replace hb := zk hb); obtain ⟨hb, hc, hf⟩ := hb; have hy := zy w w'; simp only [zL, Nat.add_zero] at hy; have hy := zy wr w'; simp only [zL, Nat.add_zero] at hy)
              | (go_at_call 45; refine (style_SameFill.cn (by assumption : Aside0 _).out ?_ ?_ ?_ ?_).mono ?_; (focus with_reducible first | exact znil | exact zC (by assumption)); (first | exact Nat.le_refl _ | exact (by assumption : Aside0 _).out); (focus with_reducible first | exact znil | exact zC (by assumption)); (first | exact Nat.le_refl _ | exact (by assumption : Aside0 _).out); rintro e w' ⟨rfl, hb⟩; (with_reducible first | replace hb := zkd hb | replace hb := zkn hb | replace hb := zk hb); obtain ⟨hb, hc, hf⟩ := hb; have hy := zy w w'; simp only [zL, Nat.add_zero] at hy; have hy := zy wr w'; simp only [zL, Nat.add_zero] at hy)
              | (go_at_call 48; refine (style_gradient.cn (by assumption : Aside0 _).out).mono ?_; rintro e w' ⟨rfl, ⟨n, rfl⟩⟩)
              | (go_at_call 46; refine (style_picture.cn (by assumption : Aside0 _).out).mono ?_; rintro e w' ⟨rfl, ⟨n, rfl⟩⟩)
              | (go_at_call 49; refine (style_stop.cn (by assumption : Aside0 _).out).mono ?_; rintro e w' ⟨rfl, hb⟩; (with_reducible first | replace hb := zkd hb | replace hb := zkn hb | replace hb := zk hb); obtain ⟨hb, hc, hf⟩ := hb; have hy := zy w w'; simp only [zL, Nat.add_zero] at hy; have hy := zy wr w'; simp only [zL, Nat.add_zero] at hy))
          all_goals first
            | (go_ret; exact ⟨rfl, Bw.out⟩)
            | (go_roundg k1
               case measure => have := HK1.out; omega
               case rel => exact ⟨_, _, rfl, rfl, H', ⟨by have := HK1.out; omega⟩, ⟨by (with_reducible repeat (first | exact (by assumption : Aside0 _).out | (focus (refine znew ?_; simp only [World.size_alloc, World.heap_drewN, heap_drew]; done)) | refine blk_alloc ?_ _ | refine blk_drewN ?_ _ | refine blk_drew ?_ | refine blk_below ?_ Bs.out | apply zput | (refine zfar ?_ ?_; (focus omega)))) <;> rfl⟩, ⟨Bw.out⟩⟩))

end Go.Proofs.Ytmdfcinjmlagcaa.P
