/- Walks by cw.py (wip/tool): plain functions that tell what the program answers, and the proofs that the program comes to these answers, for all arguments of their kinds. -/
import Derived.Test.YtmdfcinjmlagcaaCx5
namespace Go.Proofs.Ytmdfcinjmlagcaa.P
open Go.RowKit Go.Proofs.YtmdfcinjmlagcaaW.PrintWords Go.Proofs.YtmdfcinjmlagcaaW.PrintLast Go.Proofs.YtmdfcinjmlagcaaW.PrintMore
attribute [local go_sem] max2_int min2_int max_two min_two max_three min_three max_four min_four max_five min_five max_six min_six
set_option linter.unusedVariables false
set_option linter.unusedSimpArgs false

/-! ### ramp_Line: function 54 -/
def ramp_Line.f (a0_0 : Int) (a0_1 : Int) : Option (Int) := some (((mn (mx a0_0 (-1073741824)) 1073741824) + 16384) / 128)
set_option maxHeartbeats 8000000 in
set_option maxRecDepth 100000 in
theorem ramp_Line.calls (a0_0 : Int) (a0_1 : Int) (r : Int) (w : World) (h : ramp_Line.f a0_0 a0_1 = some r) :
    Calls Try.prog 54 #[.agg #[.int .i64 a0_0, .int .i64 a0_1]] w fun e w' => e = .returned (.int .i64 r) ∧ Below w.heap.size w w' := by
  have hu37 := Try.underlying37
  have HB := Aside0.mk (Below.refl w.heap.size w)
  have H : (some (((mn (mx a0_0 (-1073741824)) 1073741824) + 16384) / 128)) = some r := h
  clear h
  obtain ⟨ji2, hji2⟩ : ∃ j_ : Int, (mx a0_0 (-1073741824)) = j_ := ⟨_, rfl⟩
  replace H : (some (((mn (ji2) 1073741824) + 16384) / 128)) = some r := by first | (rw [hji2] at H; exact H) | (simp only [hji2] at H ⊢; exact H)
  have hji2_ : (if a0_0 < (-1073741824) then (-1073741824) else a0_0) = ji2 := hji2
  obtain ⟨ji3, hji3⟩ : ∃ j_ : Int, (mn (ji2) 1073741824) = j_ := ⟨_, rfl⟩
  replace H : (some (((ji3) + 16384) / 128)) = some r := by first | (rw [hji3] at H; exact H) | (simp only [hji3] at H ⊢; exact H)
  have hji3_ : (if 1073741824 < (ji2) then 1073741824 else (ji2)) = ji3 := hji3
  obtain rfl := Option.some.inj H
  go_enter Try.func54, Try.ntmps54
  go_wp2_with (first | ((with_reducible refine gate_dst (N := 1) rfl ?_); refine box_event ?hg (N := 1) ?hd (cs := #[.int .i64 a0_0, .int .i64 a0_1]) (t := 37) ?hr ?_; (case hd => rfl); (case hg => rfl); (case hr => first | (go_simp; done) | (go_simp; rfl)); intro gb271 hg w4 hbox hb; have n0_ := Aside0.mk (below_step (by repeat (first | (with_reducible first | exact HB.out | apply below_alloc | apply pw_below_drewN | apply below_drew1) | exact HB.out)) hb); have n1_ := Aside0.mk (hbox); have n2_ := Aside0.mk ((by rw [hg]; exact (below_size (by repeat (first | (with_reducible first | exact HB.out | apply below_alloc | apply pw_below_drewN | apply below_drew1) | exact HB.out))) : w.heap.size ≤ gb271)); have n3_ := Aside0.mk ((by rw [hg]; exact (below_size (by repeat (first | (with_reducible first | exact HB.out | apply below_alloc | apply pw_below_drewN | apply below_drew1) | exact HB.out))) : w.heap.size ≤ gb271)); clear HB; have HB := n0_; have BK271 := n1_; have GW271 := n2_; have GE271 := n3_; clear n0_ n1_ n2_ n3_; clear hb hbox hg; have hcz5_0 : w4.cell? ⟨gb271, 0, none⟩ = some (.int .i64 a0_0) := (blk_cell BK271.out 0).trans rfl; have hcz5_1 : w4.cell? ⟨gb271, 1, none⟩ = some (.int .i64 a0_1) := (blk_cell BK271.out 1).trans rfl; have hfz5_0 := blk_frozen BK271.out 0; have hfz5_1 := blk_frozen BK271.out 1))
  go_ret
  exact ⟨by first | rfl | (simp [errW_none, errW_some] <;> rfl) | (simp only [← hji2, ← hji3]; first | rfl | (simp [errW_none, errW_some] <;> rfl)) | (simp [*, errW_none, errW_some] <;> rfl), by repeat (first | (with_reducible first | exact HB.out | apply below_alloc | apply pw_below_drewN | apply below_drew1 | refine below_set ?_ GE271.out) | exact HB.out)⟩
theorem ramp_Line.cn {a0_0 a0_1 r : Int} {w : World} (h : ramp_Line.f a0_0 a0_1 = some r) :
    Calls Try.prog 54 #[.agg #[.int .i64 a0_0, .int .i64 a0_1]] w fun e w' => e = .returned (.int .i64 r) ∧ Below w.heap.size w w' := by
  apply ramp_Line.calls <;> assumption

/-! ### ramp_Circle: function 55 -/
def ramp_Circle.f (k : Nat) (a0_0 : Int) (a0_1 : Int) : Option (Int) := (fix_Root.f k (wrap64 ((wrap64 ((mn (mx a0_0 (-1073741824)) 1073741824) * (mn (mx a0_0 (-1073741824)) 1073741824))) + (wrap64 ((mn (mx a0_1 (-1073741824)) 1073741824) * (mn (mx a0_1 (-1073741824)) 1073741824)))))).bind fun t274 => (some (wrap64 (Int.tdiv t274 64)))
theorem ramp_Circle.mono : ∀ a0 a1 k, LeO (ramp_Circle.f k a0 a1) (ramp_Circle.f (k + 1) a0 a1) := by
  intro a0 a1 k
  unfold ramp_Circle.f
  repeat' first
      | with_reducible exact fix_Root.mono _ _
      | with_reducible exact LeO.refl _
      | with_reducible exact LeO.none _
      | with_reducible refine LeO.ite ?_ ?_
      | with_reducible refine LeO.bind ?_ (fun _ => ?_)
set_option maxHeartbeats 8000000 in
set_option maxRecDepth 100000 in
theorem ramp_Circle.cn {a0_0 a0_1 r : Int} {k : Nat} {w : World} (h : ramp_Circle.f k a0_0 a0_1 = some r) :
    Calls Try.prog 55 #[.agg #[.int .i64 a0_0, .int .i64 a0_1]] w fun e w' => e = .returned (.int .i64 r) ∧ Below w.heap.size w w' := by
  have hu37 := Try.underlying37
  have hmx : ∀ a b : Int, (if a < b then b else a) = mx a b := fun _ _ => rfl
  have hmn : ∀ a b : Int, (if b < a then b else a) = mn a b := fun _ _ => rfl
  unfold ramp_Circle.f at h
  repeat' first
    | (with_reducible replace h := zs h)
    | (with_reducible replace h := zez h (by assumption) (by decide))
    | (with_reducible replace h := zb h; obtain ⟨t, A, h⟩ := h)
    | (with_reducible first | replace h := z1 h | replace h := z0 h | replace h := zep h (by assumption) | replace h := zen h (by assumption) | replace h := zcp h (by assumption) | replace h := zcn h (by assumption) | replace h := zbp h (by assumption) | replace h := zbn h (by assumption))
    | (with_reducible (first | replace h := zx h | replace h := zt h); obtain ⟨rfl, h⟩ | ⟨rfl, h⟩ := h)
    | (with_reducible (first | replace h := zd h | replace h := zl h | replace h := zm h); obtain ⟨c, h⟩ | ⟨c, h⟩ := h)
    | (with_reducible replace h := zeq h; obtain ⟨c, c', h⟩ | ⟨c, c', cn, h⟩ := h)
    | (with_reducible (first | replace h := ze h | replace h := zg h); obtain ⟨c, c', h⟩ | ⟨c, c', h⟩ := h)
    | (with_reducible replace h := zt h; obtain ⟨c, h⟩ | ⟨c, h⟩ := h)
    | (with_reducible replace h := Option.some.inj h; subst h)
    | (with_reducible exact (zn h).elim)
  all_goals
    try (have H' := za h; clear h)
    go_enter Try.func55, Try.ntmps55
    go_wp2_with (first
      | ((with_reducible refine zq ?_); first | go_quiet ((first | (go_at_call 73; refine Calls.quiet_of ((fix_Root.cn (by assumption : Aside0 _).out).mono fun _ _ h => ⟨h.1, h.2.out⟩)))))
      | (go_at_call 73; refine (fix_Root.cn (by assumption : Aside0 _).out).mono ?_; rintro e w' ⟨rfl, ⟨n, rfl⟩⟩))
  all_goals first
    | (go_ret; exact ⟨rfl, Bw.out⟩)

/-! ### ramp_mix: function 75 -/
def ramp_mix.f (k : Nat) (a0 : Int) (a1 : Int) (a2 : Int) (a3 : Int) : Option (Int) := (fix_Floor.f k (wrap64 ((wrap64 (a1 - a0)) * a2)) a3).bind fun bt278 => (some (wrap64 (a0 + bt278.1)))
theorem ramp_mix.mono : ∀ a0 a1 a2 a3 k, LeO (ramp_mix.f k a0 a1 a2 a3) (ramp_mix.f (k + 1) a0 a1 a2 a3) := by
  intro a0 a1 a2 a3 k
  unfold ramp_mix.f
  repeat' first
      | with_reducible exact fix_Floor.mono _ _ _
      | with_reducible exact LeO.refl _
      | with_reducible exact LeO.none _
      | with_reducible refine LeO.ite ?_ ?_
      | with_reducible refine LeO.bind ?_ (fun _ => ?_)
set_option maxHeartbeats 8000000 in
set_option maxRecDepth 100000 in
theorem ramp_mix.cn {a0 a1 a2 a3 r : Int} {k : Nat} {w : World} (h : ramp_mix.f k a0 a1 a2 a3 = some r) :
    Calls Try.prog 75 #[.int .i64 a0, .int .i64 a1, .int .i64 a2, .int .i64 a3] w fun e w' => e = .returned (.int .i64 r) ∧ Below w.heap.size w w' := by
  unfold ramp_mix.f at h
  repeat' first
    | (with_reducible replace h := zs h)
    | (with_reducible replace h := zez h (by assumption) (by decide))
    | (with_reducible replace h := zb h; obtain ⟨t, A, h⟩ := h)
    | (with_reducible first | replace h := z1 h | replace h := z0 h | replace h := zep h (by assumption) | replace h := zen h (by assumption) | replace h := zcp h (by assumption) | replace h := zcn h (by assumption) | replace h := zbp h (by assumption) | replace h := zbn h (by assumption))
    | (with_reducible (first | replace h := zx h | replace h := zt h); obtain ⟨rfl, h⟩ | ⟨rfl, h⟩ := h)
    | (with_reducible (first | replace h := zd h | replace h := zl h | replace h := zm h); obtain ⟨c, h⟩ | ⟨c, h⟩ := h)
    | (with_reducible (first | replace h := ze h | replace h := zg h); obtain ⟨c, c', h⟩ | ⟨c, c', h⟩ := h)
    | (with_reducible replace h := zt h; obtain ⟨c, h⟩ | ⟨c, h⟩ := h)
    | (with_reducible replace h := Option.some.inj h; subst h)
    | (with_reducible exact (zn h).elim)
  all_goals
    try (have H' := za h; clear h)
    go_enter Try.func75, Try.ntmps75
    go_wp2_with (first
      | ((with_reducible refine zq ?_); first | go_quiet (fail))
      | (go_at_call 53; refine (fix_Floor.cn (by assumption : Aside0 _).out).mono ?_; rintro e w' ⟨rfl, hb⟩; (with_reducible first | replace hb := zkd hb | replace hb := zkn hb | replace hb := zk hb); obtain ⟨hb, hc, hf⟩ := hb; have hy := zy w w'; simp only [zL, Nat.add_zero] at hy))
  all_goals first
    | (go_ret; exact ⟨rfl, Bw.out⟩)

/-! ### ramp_right: function 74 -/
def ramp_right.l0 : Nat → List (S80) → Int → List (S80) → Int → Int → Option (Bool)
  | 0, _, _, _, _, _ => none
  | k + 1, x0, x3, x6, x7, x8 => if x8 < x7 then (if 0 ≤ x8 then (if x8 < (x6.length : Int) then (if ((rd_T80 x6 x8).f0) < x3 then (some false) else (if ((rd_T80 x6 x8).f0) > 255 then (some false) else ((field_RightRGBA.f k ((rd_T80 x6 x8).f1.f0) ((rd_T80 x6 x8).f1.f1) ((rd_T80 x6 x8).f1.f2) ((rd_T80 x6 x8).f1.f3)).bind fun t277 => (if t277 = true then (ramp_right.l0 k x0 ((rd_T80 x6 x8).f0) x6 x7 (wrap64 (x8 + 1))) else (some false))))) else (none)) else (none)) else (some (decide ((x0.length : Int) > 0)))
def ramp_right.f (k : Nat) (l0 : List (S80)) : Option (Bool) := ramp_right.l0 k l0 0 l0 (l0.length : Int) 0
theorem ramp_right.mono_l : ∀ k, (∀ y0 y1 y2 y3 y4, LeO (ramp_right.l0 k y0 y1 y2 y3 y4) (ramp_right.l0 (k + 1) y0 y1 y2 y3 y4))
  | 0 => fun _ _ _ _ _ r h => by simp [ramp_right.l0] at h
  | k + 1 => by
    have ih0 := ramp_right.mono_l k
    · intro y0 y1 y2 y3 y4
      unfold ramp_right.l0
      repeat' first
      | with_reducible exact ih0 _ _ _ _ _
      | with_reducible exact field_RightRGBA.mono _ _ _ _ _
      | with_reducible exact LeO.refl _
      | with_reducible exact LeO.none _
      | with_reducible refine LeO.ite ?_ ?_
      | with_reducible refine LeO.bind ?_ (fun _ => ?_)
theorem ramp_right.mono : ∀ a0 k, LeO (ramp_right.f k a0) (ramp_right.f (k + 1) a0) := by
  intro a0 k
  have ih0 := ramp_right.mono_l k
  unfold ramp_right.f
  repeat' first
      | with_reducible exact ih0 _ _ _ _ _
      | with_reducible exact field_RightRGBA.mono _ _ _ _ _
      | with_reducible exact LeO.refl _
      | with_reducible exact LeO.none _
      | with_reducible refine LeO.ite ?_ ?_
      | with_reducible refine LeO.bind ?_ (fun _ => ?_)
set_option maxHeartbeats 8000000 in
set_option maxRecDepth 100000 in
theorem ramp_right.cn {k : Nat} {A0 : Option Addr} {n0 c0 : Nat} {l0 : List (S80)} {r : Bool} {w : World} (h : ramp_right.f k l0 = some r) (hr0 : Kd.C k80 w A0 n0 l0) (hc0 : n0 ≤ c0) :
    Calls Try.prog 74 #[.slice A0 n0 c0] w fun e w' => e = .returned (.bool r) ∧ Below w.heap.size w w' := by
  obtain rfl := hr0.1
  have HC0 := za hr0; have HL0 := za hc0; clear hr0 hc0
  have hu23 := Try.underlying23
  have hu80 := Try.underlying80
  unfold ramp_right.f at h
  repeat' first
    | (with_reducible replace h := zs h)
    | (with_reducible replace h := zez h (by assumption) (by decide))
    | (with_reducible replace h := zb h; obtain ⟨t, A, h⟩ := h)
    | (with_reducible first | replace h := z1 h | replace h := z0 h | replace h := zep h (by assumption) | replace h := zen h (by assumption) | replace h := zcp h (by assumption) | replace h := zcn h (by assumption) | replace h := zbp h (by assumption) | replace h := zbn h (by assumption))
    | (with_reducible (first | replace h := zx h | replace h := zt h); obtain ⟨rfl, h⟩ | ⟨rfl, h⟩ := h)
    | (with_reducible (first | replace h := zd h | replace h := zl h | replace h := zm h); obtain ⟨c, h⟩ | ⟨c, h⟩ := h)
    | (with_reducible (first | replace h := ze h | replace h := zg h); obtain ⟨c, c', h⟩ | ⟨c, c', h⟩ := h)
    | (with_reducible replace h := zt h; obtain ⟨c, h⟩ | ⟨c, h⟩ := h)
    | (with_reducible replace h := Option.some.inj h; subst h)
    | (with_reducible exact (zn h).elim)
  all_goals
    try (have H' := za h; clear h)
    go_enter Try.func74, Try.ntmps74
    go_wp2_with (first
      | ((with_reducible refine zq ?_); first | go_quiet (fail))
      | (go_at_call 24; refine (field_RightRGBA.cn (by assumption : Aside0 _).out).mono ?_; rintro e w' ⟨rfl, hb⟩; (with_reducible first | replace hb := zkd hb | replace hb := zkn hb | replace hb := zk hb); obtain ⟨hb, hc, hf⟩ := hb; have hy := zy w w'; simp only [zL, Nat.add_zero] at hy))
  all_goals first
    | (go_ret; exact ⟨congrArg (fun b => Ending.returned (Value.bool b)) (decide_eq_decide.mpr (by omega)), Bw.out⟩)
    | (go_ret; exact ⟨rfl, Bw.out⟩)
    | (go_loopg [3, 8] k (fun kq v3 v8 w' => ∃ (x3_1 : Int) (x8_1 : Int), v3 = .int .i64 x3_1 ∧ v8 = .int .i64 x8_1 ∧ Aside0 (ramp_right.l0 kq l0 x3_1 l0 (l0.length : Int) x8_1 = some r) ∧ Aside0 (kq ≤ k) ∧ Aside0 (Below w.heap.size w w'))
       case atStart => exact ⟨_, _, rfl, rfl, H', ⟨Nat.le_refl _⟩, ⟨Bw.out⟩⟩
       case round =>
        obtain ⟨x3_1, x8_1, rfl, rfl, HA, HK1, HB⟩ := hrel
        have HB := Bw.mk HB.out; clear H'
        cases gk with
        | zero => exact absurd HA.out (by simp [ramp_right.l0])
        | succ k1 =>
          have h := HA.out; clear HA; simp only [ramp_right.l0] at h
          repeat' first
            | (with_reducible replace h := zs h)
            | (with_reducible replace h := zez h (by assumption) (by decide))
            | (with_reducible replace h := zb h; obtain ⟨t, A, h⟩ := h)
            | (with_reducible first | replace h := z1 h | replace h := z0 h | replace h := zep h (by assumption) | replace h := zen h (by assumption) | replace h := zcp h (by assumption) | replace h := zcn h (by assumption) | replace h := zbp h (by assumption) | replace h := zbn h (by assumption))
            | (with_reducible (first | replace h := zx h | replace h := zt h); obtain ⟨rfl, h⟩ | ⟨rfl, h⟩ := h)
            | (with_reducible (first | replace h := zd h | replace h := zl h | replace h := zm h); obtain ⟨c, h⟩ | ⟨c, h⟩ := h)
            | (with_reducible (first | replace h := ze h | replace h := zg h); obtain ⟨c, c', h⟩ | ⟨c, c', h⟩ := h)
            | (with_reducible replace h := zt h; obtain ⟨c, h⟩ | ⟨c, h⟩ := h)
            | (with_reducible replace h := Option.some.inj h; subst h)
            | (with_reducible exact (zn h).elim)
          all_goals
            have HN : Lw w wr 0 := ⟨HB.out.size⟩
            try (refine zat80 (W := wr) HC0 x8_1 ?_ ?_ ?_; (first | assumption | decide); assumption; rintro ad ⟨⟩; intros)
            try (have H' := za h; clear h)
            go_wp2_with (first
              | ((with_reducible refine zq ?_); first | go_quiet (fail))
              | (go_at_call 24; refine (field_RightRGBA.cn (by assumption : Aside0 _).out).mono ?_; rintro e w' ⟨rfl, hb⟩; (with_reducible first | replace hb := zkd hb | replace hb := zkn hb | replace hb := zk hb); obtain ⟨hb, hc, hf⟩ := hb; have hy := zy w w'; simp only [zL, Nat.add_zero] at hy; have hy := zy wr w'; simp only [zL, Nat.add_zero] at hy))
          all_goals first
            | (go_ret; exact ⟨congrArg (fun b => Ending.returned (Value.bool b)) (decide_eq_decide.mpr (by omega)), Bw.out⟩)
            | (go_ret; exact ⟨rfl, Bw.out⟩)
            | (go_roundg k1
               case measure => have := HK1.out; omega
               case rel => exact ⟨_, _, rfl, rfl, H', ⟨by have := HK1.out; omega⟩, ⟨Bw.out⟩⟩))

/-! ### ramp_Fold: function 57 -/
def ramp_Fold.f (a0 : Int) (a1 : Int) : Option (Int) := if a1 = 0 then (some (mn (mx a0 0) 255)) else (if a1 = 1 then (some (mn (Go.bits .and .i64 a0 511) (wrap64 (511 - (Go.bits .and .i64 a0 511))))) else (if a1 = 2 then (some (Go.bits .and .i64 a0 255)) else (some 0)))

set_option maxHeartbeats 8000000 in
set_option maxRecDepth 100000 in
theorem ramp_Fold.cn {a0 a1 r : Int} {w : World} (h : ramp_Fold.f a0 a1 = some r) :
    Calls Try.prog 57 #[.int .i64 a0, .int .i64 a1] w fun e w' => e = .returned (.int .i64 r) ∧ Below w.heap.size w w' := by
  have hmx : ∀ a b : Int, (if a < b then b else a) = mx a b := fun _ _ => rfl
  have hmn : ∀ a b : Int, (if b < a then b else a) = mn a b := fun _ _ => rfl
  unfold ramp_Fold.f at h
  repeat' first
    | (with_reducible replace h := zs h)
    | (with_reducible replace h := zez h (by assumption) (by decide))
    | (with_reducible replace h := zb h; obtain ⟨t, A, h⟩ := h)
    | (with_reducible first | replace h := z1 h | replace h := z0 h | replace h := zep h (by assumption) | replace h := zen h (by assumption) | replace h := zcp h (by assumption) | replace h := zcn h (by assumption) | replace h := zbp h (by assumption) | replace h := zbn h (by assumption))
    | (with_reducible (first | replace h := zx h | replace h := zt h); obtain ⟨rfl, h⟩ | ⟨rfl, h⟩ := h)
    | (with_reducible (first | replace h := zd h | replace h := zl h | replace h := zm h); obtain ⟨c, h⟩ | ⟨c, h⟩ := h)
    | (with_reducible (first | replace h := ze h | replace h := zg h); obtain ⟨c, c', h⟩ | ⟨c, c', h⟩ := h)
    | (with_reducible replace h := zt h; obtain ⟨c, h⟩ | ⟨c, h⟩ := h)
    | (with_reducible replace h := Option.some.inj h; subst h)
    | (with_reducible exact (zn h).elim)
  all_goals
    try (have H' := za h; clear h)
    go_enter Try.func57, Try.ntmps57
    go_wp2_with (first
      | ((with_reducible refine zq ?_); first | go_quiet (fail)))
  all_goals first
    | (go_ret; exact ⟨rfl, Bw.out⟩)

/-! ### ramp_Color: function 56 -/
mutual
def ramp_Color.j0 : Nat → List (S80) → Int → Bool → Option (Int × Int × Int × Int)
  | 0, _, _, _ => none
  | k + 1, x0, x1, x20 => if x20 = true then (some (0, 0, 0, 0)) else (if 0 < (x0.length : Int) then (if x1 ≤ ((rd_T80 x0 0).f0) then (some ((rd_T80 x0 0).f1.f0, (rd_T80 x0 0).f1.f1, (rd_T80 x0 0).f1.f2, (rd_T80 x0 0).f1.f3)) else (ramp_Color.l0 k x0 x1 0)) else (none))
def ramp_Color.j2 : Nat → List (S80) → Int → Int → Option (Int × Int × Int × Int)
  | 0, _, _, _ => none
  | k + 1, x0, x1, x5 => if 0 ≤ x5 then (if x5 < (x0.length : Int) then (if (wrap64 (x5 + 1)) = (x0.length : Int) then (some ((rd_T80 x0 x5).f1.f0, (rd_T80 x0 x5).f1.f1, (rd_T80 x0 x5).f1.f2, (rd_T80 x0 x5).f1.f3)) else (if 0 ≤ (wrap64 (x5 + 1)) then (if (wrap64 (x5 + 1)) < (x0.length : Int) then ((ramp_mix.f k ((rd_T80 x0 x5).f1.f0) ((rd_T80 x0 (wrap64 (x5 + 1))).f1.f0) (wrap64 (x1 - ((rd_T80 x0 x5).f0))) (wrap64 (((rd_T80 x0 (wrap64 (x5 + 1))).f0) - ((rd_T80 x0 x5).f0)))).bind fun t289 => ((ramp_mix.f k ((rd_T80 x0 x5).f1.f1) ((rd_T80 x0 (wrap64 (x5 + 1))).f1.f1) (wrap64 (x1 - ((rd_T80 x0 x5).f0))) (wrap64 (((rd_T80 x0 (wrap64 (x5 + 1))).f0) - ((rd_T80 x0 x5).f0)))).bind fun t290 => ((ramp_mix.f k ((rd_T80 x0 x5).f1.f2) ((rd_T80 x0 (wrap64 (x5 + 1))).f1.f2) (wrap64 (x1 - ((rd_T80 x0 x5).f0))) (wrap64 (((rd_T80 x0 (wrap64 (x5 + 1))).f0) - ((rd_T80 x0 x5).f0)))).bind fun t291 => ((ramp_mix.f k ((rd_T80 x0 x5).f1.f3) ((rd_T80 x0 (wrap64 (x5 + 1))).f1.f3) (wrap64 (x1 - ((rd_T80 x0 x5).f0))) (wrap64 (((rd_T80 x0 (wrap64 (x5 + 1))).f0) - ((rd_T80 x0 x5).f0)))).bind fun t292 => (some (t289, t290, t291, t292)))))) else (none)) else (none))) else (none)) else (none)
def ramp_Color.l0 : Nat → List (S80) → Int → Int → Option (Int × Int × Int × Int)
  | 0, _, _, _ => none
  | k + 1, x0, x1, x5 => if (wrap64 (x5 + 1)) < (x0.length : Int) then (if 0 ≤ (wrap64 (x5 + 1)) then (if ((rd_T80 x0 (wrap64 (x5 + 1))).f0) ≤ x1 then (ramp_Color.l0 k x0 x1 (wrap64 (x5 + 1))) else (ramp_Color.j2 k x0 x1 x5)) else (none)) else (ramp_Color.j2 k x0 x1 x5)
end
def ramp_Color.f (k : Nat) (l0 : List (S80)) (a1 : Int) : Option (Int × Int × Int × Int) := (ramp_right.f k l0).bind fun t281 => (if t281 = true then (if a1 < 0 then (ramp_Color.j0 k l0 a1 true) else (ramp_Color.j0 k l0 a1 (decide (a1 > 255)))) else (ramp_Color.j0 k l0 a1 true))
def ramp_Color.O12 : List Nat := [0, 1, 4, 6, 2, 3, 9, 5, 7, 8, 10]
def ramp_Color.T12 : Bool × List (List Nat × List Nat) := (true, [([], []), ([], []), ([1], [1]), ([0, 2], [0, 2]), ([], []), ([4], [4]), ([], []), ([6], [6]), ([5, 7], [5, 7]), ([3, 0, 1, 2, 3], [3]), ([8, 9, 0, 1, 2, 3, 4, 5, 6, 7, 8, 9], [8])])
theorem ramp_Color.tab12 : rtab .any (opsOf Try.f56 12) = ramp_Color.T12 := by kernel_rfl
def ramp_Color.O13 : List Nat := [0, 1, 3, 4, 6, 7, 9, 10, 12, 13, 15, 16, 18, 19, 21, 22, 24, 25, 27, 28, 30, 31, 33, 34, 2, 5, 11, 14, 20, 23, 29, 32, 8, 17, 26, 35, 36, 37]
def ramp_Color.T13 : Bool × List (List Nat × List Nat) := (true, [([], []), ([0], [0]), ([1], [1]), ([], []), ([3], [3]), ([4], [4]), ([], []), ([], []), ([2, 5, 6, 7], [2, 5, 6, 7]), ([], []), ([9], [9]), ([10], [10]), ([], []), ([12], [12]), ([13], [13]), ([], []), ([], []), ([11, 14, 15, 16, 8], [11, 14, 15, 16]), ([], []), ([18], [18]), ([19], [19]), ([], []), ([21], [21]), ([22], [22]), ([], []), ([], []), ([20, 23, 24, 25, 17], [20, 23, 24, 25]), ([], []), ([27], [27]), ([28], [28]), ([], []), ([30], [30]), ([31], [31]), ([], []), ([], []), ([29, 32, 33, 34, 26], [29, 32, 33, 34]), ([8, 17, 26, 35], [8, 17, 26, 35]), ([36, 35, 0, 1, 2, 3, 4, 5, 6, 7, 8, 9, 10, 11, 12, 13, 14, 15, 16, 17, 18, 19, 20, 21, 22, 23, 24, 25, 26, 27, 28, 29, 30, 31, 32, 33, 34, 35, 36], [36])])
theorem ramp_Color.tab13 : rtab .any (opsOf Try.f56 13) = ramp_Color.T13 := by kernel_rfl
theorem ramp_Color.mono_l : ∀ k, (∀ y0 y1 y2, LeO (ramp_Color.j0 k y0 y1 y2) (ramp_Color.j0 (k + 1) y0 y1 y2)) ∧ (∀ y0 y1 y2, LeO (ramp_Color.j2 k y0 y1 y2) (ramp_Color.j2 (k + 1) y0 y1 y2)) ∧ (∀ y0 y1 y2, LeO (ramp_Color.l0 k y0 y1 y2) (ramp_Color.l0 (k + 1) y0 y1 y2))
  | 0 => ⟨fun _ _ _ r h => by simp [ramp_Color.j0] at h, fun _ _ _ r h => by simp [ramp_Color.j2] at h, fun _ _ _ r h => by simp [ramp_Color.l0] at h⟩
  | k + 1 => by
    obtain ⟨ih0, ih1, ih2⟩ := ramp_Color.mono_l k
    refine ⟨?_, ?_, ?_⟩
    · intro y0 y1 y2
      unfold ramp_Color.j0
      repeat' first
      | with_reducible exact ih0 _ _ _
      | with_reducible exact ih1 _ _ _
      | with_reducible exact ih2 _ _ _
      | with_reducible exact ramp_mix.mono _ _ _ _ _
      | with_reducible exact ramp_right.mono _ _
      | with_reducible exact LeO.refl _
      | with_reducible exact LeO.none _
      | with_reducible refine LeO.ite ?_ ?_
      | with_reducible refine LeO.bind ?_ (fun _ => ?_)
    · intro y0 y1 y2
      unfold ramp_Color.j2
      repeat' first
      | with_reducible exact ih0 _ _ _
      | with_reducible exact ih1 _ _ _
      | with_reducible exact ih2 _ _ _
      | with_reducible exact ramp_mix.mono _ _ _ _ _
      | with_reducible exact ramp_right.mono _ _
      | with_reducible exact LeO.refl _
      | with_reducible exact LeO.none _
      | with_reducible refine LeO.ite ?_ ?_
      | with_reducible refine LeO.bind ?_ (fun _ => ?_)
    · intro y0 y1 y2
      unfold ramp_Color.l0
      repeat' first
      | with_reducible exact ih0 _ _ _
      | with_reducible exact ih1 _ _ _
      | with_reducible exact ih2 _ _ _
      | with_reducible exact ramp_mix.mono _ _ _ _ _
      | with_reducible exact ramp_right.mono _ _
      | with_reducible exact LeO.refl _
      | with_reducible exact LeO.none _
      | with_reducible refine LeO.ite ?_ ?_
      | with_reducible refine LeO.bind ?_ (fun _ => ?_)
theorem ramp_Color.mono : ∀ a0 a1 k, LeO (ramp_Color.f k a0 a1) (ramp_Color.f (k + 1) a0 a1) := by
  intro a0 a1 k
  obtain ⟨ih0, ih1, ih2⟩ := ramp_Color.mono_l k
  unfold ramp_Color.f
  repeat' first
      | with_reducible exact ih0 _ _ _
      | with_reducible exact ih1 _ _ _
      | with_reducible exact ih2 _ _ _
      | with_reducible exact ramp_mix.mono _ _ _ _ _
      | with_reducible exact ramp_right.mono _ _
      | with_reducible exact LeO.refl _
      | with_reducible exact LeO.none _
      | with_reducible refine LeO.ite ?_ ?_
      | with_reducible refine LeO.bind ?_ (fun _ => ?_)
set_option maxHeartbeats 8000000 in
set_option maxRecDepth 100000 in
theorem ramp_Color.cn {a1 r1 r2 r3 r4 : Int} {k : Nat} {A0 : Option Addr} {n0 c0 : Nat} {l0 : List (S80)} {w : World} (h : ramp_Color.f k l0 a1 = some (r1, r2, r3, r4)) (hr0 : Kd.C k80 w A0 n0 l0) (hc0 : n0 ≤ c0) :
    Calls Try.prog 56 #[.slice A0 n0 c0, .int .i64 a1] w fun e w' => e = .returned (.agg #[.int .i64 r1, .int .i64 r2, .int .i64 r3, .int .i64 r4]) ∧ Below w.heap.size w w' := by
  obtain rfl := hr0.1
  have HC0 := za hr0; have HL0 := za hc0; clear hr0 hc0
  have hu23 := Try.underlying23
  have hu80 := Try.underlying80
  unfold ramp_Color.f at h
  repeat' first
    | (with_reducible replace h := zs h)
    | (with_reducible replace h := zez h (by assumption) (by decide))
    | (with_reducible replace h := zb h; obtain ⟨t, A, h⟩ := h)
    | (with_reducible first | replace h := z1 h | replace h := z0 h | replace h := zep h (by assumption) | replace h := zen h (by assumption) | replace h := zcp h (by assumption) | replace h := zcn h (by assumption) | replace h := zbp h (by assumption) | replace h := zbn h (by assumption))
    | (with_reducible (first | replace h := zx h | replace h := zt h); obtain ⟨rfl, h⟩ | ⟨rfl, h⟩ := h)
    | (with_reducible (first | replace h := zd h | replace h := zl h | replace h := zm h); obtain ⟨c, h⟩ | ⟨c, h⟩ := h)
    | (with_reducible (first | replace h := ze h | replace h := zg h); obtain ⟨c, c', h⟩ | ⟨c, c', h⟩ := h)
    | (with_reducible replace h := zt h; obtain ⟨c, h⟩ | ⟨c, h⟩ := h)
    | (with_reducible replace h := Option.some.inj h; subst h)
    | (with_reducible exact (zn h).elim)
    | (obtain _ | k := k; exact absurd h (by simp [ramp_Color.j0, ramp_Color.j2]); simp only [ramp_Color.j0, ramp_Color.j2, if_true, if_false, Bool.false_eq_true] at h)
    | (simp only [Option.some.injEq, Prod.mk.injEq] at h; obtain ⟨rfl, rfl, rfl, rfl⟩ := h)
  all_goals
    try (have H' := za h; clear h)
    go_enter Try.func56, Try.ntmps56
    go_wp2_with (first
      | ((with_reducible refine zq ?_); first | go_quiet (fail))
      | (go_at_call 75; refine (ramp_mix.cn (by assumption : Aside0 _).out).mono ?_; rintro e w' ⟨rfl, hb⟩; (with_reducible first | replace hb := zkd hb | replace hb := zkn hb | replace hb := zk hb); obtain ⟨hb, hc, hf⟩ := hb; have hy := zy w w'; simp only [zL, Nat.add_zero] at hy)
      | (go_at_call 74; refine (ramp_right.cn (by assumption : Aside0 _).out ?_ ?_).mono ?_; (focus with_reducible first | exact znil | exact zC (by assumption)); (first | exact Nat.le_refl _ | exact (by assumption : Aside0 _).out); rintro e w' ⟨rfl, hb⟩; (with_reducible first | replace hb := zkd hb | replace hb := zkn hb | replace hb := zk hb); obtain ⟨hb, hc, hf⟩ := hb; have hy := zy w w'; simp only [zL, Nat.add_zero] at hy; try (refine zat80 (W := w') HC0 0 (by decide) ?_ ?_; assumption; rintro ad ⟨⟩; intro q1 q2 x; simp only [Int.toNat_zero, Nat.zero_mul, Addr.add_zero'] at x; have q3 : (0 < l0.length) = True := eq_true (by have := of_eq_true q2; omega)))
      | ((with_reducible refine zq ?_); refine rS 11 ramp_Color.O12 [] (by kernel_rfl) (by rfl) ramp_Color.tab12 (fun HT => ?_); (repeat (first | (refine rP HT.out rfl rfl (v := undef) (a' := ?_) (by kernel_rfl) (fun _ _ _ h => h) (Or.inr ⟨by rfl, rfl⟩) ?_ ?_; rotate_left; (show Act.put _ (some _) _ = _; simp only [Act.put, q1, q2, q3, i64_w, i32_w]; rfl)) | (refine rP HT.out rfl rfl (v := ?_) (a' := ?_) (by kernel_rfl) (fun _ _ _ h => h) (Or.inl ⟨by rfl, ?_⟩) ?_ ?_; rotate_left 2; (intro w'; go_simp; with_reducible rfl); (show Act.put _ (some _) _ = _; simp only [Act.put, q1, q2, q3, i64_w, i32_w]; rfl)) | (refine rT HT.out rfl rfl (v := ?_) (a' := ?_) (by kernel_rfl) (fun _ _ _ h => h) (Or.inl ⟨by rfl, ?_⟩) (by infer_instance) ?_ ?_; rotate_left 2; (intro w' hS; obtain ⟨hc, hf⟩ := rH hS; go_simp; with_reducible rfl); (show Act.put _ (some _) _ = _; simp only [Act.put, q1, q2, q3, i64_w, i32_w]; rfl)) | (refine rO HT.out rfl (by rfl) (by decide) (by rfl) (fun K hK => ?_); go_wp2_with (first | (go_at_call 75; refine (ramp_mix.cn (by assumption : Aside0 _).out).mono ?_; rintro e w' ⟨rfl, hb⟩; (with_reducible first | replace hb := zkd hb | replace hb := zkn hb | replace hb := zk hb); obtain ⟨hb, hc, hf⟩ := hb; have hy := zy w w'; simp only [zL, Nat.add_zero] at hy) | (go_at_call 74; refine (ramp_right.cn (by assumption : Aside0 _).out ?_ ?_).mono ?_; (focus with_reducible first | exact znil | exact zC (by assumption)); (first | exact Nat.le_refl _ | exact (by assumption : Aside0 _).out); rintro e w' ⟨rfl, hb⟩; (with_reducible first | replace hb := zkd hb | replace hb := zkn hb | replace hb := zk hb); obtain ⟨hb, hc, hf⟩ := hb; have hy := zy w w'; simp only [zL, Nat.add_zero] at hy; try (refine zat80 (W := w') HC0 0 (by decide) ?_ ?_; assumption; rintro ad ⟨⟩; intro q1 q2 x; simp only [Int.toNat_zero, Nat.zero_mul, Addr.add_zero'] at x; have q3 : (0 < l0.length) = True := eq_true (by have := of_eq_true q2; omega)))); refine Shut.out hK _ _ (by infer_instance) ?_))); refine rD HT.out (by kernel_rfl) ?_)
      | ((with_reducible refine zq ?_); refine rS 38 ramp_Color.O13 [37] (by kernel_rfl) (by rfl) ramp_Color.tab13 (fun HT => ?_); (repeat (first | (refine rP HT.out rfl rfl (v := undef) (a' := ?_) (by kernel_rfl) (fun _ _ _ h => h) (Or.inr ⟨by rfl, rfl⟩) ?_ ?_; rotate_left; (show Act.put _ (some _) _ = _; simp only [Act.put, q1, q2, q3, i64_w, i32_w]; rfl)) | (refine rP HT.out rfl rfl (v := ?_) (a' := ?_) (by kernel_rfl) (fun _ _ _ h => h) (Or.inl ⟨by rfl, ?_⟩) ?_ ?_; rotate_left 2; (intro w'; go_simp; with_reducible rfl); (show Act.put _ (some _) _ = _; simp only [Act.put, q1, q2, q3, i64_w, i32_w]; rfl)) | (refine rT HT.out rfl rfl (v := ?_) (a' := ?_) (by kernel_rfl) (fun _ _ _ h => h) (Or.inl ⟨by rfl, ?_⟩) (by infer_instance) ?_ ?_; rotate_left 2; (intro w' hS; obtain ⟨hc, hf⟩ := rH hS; go_simp; with_reducible rfl); (show Act.put _ (some _) _ = _; simp only [Act.put, q1, q2, q3, i64_w, i32_w]; rfl)) | (refine rO HT.out rfl (by rfl) (by decide) (by rfl) (fun K hK => ?_); go_wp2_with (first | (go_at_call 75; refine (ramp_mix.cn (by assumption : Aside0 _).out).mono ?_; rintro e w' ⟨rfl, hb⟩; (with_reducible first | replace hb := zkd hb | replace hb := zkn hb | replace hb := zk hb); obtain ⟨hb, hc, hf⟩ := hb; have hy := zy w w'; simp only [zL, Nat.add_zero] at hy) | (go_at_call 74; refine (ramp_right.cn (by assumption : Aside0 _).out ?_ ?_).mono ?_; (focus with_reducible first | exact znil | exact zC (by assumption)); (first | exact Nat.le_refl _ | exact (by assumption : Aside0 _).out); rintro e w' ⟨rfl, hb⟩; (with_reducible first | replace hb := zkd hb | replace hb := zkn hb | replace hb := zk hb); obtain ⟨hb, hc, hf⟩ := hb; have hy := zy w w'; simp only [zL, Nat.add_zero] at hy; try (refine zat80 (W := w') HC0 0 (by decide) ?_ ?_; assumption; rintro ad ⟨⟩; intro q1 q2 x; simp only [Int.toNat_zero, Nat.zero_mul, Addr.add_zero'] at x; have q3 : (0 < l0.length) = True := eq_true (by have := of_eq_true q2; omega)))); refine Shut.out hK _ _ (by infer_instance) ?_) | (refine rL HT.out rfl (by rfl) (by decide) (by rfl) (fun K hK => ?_); go_wp2_with (first | (go_at_call 75; refine (ramp_mix.cn (by assumption : Aside0 _).out).mono ?_; rintro e w' ⟨rfl, hb⟩; (with_reducible first | replace hb := zkd hb | replace hb := zkn hb | replace hb := zk hb); obtain ⟨hb, hc, hf⟩ := hb; have hy := zy w w'; simp only [zL, Nat.add_zero] at hy) | (go_at_call 74; refine (ramp_right.cn (by assumption : Aside0 _).out ?_ ?_).mono ?_; (focus with_reducible first | exact znil | exact zC (by assumption)); (first | exact Nat.le_refl _ | exact (by assumption : Aside0 _).out); rintro e w' ⟨rfl, hb⟩; (with_reducible first | replace hb := zkd hb | replace hb := zkn hb | replace hb := zk hb); obtain ⟨hb, hc, hf⟩ := hb; have hy := zy w w'; simp only [zL, Nat.add_zero] at hy; try (refine zat80 (W := w') HC0 0 (by decide) ?_ ?_; assumption; rintro ad ⟨⟩; intro q1 q2 x; simp only [Int.toNat_zero, Nat.zero_mul, Addr.add_zero'] at x; have q3 : (0 < l0.length) = True := eq_true (by have := of_eq_true q2; omega)))); refine Shut.out hK _ _ ?_))); refine rD HT.out (by kernel_rfl) ?_))
  all_goals first
    | (first | (go_ret; exact ⟨rfl, Bw.out⟩) | (go_ret3; exact ⟨rfl, Bw.out⟩) | (refine bodyPost_ret (v := ?_) ?_ rfl ?_; rotate_left 2; (refine ⟨?_, Bw.out⟩; rfl); exact results_cell_row rfl _ _ _ 23 _ (0, 0) _ rfl (by (with_reducible repeat (first | exact (by assumption : Aside0 _).out | (focus (refine znew ?_; simp only [World.size_alloc, World.heap_drewN, heap_drew]; done)) | refine blk_alloc ?_ _ | refine blk_drewN ?_ _ | refine blk_drew ?_ | refine blk_below ?_ Bs.out | apply zput | (refine zfar ?_ ?_; (focus omega)))) <;> rfl) Try.underlying23 rfl (by kernel_rfl)))
    | (go_loopg [5] k (fun kq v5 w' => ∃ (x5_2 : Int), v5 = .int .i64 x5_2 ∧ Aside0 (ramp_Color.l0 kq l0 a1 x5_2 = some (r1, r2, r3, r4)) ∧ Aside0 (kq ≤ k) ∧ Aside0 (w'.heap[w.heap.size]? = some (.cells #[.int .i64 0, .int .i64 0, .int .i64 0, .int .i64 0] 23 (0, 0))) ∧ Aside0 (Below w.heap.size w w'))
       case atStart => exact ⟨_, rfl, H', ⟨Nat.le_refl _⟩, ⟨by (with_reducible repeat (first | exact (by assumption : Aside0 _).out | (focus (refine znew ?_; simp only [World.size_alloc, World.heap_drewN, heap_drew]; done)) | refine blk_alloc ?_ _ | refine blk_drewN ?_ _ | refine blk_drew ?_ | refine blk_below ?_ Bs.out | apply zput | (refine zfar ?_ ?_; (focus omega)))) <;> rfl⟩, ⟨Bw.out⟩⟩
       case round =>
        obtain ⟨x5_2, rfl, HA, HK1, BK0, HB⟩ := hrel
        have HB := Bw.mk HB.out; clear H'
        cases gk with
        | zero => exact absurd HA.out (by simp [ramp_Color.l0])
        | succ k1 =>
          have h := HA.out; clear HA; simp only [ramp_Color.l0] at h
          repeat' first
            | (with_reducible replace h := zs h)
            | (with_reducible replace h := zez h (by assumption) (by decide))
            | (with_reducible replace h := zb h; obtain ⟨t, A, h⟩ := h)
            | (with_reducible first | replace h := z1 h | replace h := z0 h | replace h := zep h (by assumption) | replace h := zen h (by assumption) | replace h := zcp h (by assumption) | replace h := zcn h (by assumption) | replace h := zbp h (by assumption) | replace h := zbn h (by assumption))
            | (with_reducible (first | replace h := zx h | replace h := zt h); obtain ⟨rfl, h⟩ | ⟨rfl, h⟩ := h)
            | (with_reducible (first | replace h := zd h | replace h := zl h | replace h := zm h); obtain ⟨c, h⟩ | ⟨c, h⟩ := h)
            | (with_reducible (first | replace h := ze h | replace h := zg h); obtain ⟨c, c', h⟩ | ⟨c, c', h⟩ := h)
            | (with_reducible replace h := zt h; obtain ⟨c, h⟩ | ⟨c, h⟩ := h)
            | (with_reducible replace h := Option.some.inj h; subst h)
            | (with_reducible exact (zn h).elim)
            | (obtain _ | k1 := k1; exact absurd h (by simp [ramp_Color.j0, ramp_Color.j2]); simp only [ramp_Color.j0, ramp_Color.j2, if_true, if_false, Bool.false_eq_true] at h)
            | (simp only [Option.some.injEq, Prod.mk.injEq] at h; obtain ⟨rfl, rfl, rfl, rfl⟩ := h)
          all_goals
            obtain ⟨hc0, hf0, hz0⟩ := zo BK0.out
            have HN : Lw w wr 1 := ⟨by have := blk_lt BK0.out; omega⟩
            have hy := zy w wr; simp only [zL, Nat.add_zero] at hy
            try (refine zat80 (W := wr) HC0 0 ?_ ?_ ?_; (first | assumption | decide); assumption; rintro ad ⟨⟩; intro q1 q2 x; simp only [Int.toNat_zero, Nat.zero_mul, Addr.add_zero'] at x; have q3 : (0 < l0.length) = True := eq_true (by have := of_eq_true q2; omega))
            try (refine zat80 (W := wr) HC0 x5_2 ?_ ?_ ?_; assumption; assumption; rintro ad ⟨⟩; intros)
            try (refine zat80 (W := wr) HC0 (wrap64 (x5_2 + 1)) ?_ ?_ ?_; assumption; assumption; rintro ad ⟨⟩; intros)
            try (have H' := za h; clear h)
            go_wp2_with (first
              | ((with_reducible refine zq ?_); first | go_quiet (fail))
              | (go_at_call 75; refine (ramp_mix.cn (by assumption : Aside0 _).out).mono ?_; rintro e w' ⟨rfl, hb⟩; (with_reducible first | replace hb := zkd hb | replace hb := zkn hb | replace hb := zk hb); obtain ⟨hb, hc, hf⟩ := hb; have hy := zy w w'; simp only [zL, Nat.add_zero] at hy; have hy := zy wr w'; simp only [zL, Nat.add_zero] at hy)
              | (go_at_call 74; refine (ramp_right.cn (by assumption : Aside0 _).out ?_ ?_).mono ?_; (focus with_reducible first | exact znil | exact zC (by assumption)); (first | exact Nat.le_refl _ | exact (by assumption : Aside0 _).out); rintro e w' ⟨rfl, hb⟩; (with_reducible first | replace hb := zkd hb | replace hb := zkn hb | replace hb := zk hb); obtain ⟨hb, hc, hf⟩ := hb; have hy := zy w w'; simp only [zL, Nat.add_zero] at hy; have hy := zy wr w'; simp only [zL, Nat.add_zero] at hy)
              | ((with_reducible refine zq ?_); refine rS 11 ramp_Color.O12 [] (by kernel_rfl) (by rfl) ramp_Color.tab12 (fun HT => ?_); (repeat (first | (refine rP HT.out rfl rfl (v := undef) (a' := ?_) (by kernel_rfl) (fun _ _ _ h => h) (Or.inr ⟨by rfl, rfl⟩) ?_ ?_; rotate_left; (show Act.put _ (some _) _ = _; simp only [Act.put, q1, q2, q3, i64_w, i32_w]; rfl)) | (refine rP HT.out rfl rfl (v := ?_) (a' := ?_) (by kernel_rfl) (fun _ _ _ h => h) (Or.inl ⟨by rfl, ?_⟩) ?_ ?_; rotate_left 2; (intro w'; go_simp; with_reducible rfl); (show Act.put _ (some _) _ = _; simp only [Act.put, q1, q2, q3, i64_w, i32_w]; rfl)) | (refine rT HT.out rfl rfl (v := ?_) (a' := ?_) (by kernel_rfl) (fun _ _ _ h => h) (Or.inl ⟨by rfl, ?_⟩) (by infer_instance) ?_ ?_; rotate_left 2; (intro w' hS; obtain ⟨hc, hf⟩ := rH hS; go_simp; with_reducible rfl); (show Act.put _ (some _) _ = _; simp only [Act.put, q1, q2, q3, i64_w, i32_w]; rfl)) | (refine rO HT.out rfl (by rfl) (by decide) (by rfl) (fun K hK => ?_); go_wp2_with (first | (go_at_call 75; refine (ramp_mix.cn (by assumption : Aside0 _).out).mono ?_; rintro e w' ⟨rfl, hb⟩; (with_reducible first | replace hb := zkd hb | replace hb := zkn hb | replace hb := zk hb); obtain ⟨hb, hc, hf⟩ := hb; have hy := zy w w'; simp only [zL, Nat.add_zero] at hy; have hy := zy wr w'; simp only [zL, Nat.add_zero] at hy) | (go_at_call 74; refine (ramp_right.cn (by assumption : Aside0 _).out ?_ ?_).mono ?_; (focus with_reducible first | exact znil | exact zC (by assumption)); (first | exact Nat.le_refl _ | exact (by assumption : Aside0 _).out); rintro e w' ⟨rfl, hb⟩; (with_reducible first | replace hb := zkd hb | replace hb := zkn hb | replace hb := zk hb); obtain ⟨hb, hc, hf⟩ := hb; have hy := zy w w'; simp only [zL, Nat.add_zero] at hy; have hy := zy wr w'; simp only [zL, Nat.add_zero] at hy)); refine Shut.out hK _ _ (by infer_instance) ?_))); refine rD HT.out (by kernel_rfl) ?_)
              | ((with_reducible refine zq ?_); refine rS 38 ramp_Color.O13 [37] (by kernel_rfl) (by rfl) ramp_Color.tab13 (fun HT => ?_); (repeat (first | (refine rP HT.out rfl rfl (v := undef) (a' := ?_) (by kernel_rfl) (fun _ _ _ h => h) (Or.inr ⟨by rfl, rfl⟩) ?_ ?_; rotate_left; (show Act.put _ (some _) _ = _; simp only [Act.put, q1, q2, q3, i64_w, i32_w]; rfl)) | (refine rP HT.out rfl rfl (v := ?_) (a' := ?_) (by kernel_rfl) (fun _ _ _ h => h) (Or.inl ⟨by rfl, ?_⟩) ?_ ?_; rotate_left 2; (intro w'; go_simp; with_reducible rfl); (show Act.put _ (some _) _ = _; simp only [Act.put, q1, q2, q3, i64_w, i32_w]; rfl)) | (refine rT HT.out rfl rfl (v := ?_) (a' := ?_) (by kernel_rfl) (fun _ _ _ h => h) (Or.inl ⟨by rfl, ?_⟩) (by infer_instance) ?_ ?_; rotate_left 2; (intro w' hS; obtain ⟨hc, hf⟩ := rH hS; go_simp; with_reducible rfl); (show Act.put _ (some _) _ = _; simp only [Act.put, q1, q2, q3, i64_w, i32_w]; rfl)) | (refine rO HT.out rfl (by rfl) (by decide) (by rfl) (fun K hK => ?_); go_wp2_with (first | (go_at_call 75; refine (ramp_mix.cn (by assumption : Aside0 _).out).mono ?_; rintro e w' ⟨rfl, hb⟩; (with_reducible first | replace hb := zkd hb | replace hb := zkn hb | replace hb := zk hb); obtain ⟨hb, hc, hf⟩ := hb; have hy := zy w w'; simp only [zL, Nat.add_zero] at hy; have hy := zy wr w'; simp only [zL, Nat.add_zero] at hy) | (go_at_call 74; refine (ramp_right.cn (by assumption : Aside0 _).out ?_ ?_).mono ?_; (focus with_reducible first | exact znil | exact zC (by assumption)); (first | exact Nat.le_refl _ | exact (by assumption : Aside0 _).out); rintro e w' ⟨rfl, hb⟩; (with_reducible first | replace hb := zkd hb | replace hb := zkn hb | replace hb := zk hb); obtain ⟨hb, hc, hf⟩ := hb; have hy := zy w w'; simp only [zL, Nat.add_zero] at hy; have hy := zy wr w'; simp only [zL, Nat.add_zero] at hy)); refine Shut.out hK _ _ (by infer_instance) ?_) | (refine rL HT.out rfl (by rfl) (by decide) (by rfl) (fun K hK => ?_); go_wp2_with (first | (go_at_call 75; refine (ramp_mix.cn (by assumption : Aside0 _).out).mono ?_; rintro e w' ⟨rfl, hb⟩; (with_reducible first | replace hb := zkd hb | replace hb := zkn hb | replace hb := zk hb); obtain ⟨hb, hc, hf⟩ := hb; have hy := zy w w'; simp only [zL, Nat.add_zero] at hy; have hy := zy wr w'; simp only [zL, Nat.add_zero] at hy) | (go_at_call 74; refine (ramp_right.cn (by assumption : Aside0 _).out ?_ ?_).mono ?_; (focus with_reducible first | exact znil | exact zC (by assumption)); (first | exact Nat.le_refl _ | exact (by assumption : Aside0 _).out); rintro e w' ⟨rfl, hb⟩; (with_reducible first | replace hb := zkd hb | replace hb := zkn hb | replace hb := zk hb); obtain ⟨hb, hc, hf⟩ := hb; have hy := zy w w'; simp only [zL, Nat.add_zero] at hy; have hy := zy wr w'; simp only [zL, Nat.add_zero] at hy)); refine Shut.out hK _ _ ?_))); refine rD HT.out (by kernel_rfl) ?_))
          all_goals first
            | (first | (go_ret; exact ⟨rfl, Bw.out⟩) | (go_ret3; exact ⟨rfl, Bw.out⟩) | (refine bodyPost_ret (v := ?_) ?_ rfl ?_; rotate_left 2; (refine ⟨?_, Bw.out⟩; rfl); exact results_cell_row rfl _ _ _ 23 _ (0, 0) _ rfl (by (with_reducible repeat (first | exact (by assumption : Aside0 _).out | (focus (refine znew ?_; simp only [World.size_alloc, World.heap_drewN, heap_drew]; done)) | refine blk_alloc ?_ _ | refine blk_drewN ?_ _ | refine blk_drew ?_ | refine blk_below ?_ Bs.out | apply zput | (refine zfar ?_ ?_; (focus omega)))) <;> rfl) Try.underlying23 rfl (by kernel_rfl)))
            | (go_roundg k1
               case measure => have := HK1.out; omega
               case rel => exact ⟨_, rfl, H', ⟨by have := HK1.out; omega⟩, ⟨by (with_reducible repeat (first | exact (by assumption : Aside0 _).out | (focus (refine znew ?_; simp only [World.size_alloc, World.heap_drewN, heap_drew]; done)) | refine blk_alloc ?_ _ | refine blk_drewN ?_ _ | refine blk_drew ?_ | refine blk_below ?_ Bs.out | apply zput | (refine zfar ?_ ?_; (focus omega)))) <;> rfl⟩, ⟨Bw.out⟩⟩))

end Go.Proofs.Ytmdfcinjmlagcaa.P
