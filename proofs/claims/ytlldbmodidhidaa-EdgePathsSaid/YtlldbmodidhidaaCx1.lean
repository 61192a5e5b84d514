/- Walks by cw.py (wip/tool): plain functions that tell what the program answers, and the proofs that the program comes to these answers, for all arguments of their kinds. -/
import Derived.Test.YtlldbmodidhidaaCx0
import Derived.Test.YtlldbmodidhidaaPx6
import Derived.Test.YtlldbmodidhidaaPx7
namespace Go.Proofs.Ytlldbmodidhidaa.P
open Go.RowKit Go.Proofs.YtlldbmodidhidaaW.PrintWords Go.Proofs.YtlldbmodidhidaaW.PrintLast Go.Proofs.YtlldbmodidhidaaW.PrintMore
attribute [local go_sem] max2_int min2_int max_two min_two max_three min_three max_four min_four max_five min_five max_six min_six
set_option linter.unusedVariables false
set_option linter.unusedSimpArgs false
attribute [local go_sem high] eqA79 eqA86

/-! ### shape_within: function 29 -/
def shape_within.f (a0 : Int) (a1 : Int) (l2 : List Int) : Option (Bool) := some (decide (∀ x ∈ l2, a0 ≤ x ∧ x ≤ a1))
theorem shape_within.calls (a0 : Int) (a1 : Int) (A2 : Option Addr) (c2 : Nat) (l2 : List Int) (r : Bool) (w : World) (hr2 : Kd.C (Kd.int .i64) w A2 l2.length l2) (hc2 : l2.length ≤ c2) (h : shape_within.f a0 a1 l2 = some r) :
    Calls Try.prog 29 #[.int .i64 a0, .int .i64 a1, .slice A2 l2.length c2] w fun e w' => e = .returned (.bool r) ∧ Below w.heap.size w w' := by
  obtain rfl := Option.some.inj h
  exact within_walk a0 a1 A2 c2 l2 w hr2 hc2
theorem shape_within.cn {a0 a1 : Int} {A2 : Option Addr} {n2 c2 : Nat} {l2 : List Int} {r : Bool} {w : World} (h : shape_within.f a0 a1 l2 = some r) (hr2 : Kd.C (Kd.int .i64) w A2 n2 l2) (hc2 : n2 ≤ c2) :
    Calls Try.prog 29 #[.int .i64 a0, .int .i64 a1, .slice A2 n2 c2] w fun e w' => e = .returned (.bool r) ∧ Below w.heap.size w w' := by
  obtain rfl := hr2.1
  apply shape_within.calls <;> assumption

/-! ### style_RightFill: function 43 -/
def style_RightFill.l0 : Nat → Int → List (S86) → Int → Int → Int → Int → Int → Int → Int → Int → Int → Int → Int → Int → Int → Int → List (S86) → Int → Option (Bool)
  | 0, _, _, _, _, _, _, _, _, _, _, _, _, _, _, _, _, _, _ => none
  | k + 1, x3, x68, x69, x70, x136000, x136001, x136002, x136003, x136004, x136005, x136006, x136007, x136008, x136009, x136010, x136011, x136012, x136013 => if x70 < x69 then (if 0 ≤ x70 then (if x70 < (x68.length : Int) then ((style_stop.f k ((rd_T86 x68 x70).f0) ((rd_T86 x68 x70).f1.f0) ((rd_T86 x68 x70).f1.f1) ((rd_T86 x68 x70).f1.f2) ((rd_T86 x68 x70).f1.f3) x3).bind fun t145 => (if t145 = true then (style_RightFill.l0 k ((rd_T86 x68 x70).f0) x68 x69 (wrap64 (x70 + 1)) x136000 x136001 x136002 x136003 x136004 x136005 x136006 x136007 x136008 x136009 x136010 x136011 x136012 x136013) else (some false))) else (none)) else (none)) else ((field_RightMatrix.f k x136005 x136006 x136007 x136008 x136009 x136010).bind fun t146 => (if t146 = true then (if x136011 ≥ 0 then (if x136011 ≤ 2 then (if (x136012.length : Int) ≥ 1 then (some (decide ((x136012.length : Int) ≤ 8))) else (some false)) else (some false)) else (some false)) else (some false)))
def style_RightFill.f (k : Nat) (a0_0 : Int) (a0_1 : Int) (a0_2 : Int) (a0_3 : Int) (a0_4 : Int) (a0_5 : Int) (a0_6 : Int) (a0_7 : Int) (a0_8 : Int) (a0_9 : Int) (a0_10 : Int) (a0_11 : Int) (l0_12 : List (S86)) (a0_13 : Int) : Option (Bool) := if a0_0 = 0 then ((field_RightRGBA.f k a0_1 a0_2 a0_3 a0_4).bind fun t136 => (if t136 = true then ((style_SameFill.f k a0_0 a0_1 a0_2 a0_3 a0_4 a0_5 a0_6 a0_7 a0_8 a0_9 a0_10 a0_11 l0_12 a0_13 0 a0_1 a0_2 a0_3 a0_4 0 0 0 0 0 0 0 ([] : List (S86)) 0).bind fun t137 => (some t137)) else (some false))) else ((style_picture.f a0_0).bind fun t138 => (if t138 = true then ((field_RightMatrix.f k a0_5 a0_6 a0_7 a0_8 a0_9 a0_10).bind fun t139 => (if t139 = true then (if a0_13 ≥ 0 then (if a0_13 < 65536 then ((style_SameFill.f k a0_0 a0_1 a0_2 a0_3 a0_4 a0_5 a0_6 a0_7 a0_8 a0_9 a0_10 a0_11 l0_12 a0_13 a0_0 0 0 0 0 a0_5 a0_6 a0_7 a0_8 a0_9 a0_10 0 ([] : List (S86)) a0_13).bind fun t140 => (some t140)) else (some false)) else (some false)) else (some false))) else ((style_gradient.f a0_0).bind fun t141 => (if t141 = true then ((style_SameFill.f k a0_0 a0_1 a0_2 a0_3 a0_4 a0_5 a0_6 a0_7 a0_8 a0_9 a0_10 a0_11 l0_12 a0_13 a0_0 0 0 0 0 a0_5 a0_6 a0_7 a0_8 a0_9 a0_10 a0_11 l0_12 0).bind fun t142 => (if t142 = true then (style_RightFill.l0 k 0 l0_12 (l0_12.length : Int) 0 a0_0 a0_1 a0_2 a0_3 a0_4 a0_5 a0_6 a0_7 a0_8 a0_9 a0_10 a0_11 l0_12 a0_13) else (some false))) else (some false)))))
theorem style_RightFill.mono_l : ∀ k, (∀ y0 y1 y2 y3 y4 y5 y6 y7 y8 y9 y10 y11 y12 y13 y14 y15 y16 y17, LeO (style_RightFill.l0 k y0 y1 y2 y3 y4 y5 y6 y7 y8 y9 y10 y11 y12 y13 y14 y15 y16 y17) (style_RightFill.l0 (k + 1) y0 y1 y2 y3 y4 y5 y6 y7 y8 y9 y10 y11 y12 y13 y14 y15 y16 y17))
  | 0 => fun _ _ _ _ _ _ _ _ _ _ _ _ _ _ _ _ _ _ r h => by simp [style_RightFill.l0] at h
  | k + 1 => by
    have ih0 := style_RightFill.mono_l k
    · intro y0 y1 y2 y3 y4 y5 y6 y7 y8 y9 y10 y11 y12 y13 y14 y15 y16 y17
      unfold style_RightFill.l0
      repeat' first
      | with_reducible exact ih0 _ _ _ _ _ _ _ _ _ _ _ _ _ _ _ _ _ _
      | with_reducible exact field_RightMatrix.mono _ _ _ _ _ _ _
      | with_reducible exact field_RightRGBA.mono _ _ _ _ _
      | with_reducible exact style_SameFill.mono _ _ _ _ _ _ _ _ _ _ _ _ _ _ _ _ _ _ _ _ _ _ _ _ _ _ _ _ _
      | with_reducible exact style_stop.mono _ _ _ _ _ _ _
      | with_reducible exact LeO.refl _
      | with_reducible exact LeO.none _
      | with_reducible refine LeO.ite ?_ ?_
      | with_reducible refine LeO.bind ?_ (fun _ => ?_)
theorem style_RightFill.mono : ∀ a0 a1 a2 a3 a4 a5 a6 a7 a8 a9 a10 a11 a12 a13 k, LeO (style_RightFill.f k a0 a1 a2 a3 a4 a5 a6 a7 a8 a9 a10 a11 a12 a13) (style_RightFill.f (k + 1) a0 a1 a2 a3 a4 a5 a6 a7 a8 a9 a10 a11 a12 a13) := by
  intro a0 a1 a2 a3 a4 a5 a6 a7 a8 a9 a10 a11 a12 a13 k
  have ih0 := style_RightFill.mono_l k
  unfold style_RightFill.f
  repeat' first
      | with_reducible exact ih0 _ _ _ _ _ _ _ _ _ _ _ _ _ _ _ _ _ _
      | with_reducible exact field_RightMatrix.mono _ _ _ _ _ _ _
      | with_reducible exact field_RightRGBA.mono _ _ _ _ _
      | with_reducible exact style_SameFill.mono _ _ _ _ _ _ _ _ _ _ _ _ _ _ _ _ _ _ _ _ _ _ _ _ _ _ _ _ _
      | with_reducible exact style_stop.mono _ _ _ _ _ _ _
      | with_reducible exact LeO.refl _
      | with_reducible exact LeO.none _
      | with_reducible refine LeO.ite ?_ ?_
      | with_reducible refine LeO.bind ?_ (fun _ => ?_)
set_option maxHeartbeats 8000000 in
set_option maxRecDepth 100000 in
theorem style_RightFill.cn {a0_0 a0_1 a0_2 a0_3 a0_4 a0_5 a0_6 a0_7 a0_8 a0_9 a0_10 a0_11 a0_13 : Int} {k : Nat} {A0_12 : Option Addr} {n0_12 c0_12 : Nat} {l0_12 : List (S86)} {r : Bool} {w : World} (h : style_RightFill.f k a0_0 a0_1 a0_2 a0_3 a0_4 a0_5 a0_6 a0_7 a0_8 a0_9 a0_10 a0_11 l0_12 a0_13 = some r) (hr0_12 : Kd.C k86 w A0_12 n0_12 l0_12) (hc0_12 : n0_12 ≤ c0_12) :
    Calls Try.prog 43 #[.agg #[.int .i64 a0_0, .int .i64 a0_1, .int .i64 a0_2, .int .i64 a0_3, .int .i64 a0_4, .int .i64 a0_5, .int .i64 a0_6, .int .i64 a0_7, .int .i64 a0_8, .int .i64 a0_9, .int .i64 a0_10, .int .i64 a0_11, .slice A0_12 n0_12 c0_12, .int .i64 a0_13]] w fun e w' => e = .returned (.bool r) ∧ Below w.heap.size w w' := by
  obtain rfl := hr0_12.1
  have HC0_12 := za hr0_12; have HL0_12 := za hc0_12; clear hr0_12 hc0_12
  have hu60 := Try.underlying60
  have hu62 := Try.underlying62
  have hu65 := Try.underlying65
  have hu86 := Try.underlying86
  unfold style_RightFill.f at h
  repeat' first
    | (with_reducible replace h := zs h)
    | (with_reducible replace h := zez h (by assumption) (by decide))
    | (with_reducible replace h := zb h; obtain ⟨t, A, h⟩ := h)
    | (with_reducible first | replace h := z1 h | replace h := z0 h | replace h := zep h (by assumption) | replace h := zen h (by assumption) | replace h := zcp h (by assumption) | replace h := zcn h (by assumption) | replace h := zbp h (by assumption) | replace h := zbn h (by assumption))
    | (with_reducible (first | replace h := zx h | replace h := zt h); obtain ⟨rfl, h⟩ | ⟨rfl, h⟩ := h)
    | (with_reducible (first | replace h := zd h | replace h := zl h | replace h := zm h); obtain ⟨c, h⟩ | ⟨c, h⟩ := h)
    | (with_reducible (first | replace h := ze h | replace h := zg h); obtain ⟨c, c', h⟩ | ⟨c, c', h⟩ := h)
    | (with_reducible replace h := zt h; obtain ⟨c, h⟩ | ⟨c, h⟩ := h)
    | (with_reducible replace h := Option.some.inj h; subst h)
    | (with_reducible exact (zn h).elim)
  all_goals
    try (have H' := za h; clear h)
    go_enter Try.func43, Try.ntmps43
    go_wp2_with (first
      | ((with_reducible refine zq ?_); first | go_quiet ((first | (go_at_call 56; refine Calls.quiet_of ((style_gradient.cn (by assumption : Aside0 _).out).mono fun _ _ h => ⟨h.1, h.2.out⟩)) | (go_at_call 54; refine Calls.quiet_of ((style_picture.cn (by assumption : Aside0 _).out).mono fun _ _ h => ⟨h.1, h.2.out⟩)))))
      | (go_at_call 55; refine (field_RightMatrix.cn (by assumption : Aside0 _).out).mono ?_; rintro e w' ⟨rfl, hb⟩; obtain ⟨hb, hc, hf⟩ := zk hb; have hy := zy w w'; simp only [zL, Nat.add_zero] at hy)
      | (go_at_call 52; refine (field_RightRGBA.cn (by assumption : Aside0 _).out).mono ?_; rintro e w' ⟨rfl, hb⟩; obtain ⟨hb, hc, hf⟩ := zk hb; have hy := zy w w'; simp only [zL, Nat.add_zero] at hy)
      | (go_at_call 53; refine (style_SameFill.cn (by assumption : Aside0 _).out ?_ ?_ ?_ ?_).mono ?_; (focus with_reducible first | exact znil | exact zC (by assumption)); (first | exact Nat.le_refl _ | exact (by assumption : Aside0 _).out); (focus with_reducible first | exact znil | exact zC (by assumption)); (first | exact Nat.le_refl _ | exact (by assumption : Aside0 _).out); rintro e w' ⟨rfl, hb⟩; obtain ⟨hb, hc, hf⟩ := zk hb; have hy := zy w w'; simp only [zL, Nat.add_zero] at hy)
      | (go_at_call 56; refine (style_gradient.cn (by assumption : Aside0 _).out).mono ?_; rintro e w' ⟨rfl, ⟨n, rfl⟩⟩)
      | (go_at_call 54; refine (style_picture.cn (by assumption : Aside0 _).out).mono ?_; rintro e w' ⟨rfl, ⟨n, rfl⟩⟩)
      | (go_at_call 57; refine (style_stop.cn (by assumption : Aside0 _).out).mono ?_; rintro e w' ⟨rfl, hb⟩; obtain ⟨hb, hc, hf⟩ := zk hb; have hy := zy w w'; simp only [zL, Nat.add_zero] at hy))
  all_goals first
    | (go_ret; exact ⟨rfl, Bw.out⟩)
    | (go_loopg [3, 70] k (fun kq v3 v70 w' => ∃ (x3_1 : Int) (x70_1 : Int), v3 = .int .i64 x3_1 ∧ v70 = .int .i64 x70_1 ∧ Aside0 (style_RightFill.l0 kq x3_1 l0_12 (l0_12.length : Int) x70_1 a0_0 a0_1 a0_2 a0_3 a0_4 a0_5 a0_6 a0_7 a0_8 a0_9 a0_10 a0_11 l0_12 a0_13 = some r) ∧ Aside0 (kq ≤ k) ∧ Aside0 (w'.heap[w.heap.size]? = some (.cells #[.int .i64 a0_0, .int .i64 a0_1, .int .i64 a0_2, .int .i64 a0_3, .int .i64 a0_4, .int .i64 a0_5, .int .i64 a0_6, .int .i64 a0_7, .int .i64 a0_8, .int .i64 a0_9, .int .i64 a0_10, .int .i64 a0_11, .slice A0_12 l0_12.length c0_12, .int .i64 a0_13] 65 (0, 0))) ∧ Aside0 (Below w.heap.size w w'))
       case atStart => exact ⟨_, _, rfl, rfl, H', ⟨Nat.le_refl _⟩, ⟨by (with_reducible repeat (first | exact (by assumption : Aside0 _).out | (refine znew ?_; simp only [World.size_alloc, World.heap_drewN, heap_drew]; done) | refine blk_alloc ?_ _ | refine blk_drewN ?_ _ | refine blk_drew ?_ | refine blk_below ?_ Bs.out | apply zput | (refine zfar ?_ ?_; (focus omega)))) <;> rfl⟩, ⟨Bw.out⟩⟩
       case round =>
        obtain ⟨x3_1, x70_1, rfl, rfl, HA, HK1, BK0, HB⟩ := hrel
        have HB := Bw.mk HB.out; clear H'
        cases gk with
        | zero => exact absurd HA.out (by simp [style_RightFill.l0])
        | succ k1 =>
          have h := HA.out; clear HA; simp only [style_RightFill.l0] at h
          repeat' first
            | (with_reducible replace h := zs h)
            | (with_reducible replace h := zez h (by assumption) (by decide))
            | (with_reducible replace h := zb h; obtain ⟨t, A, h⟩ := h)
            | (with_reducible first | replace h := z1 h | replace h := z0 h | replace h := zep h (by assumption) | replace h := zen h (by assumption) | replace h := zcp h (by assumption) | replace h := zcn h (by assumption) | replace h := zbp h (by assumption) | replace h := zbn h (by assumption))
            | (with_reducible (first | replace h := zx h | replace h := zt h); obtain ⟨rfl, h⟩ | ⟨rfl, h⟩ := h)
            | (with_reducible (first | replace h := zd h | replace h := zl h | replace h := zm h); obtain ⟨c, h⟩ | ⟨c, h⟩ := h)
            | (with_reducible (first | replace h := ze h | replace h := zg h); obtain ⟨c, c', h⟩ | ⟨c, c', h⟩ := h)
            | (with_reducible replace h := zt h; obtain ⟨c, h⟩ | ⟨c, h⟩ := h)
            | (with_reducible replace h := Option.some.inj h; subst h)
            | (with_reducible exact (zn h).elim)
          all_goals
            obtain ⟨hc0, hf0, hz0⟩ := zo BK0.out
            have HN : Lw w wr 1 := ⟨by have := blk_lt BK0.out; omega⟩
            try (refine zat86 (W := wr) HC0_12 x70_1 ?_ ?_ ?_; assumption; assumption; rintro ad ⟨⟩; intros)
            try (have H' := za h; clear h)
            go_wp2_with (first
              | ((with_reducible refine zq ?_); first | go_quiet ((first | (go_at_call 56; refine Calls.quiet_of ((style_gradient.cn (by assumption : Aside0 _).out).mono fun _ _ h => ⟨h.1, h.2.out⟩)) | (go_at_call 54; refine Calls.quiet_of ((style_picture.cn (by assumption : Aside0 _).out).mono fun _ _ h => ⟨h.1, h.2.out⟩)))))
              | (go_at_call 55; refine (field_RightMatrix.cn (by assumption : Aside0 _).out).mono ?_; rintro e w' ⟨rfl, hb⟩; obtain ⟨hb, hc, hf⟩ := zk hb; have hy := zy w w'; simp only [zL, Nat.add_zero] at hy; have hy := zy wr w'; simp only [zL, Nat.add_zero] at hy)
              | (go_at_call 52; refine (field_RightRGBA.cn (by assumption : Aside0 _).out).mono ?_; rintro e w' ⟨rfl, hb⟩; obtain ⟨hb, hc, hf⟩ := zk hb; have hy := zy w w'; simp only [zL, Nat.add_zero] at hy; have hy := zy wr w'; simp only [zL, Nat.add_zero] at hy)
              | (go_at_call 53; refine (style_SameFill.cn (by assumption : Aside0 _).out ?_ ?_ ?_ ?_).mono ?_; (focus with_reducible first | exact znil | exact zC (by assumption)); (first | exact Nat.le_refl _ | exact (by assumption : Aside0 _).out); (focus with_reducible first | exact znil | exact zC (by assumption)); (first | exact Nat.le_refl _ | exact (by assumption : Aside0 _).out); rintro e w' ⟨rfl, hb⟩; obtain ⟨hb, hc, hf⟩ := zk hb; have hy := zy w w'; simp only [zL, Nat.add_zero] at hy; have hy := zy wr w'; simp only [zL, Nat.add_zero] at hy)
              | (go_at_call 56; refine (style_gradient.cn (by assumption : Aside0 _).out).mono ?_; rintro e w' ⟨rfl, ⟨n, rfl⟩⟩)
              | (go_at_call 54; refine (style_picture.cn (by assumption : Aside0 _).out).mono ?_; rintro e w' ⟨rfl, ⟨n, rfl⟩⟩)
              | (go_at_call 57; refine (style_stop.cn (by assumption : Aside0 _).out).mono ?_; rintro e w' ⟨rfl, hb⟩; obtain ⟨hb, hc, hf⟩ := zk hb; have hy := zy w w'; simp only [zL, Nat.add_zero] at hy; have hy := zy wr w'; simp only [zL, Nat.add_zero] at hy))
          all_goals first
            | (go_ret; exact ⟨rfl, Bw.out⟩)
            | (go_roundg k1
               case measure => have := HK1.out; omega
               case rel => exact ⟨_, _, rfl, rfl, H', ⟨by have := HK1.out; omega⟩, ⟨by (with_reducible repeat (first | exact (by assumption : Aside0 _).out | (refine znew ?_; simp only [World.size_alloc, World.heap_drewN, heap_drew]; done) | refine blk_alloc ?_ _ | refine blk_drewN ?_ _ | refine blk_drew ?_ | refine blk_below ?_ Bs.out | apply zput | (refine zfar ?_ ?_; (focus omega)))) <;> rfl⟩, ⟨Bw.out⟩⟩))

/-! ### style_Right_1: function 42 -/
def style_Right_1.f (k : Nat) (a0_0 : Int) (a0_1 : Int) (a0_2 : Int) (a0_3 : Int) (a0_4 : Int) (a0_5 : Int) (a0_6 : Int) (a0_7 : Int) (a0_8 : Int) (a0_9 : Int) (a0_10 : Int) (a0_11 : Int) (l0_12 : List (S86)) (a0_13 : Int) : Option (Bool) := (style_RightFill.f k a0_0 a0_1 a0_2 a0_3 a0_4 a0_5 a0_6 a0_7 a0_8 a0_9 a0_10 a0_11 l0_12 a0_13).bind fun t148 => (some (!t148))
theorem style_Right_1.mono : ∀ a0 a1 a2 a3 a4 a5 a6 a7 a8 a9 a10 a11 a12 a13 k, LeO (style_Right_1.f k a0 a1 a2 a3 a4 a5 a6 a7 a8 a9 a10 a11 a12 a13) (style_Right_1.f (k + 1) a0 a1 a2 a3 a4 a5 a6 a7 a8 a9 a10 a11 a12 a13) := by
  intro a0 a1 a2 a3 a4 a5 a6 a7 a8 a9 a10 a11 a12 a13 k
  unfold style_Right_1.f
  repeat' first
      | with_reducible exact style_RightFill.mono _ _ _ _ _ _ _ _ _ _ _ _ _ _ _
      | with_reducible exact LeO.refl _
      | with_reducible exact LeO.none _
      | with_reducible refine LeO.ite ?_ ?_
      | with_reducible refine LeO.bind ?_ (fun _ => ?_)
set_option maxHeartbeats 8000000 in
set_option maxRecDepth 100000 in
theorem style_Right_1.cn {a0_0 a0_1 a0_2 a0_3 a0_4 a0_5 a0_6 a0_7 a0_8 a0_9 a0_10 a0_11 a0_13 : Int} {k : Nat} {A0_12 : Option Addr} {n0_12 c0_12 : Nat} {l0_12 : List (S86)} {r : Bool} {w : World} (h : style_Right_1.f k a0_0 a0_1 a0_2 a0_3 a0_4 a0_5 a0_6 a0_7 a0_8 a0_9 a0_10 a0_11 l0_12 a0_13 = some r) (hr0_12 : Kd.C k86 w A0_12 n0_12 l0_12) (hc0_12 : n0_12 ≤ c0_12) :
    Calls Try.prog 42 #[.agg #[.int .i64 a0_0, .int .i64 a0_1, .int .i64 a0_2, .int .i64 a0_3, .int .i64 a0_4, .int .i64 a0_5, .int .i64 a0_6, .int .i64 a0_7, .int .i64 a0_8, .int .i64 a0_9, .int .i64 a0_10, .int .i64 a0_11, .slice A0_12 n0_12 c0_12, .int .i64 a0_13]] w fun e w' => e = .returned (.bool r) ∧ Below w.heap.size w w' := by
  obtain rfl := hr0_12.1
  have HC0_12 := za hr0_12; have HL0_12 := za hc0_12; clear hr0_12 hc0_12
  have hu65 := Try.underlying65
  unfold style_Right_1.f at h
  repeat' first
    | (with_reducible replace h := zs h)
    | (with_reducible replace h := zez h (by assumption) (by decide))
    | (with_reducible replace h := zb h; obtain ⟨t, A, h⟩ := h)
    | (with_reducible first | replace h := z1 h | replace h := z0 h | replace h := zep h (by assumption) | replace h := zen h (by assumption) | replace h := zcp h (by assumption) | replace h := zcn h (by assumption) | replace h := zbp h (by assumption) | replace h := zbn h (by assumption))
    | (with_reducible (first | replace h := zx h | replace h := zt h); obtain ⟨rfl, h⟩ | ⟨rfl, h⟩ := h)
    | (with_reducible (first | replace h := zd h | replace h := zl h | replace h := zm h); obtain ⟨c, h⟩ | ⟨c, h⟩ := h)
    | (with_reducible (first | replace h := ze h | replace h := zg h); obtain ⟨c, c', h⟩ | ⟨c, c', h⟩ := h)
    | (with_reducible replace h := zt h; obtain ⟨c, h⟩ | ⟨c, h⟩ := h)
    | (with_reducible replace h := Option.some.inj h; subst h)
    | (with_reducible exact (zn h).elim)
  all_goals
    try (have H' := za h; clear h)
    go_enter Try.func42, Try.ntmps42
    go_wp2_with (first
      | ((with_reducible refine zq ?_); first | go_quiet (fail))
      | (go_at_call 43; refine (style_RightFill.cn (by assumption : Aside0 _).out ?_ ?_).mono ?_; (focus with_reducible first | exact znil | exact zC (by assumption)); (first | exact Nat.le_refl _ | exact (by assumption : Aside0 _).out); rintro e w' ⟨rfl, hb⟩; obtain ⟨hb, hc, hf⟩ := zk hb; have hy := zy w w'; simp only [zL, Nat.add_zero] at hy))
  all_goals first
    | (go_ret; exact ⟨rfl, Bw.out⟩)

/-! ### style_RightStroke: function 46 -/
def style_RightStroke.f (k : Nat) (a0_0 : Int) (a0_1 : Int) (a0_2 : Int) (a0_3 : Int) (a0_4 : Int) : Option (Bool) := if a0_0 ≥ 0 then (if a0_0 < 65536 then ((field_RightRGBA.f k a0_1 a0_2 a0_3 a0_4).bind fun t150 => (some t150)) else (some false)) else (some false)
theorem style_RightStroke.mono : ∀ a0 a1 a2 a3 a4 k, LeO (style_RightStroke.f k a0 a1 a2 a3 a4) (style_RightStroke.f (k + 1) a0 a1 a2 a3 a4) := by
  intro a0 a1 a2 a3 a4 k
  unfold style_RightStroke.f
  repeat' first
      | with_reducible exact field_RightRGBA.mono _ _ _ _ _
      | with_reducible exact LeO.refl _
      | with_reducible exact LeO.none _
      | with_reducible refine LeO.ite ?_ ?_
      | with_reducible refine LeO.bind ?_ (fun _ => ?_)
set_option maxHeartbeats 8000000 in
set_option maxRecDepth 100000 in
theorem style_RightStroke.cn {a0_0 a0_1 a0_2 a0_3 a0_4 : Int} {k : Nat} {r : Bool} {w : World} (h : style_RightStroke.f k a0_0 a0_1 a0_2 a0_3 a0_4 = some r) :
    Calls Try.prog 46 #[.agg #[.int .i64 a0_0, .int .i64 a0_1, .int .i64 a0_2, .int .i64 a0_3, .int .i64 a0_4]] w fun e w' => e = .returned (.bool r) ∧ Below w.heap.size w w' := by
  have hu60 := Try.underlying60
  have hu79 := Try.underlying79
  unfold style_RightStroke.f at h
  repeat' first
    | (with_reducible replace h := zs h)
    | (with_reducible replace h := zez h (by assumption) (by decide))
    | (with_reducible replace h := zb h; obtain ⟨t, A, h⟩ := h)
    | (with_reducible first | replace h := z1 h | replace h := z0 h | replace h := zep h (by assumption) | replace h := zen h (by assumption) | replace h := zcp h (by assumption) | replace h := zcn h (by assumption) | replace h := zbp h (by assumption) | replace h := zbn h (by assumption))
    | (with_reducible (first | replace h := zx h | replace h := zt h); obtain ⟨rfl, h⟩ | ⟨rfl, h⟩ := h)
    | (with_reducible (first | replace h := zd h | replace h := zl h | replace h := zm h); obtain ⟨c, h⟩ | ⟨c, h⟩ := h)
    | (with_reducible (first | replace h := ze h | replace h := zg h); obtain ⟨c, c', h⟩ | ⟨c, c', h⟩ := h)
    | (with_reducible replace h := zt h; obtain ⟨c, h⟩ | ⟨c, h⟩ := h)
    | (with_reducible replace h := Option.some.inj h; subst h)
    | (with_reducible exact (zn h).elim)
  all_goals
    try (have H' := za h; clear h)
    go_enter Try.func46, Try.ntmps46
    go_wp2_with (first
      | ((with_reducible refine zq ?_); first | go_quiet (fail))
      | (go_at_call 52; refine (field_RightRGBA.cn (by assumption : Aside0 _).out).mono ?_; rintro e w' ⟨rfl, hb⟩; obtain ⟨hb, hc, hf⟩ := zk hb; have hy := zy w w'; simp only [zL, Nat.add_zero] at hy))
  all_goals first
    | (go_ret; exact ⟨rfl, Bw.out⟩)

/-! ### style_Right_2: function 45 -/
def style_Right_2.f (k : Nat) (a0_0 : Int) (a0_1 : Int) (a0_2 : Int) (a0_3 : Int) (a0_4 : Int) : Option (Bool) := (style_RightStroke.f k a0_0 a0_1 a0_2 a0_3 a0_4).bind fun t152 => (some (!t152))
theorem style_Right_2.mono : ∀ a0 a1 a2 a3 a4 k, LeO (style_Right_2.f k a0 a1 a2 a3 a4) (style_Right_2.f (k + 1) a0 a1 a2 a3 a4) := by
  intro a0 a1 a2 a3 a4 k
  unfold style_Right_2.f
  repeat' first
      | with_reducible exact style_RightStroke.mono _ _ _ _ _ _
      | with_reducible exact LeO.refl _
      | with_reducible exact LeO.none _
      | with_reducible refine LeO.ite ?_ ?_
      | with_reducible refine LeO.bind ?_ (fun _ => ?_)
set_option maxHeartbeats 8000000 in
set_option maxRecDepth 100000 in
theorem style_Right_2.cn {a0_0 a0_1 a0_2 a0_3 a0_4 : Int} {k : Nat} {r : Bool} {w : World} (h : style_Right_2.f k a0_0 a0_1 a0_2 a0_3 a0_4 = some r) :
    Calls Try.prog 45 #[.agg #[.int .i64 a0_0, .int .i64 a0_1, .int .i64 a0_2, .int .i64 a0_3, .int .i64 a0_4]] w fun e w' => e = .returned (.bool r) ∧ Below w.heap.size w w' := by
  have hu79 := Try.underlying79
  unfold style_Right_2.f at h
  repeat' first
    | (with_reducible replace h := zs h)
    | (with_reducible replace h := zez h (by assumption) (by decide))
    | (with_reducible replace h := zb h; obtain ⟨t, A, h⟩ := h)
    | (with_reducible first | replace h := z1 h | replace h := z0 h | replace h := zep h (by assumption) | replace h := zen h (by assumption) | replace h := zcp h (by assumption) | replace h := zcn h (by assumption) | replace h := zbp h (by assumption) | replace h := zbn h (by assumption))
    | (with_reducible (first | replace h := zx h | replace h := zt h); obtain ⟨rfl, h⟩ | ⟨rfl, h⟩ := h)
    | (with_reducible (first | replace h := zd h | replace h := zl h | replace h := zm h); obtain ⟨c, h⟩ | ⟨c, h⟩ := h)
    | (with_reducible (first | replace h := ze h | replace h := zg h); obtain ⟨c, c', h⟩ | ⟨c, c', h⟩ := h)
    | (with_reducible replace h := zt h; obtain ⟨c, h⟩ | ⟨c, h⟩ := h)
    | (with_reducible replace h := Option.some.inj h; subst h)
    | (with_reducible exact (zn h).elim)
  all_goals
    try (have H' := za h; clear h)
    go_enter Try.func45, Try.ntmps45
    go_wp2_with (first
      | ((with_reducible refine zq ?_); first | go_quiet (fail))
      | (go_at_call 46; refine (style_RightStroke.cn (by assumption : Aside0 _).out).mono ?_; rintro e w' ⟨rfl, hb⟩; obtain ⟨hb, hc, hf⟩ := zk hb; have hy := zy w w'; simp only [zL, Nat.add_zero] at hy))
  all_goals first
    | (go_ret; exact ⟨rfl, Bw.out⟩)

/-! ### api_Fill_51: function 51 -/
def api_Fill_51.l0 : Nat → List (S65) → Int → Int → Option (Int)
  | 0, _, _, _ => none
  | k + 1, x0, x7, x8 => if x8 < x7 then (if 0 ≤ x8 then (if x8 < (x0.length : Int) then ((style_Right_1.f k ((rd_T65 x0 x8).f0) ((rd_T65 x0 x8).f1.f0) ((rd_T65 x0 x8).f1.f1) ((rd_T65 x0 x8).f1.f2) ((rd_T65 x0 x8).f1.f3) ((rd_T65 x0 x8).f2.f0) ((rd_T65 x0 x8).f2.f1) ((rd_T65 x0 x8).f2.f2) ((rd_T65 x0 x8).f2.f3) ((rd_T65 x0 x8).f2.f4) ((rd_T65 x0 x8).f2.f5) ((rd_T65 x0 x8).f3) ((rd_T65 x0 x8).f4) ((rd_T65 x0 x8).f5)).bind fun t154 => (if t154 = true then (some x8) else (api_Fill_51.l0 k x0 x7 (wrap64 (x8 + 1))))) else (none)) else (none)) else (some (-1))
def api_Fill_51.f (k : Nat) (l0 : List (S65))  : Option (Int) := api_Fill_51.l0 k l0 (l0.length : Int) 0
theorem api_Fill_51.mono_l : ∀ k, (∀ y0 y1 y2, LeO (api_Fill_51.l0 k y0 y1 y2) (api_Fill_51.l0 (k + 1) y0 y1 y2))
  | 0 => fun _ _ _ r h => by simp [api_Fill_51.l0] at h
  | k + 1 => by
    have ih0 := api_Fill_51.mono_l k
    · intro y0 y1 y2
      unfold api_Fill_51.l0
      repeat' first
      | with_reducible exact ih0 _ _ _
      | with_reducible exact style_Right_1.mono _ _ _ _ _ _ _ _ _ _ _ _ _ _ _
      | with_reducible exact LeO.refl _
      | with_reducible exact LeO.none _
      | with_reducible refine LeO.ite ?_ ?_
      | with_reducible refine LeO.bind ?_ (fun _ => ?_)
theorem api_Fill_51.mono : ∀ a0 k, LeO (api_Fill_51.f k a0) (api_Fill_51.f (k + 1) a0) := by
  intro a0 k
  have ih0 := api_Fill_51.mono_l k
  unfold api_Fill_51.f
  repeat' first
      | with_reducible exact ih0 _ _ _
      | with_reducible exact style_Right_1.mono _ _ _ _ _ _ _ _ _ _ _ _ _ _ _
      | with_reducible exact LeO.refl _
      | with_reducible exact LeO.none _
      | with_reducible refine LeO.ite ?_ ?_
      | with_reducible refine LeO.bind ?_ (fun _ => ?_)
set_option maxHeartbeats 8000000 in
set_option maxRecDepth 100000 in
theorem api_Fill_51.cn {r : Int} {k : Nat} {A0 : Option Addr} {n0 c0 : Nat} {l0 : List (S65)} {w : World} (h : api_Fill_51.f k l0 = some r) (hr0 : Kd.C k65 w A0 n0 l0) (hc0 : n0 ≤ c0) :
    Calls Try.prog 51 #[.slice A0 n0 c0, .func (.func 42) #[] #[]] w fun e w' => e = .returned (.int .i64 r) ∧ Below w.heap.size w w' := by
  obtain rfl := hr0.1
  have HC0 := za hr0; have HL0 := za hc0; clear hr0 hc0
  have hu65 := Try.underlying65
  unfold api_Fill_51.f at h
  repeat' first
    | (with_reducible replace h := zs h)
    | (with_reducible replace h := zez h (by assumption) (by decide))
    | (with_reducible replace h := zb h; obtain ⟨t, A, h⟩ := h)
    | (with_reducible first | replace h := z1 h | replace h := z0 h | replace h := zep h (by assumption) | replace h := zen h (by assumption) | replace h := zcp h (by assumption) | replace h := zcn h (by assumption) | replace h := zbp h (by assumption) | replace h := zbn h (by assumption))
    | (with_reducible (first | replace h := zx h | replace h := zt h); obtain ⟨rfl, h⟩ | ⟨rfl, h⟩ := h)
    | (with_reducible (first | replace h := zd h | replace h := zl h | replace h := zm h); obtain ⟨c, h⟩ | ⟨c, h⟩ := h)
    | (with_reducible (first | replace h := ze h | replace h := zg h); obtain ⟨c, c', h⟩ | ⟨c, c', h⟩ := h)
    | (with_reducible replace h := zt h; obtain ⟨c, h⟩ | ⟨c, h⟩ := h)
    | (with_reducible replace h := Option.some.inj h; subst h)
    | (with_reducible exact (zn h).elim)
  all_goals
    try (have H' := za h; clear h)
    go_enter Try.func51, Try.ntmps51
    go_wp2_with (first
      | ((with_reducible refine zq ?_); first | go_quiet (fail))
      | (go_at_call 42; refine (style_Right_1.cn (by assumption : Aside0 _).out ?_ ?_).mono ?_; (focus with_reducible first | exact znil | exact zC (by assumption)); (first | exact Nat.le_refl _ | exact (by assumption : Aside0 _).out); rintro e w' ⟨rfl, hb⟩; obtain ⟨hb, hc, hf⟩ := zk hb; have hy := zy w w'; simp only [zL, Nat.add_zero] at hy))
  all_goals first
    | (go_ret; exact ⟨rfl, Bw.out⟩)
    | (go_loopg [8] k (fun kq v8 w' => ∃ (x8_1 : Int), v8 = .int .i64 x8_1 ∧ Aside0 (api_Fill_51.l0 kq l0 (l0.length : Int) x8_1 = some r) ∧ Aside0 (kq ≤ k) ∧ Aside0 (Below w.heap.size w w'))
       case atStart => exact ⟨_, rfl, H', ⟨Nat.le_refl _⟩, ⟨Bw.out⟩⟩
       case round =>
        obtain ⟨x8_1, rfl, HA, HK1, HB⟩ := hrel
        have HB := Bw.mk HB.out; clear H'
        cases gk with
        | zero => exact absurd HA.out (by simp [api_Fill_51.l0])
        | succ k1 =>
          have h := HA.out; clear HA; simp only [api_Fill_51.l0] at h
          repeat' first
            | (with_reducible replace h := zs h)
            | (with_reducible replace h := zez h (by assumption) (by decide))
            | (with_reducible replace h := zb h; obtain ⟨t, A, h⟩ := h)
            | (with_reducible first | replace h := z1 h | replace h := z0 h | replace h := zep h (by assumption) | replace h := zen h (by assumption) | replace h := zcp h (by assumption) | replace h := zcn h (by assumption) | replace h := zbp h (by assumption) | replace h := zbn h (by assumption))
            | (with_reducible (first | replace h := zx h | replace h := zt h); obtain ⟨rfl, h⟩ | ⟨rfl, h⟩ := h)
            | (with_reducible (first | replace h := zd h | replace h := zl h | replace h := zm h); obtain ⟨c, h⟩ | ⟨c, h⟩ := h)
            | (with_reducible (first | replace h := ze h | replace h := zg h); obtain ⟨c, c', h⟩ | ⟨c, c', h⟩ := h)
            | (with_reducible replace h := zt h; obtain ⟨c, h⟩ | ⟨c, h⟩ := h)
            | (with_reducible replace h := Option.some.inj h; subst h)
            | (with_reducible exact (zn h).elim)
          all_goals
            have HN : Lw w wr 0 := ⟨HB.out.size⟩
            try (refine zat65 (W := wr) HC0 x8_1 ?_ ?_ ?_; assumption; assumption; rintro ad ⟨⟩; intros)
            try (have H' := za h; clear h)
            go_wp2_with (first
              | ((with_reducible refine zq ?_); first | go_quiet (fail))
              | (go_at_call 42; refine (style_Right_1.cn (by assumption : Aside0 _).out ?_ ?_).mono ?_; (focus with_reducible first | exact znil | exact zC (by assumption)); (first | exact Nat.le_refl _ | exact (by assumption : Aside0 _).out); rintro e w' ⟨rfl, hb⟩; obtain ⟨hb, hc, hf⟩ := zk hb; have hy := zy w w'; simp only [zL, Nat.add_zero] at hy; have hy := zy wr w'; simp only [zL, Nat.add_zero] at hy))
          all_goals first
            | (go_ret; exact ⟨rfl, Bw.out⟩)
            | (go_roundg k1
               case measure => have := HK1.out; omega
               case rel => exact ⟨_, rfl, H', ⟨by have := HK1.out; omega⟩, ⟨Bw.out⟩⟩))

/-! ### api_Fill_41: function 41 -/
def api_Fill_41.f (k : Nat) (l0 : List (S65))  : Option (Bool) := (api_Fill_51.f k l0).bind fun t155 => (some (decide (t155 ≥ 0)))
theorem api_Fill_41.mono : ∀ a0 k, LeO (api_Fill_41.f k a0) (api_Fill_41.f (k + 1) a0) := by
  intro a0 k
  unfold api_Fill_41.f
  repeat' first
      | with_reducible exact api_Fill_51.mono _ _
      | with_reducible exact LeO.refl _
      | with_reducible exact LeO.none _
      | with_reducible refine LeO.ite ?_ ?_
      | with_reducible refine LeO.bind ?_ (fun _ => ?_)
set_option maxHeartbeats 8000000 in
set_option maxRecDepth 100000 in
theorem api_Fill_41.cn {k : Nat} {A0 : Option Addr} {n0 c0 : Nat} {l0 : List (S65)} {r : Bool} {w : World} (h : api_Fill_41.f k l0 = some r) (hr0 : Kd.C k65 w A0 n0 l0) (hc0 : n0 ≤ c0) :
    Calls Try.prog 41 #[.slice A0 n0 c0, .func (.func 42) #[] #[]] w fun e w' => e = .returned (.bool r) ∧ Below w.heap.size w w' := by
  obtain rfl := hr0.1
  have HC0 := za hr0; have HL0 := za hc0; clear hr0 hc0
  unfold api_Fill_41.f at h
  repeat' first
    | (with_reducible replace h := zs h)
    | (with_reducible replace h := zez h (by assumption) (by decide))
    | (with_reducible replace h := zb h; obtain ⟨t, A, h⟩ := h)
    | (with_reducible first | replace h := z1 h | replace h := z0 h | replace h := zep h (by assumption) | replace h := zen h (by assumption) | replace h := zcp h (by assumption) | replace h := zcn h (by assumption) | replace h := zbp h (by assumption) | replace h := zbn h (by assumption))
    | (with_reducible (first | replace h := zx h | replace h := zt h); obtain ⟨rfl, h⟩ | ⟨rfl, h⟩ := h)
    | (with_reducible (first | replace h := zd h | replace h := zl h | replace h := zm h); obtain ⟨c, h⟩ | ⟨c, h⟩ := h)
    | (with_reducible (first | replace h := ze h | replace h := zg h); obtain ⟨c, c', h⟩ | ⟨c, c', h⟩ := h)
    | (with_reducible replace h := zt h; obtain ⟨c, h⟩ | ⟨c, h⟩ := h)
    | (with_reducible replace h := Option.some.inj h; subst h)
    | (with_reducible exact (zn h).elim)
  all_goals
    try (have H' := za h; clear h)
    go_enter Try.func41, Try.ntmps41
    go_wp2_with (first
      | ((with_reducible refine zq ?_); first | go_quiet (fail))
      | (go_at_call 51; refine (api_Fill_51.cn (by assumption : Aside0 _).out ?_ ?_).mono ?_; (focus with_reducible first | exact znil | exact zC (by assumption)); (first | exact Nat.le_refl _ | exact (by assumption : Aside0 _).out); rintro e w' ⟨rfl, hb⟩; obtain ⟨hb, hc, hf⟩ := zk hb; have hy := zy w w'; simp only [zL, Nat.add_zero] at hy))
  all_goals first
    | (go_ret; exact ⟨rfl, Bw.out⟩)

/-! ### api_Stroke_58: function 58 -/
def api_Stroke_58.l0 : Nat → List (S79) → Int → Int → Option (Int)
  | 0, _, _, _ => none
  | k + 1, x0, x7, x8 => if x8 < x7 then (if 0 ≤ x8 then (if x8 < (x0.length : Int) then ((style_Right_2.f k ((rd_T79 x0 x8).f0) ((rd_T79 x0 x8).f1.f0) ((rd_T79 x0 x8).f1.f1) ((rd_T79 x0 x8).f1.f2) ((rd_T79 x0 x8).f1.f3)).bind fun t157 => (if t157 = true then (some x8) else (api_Stroke_58.l0 k x0 x7 (wrap64 (x8 + 1))))) else (none)) else (none)) else (some (-1))
def api_Stroke_58.f (k : Nat) (l0 : List (S79))  : Option (Int) := api_Stroke_58.l0 k l0 (l0.length : Int) 0
theorem api_Stroke_58.mono_l : ∀ k, (∀ y0 y1 y2, LeO (api_Stroke_58.l0 k y0 y1 y2) (api_Stroke_58.l0 (k + 1) y0 y1 y2))
  | 0 => fun _ _ _ r h => by simp [api_Stroke_58.l0] at h
  | k + 1 => by
    have ih0 := api_Stroke_58.mono_l k
    · intro y0 y1 y2
      unfold api_Stroke_58.l0
      repeat' first
      | with_reducible exact ih0 _ _ _
      | with_reducible exact style_Right_2.mono _ _ _ _ _ _
      | with_reducible exact LeO.refl _
      | with_reducible exact LeO.none _
      | with_reducible refine LeO.ite ?_ ?_
      | with_reducible refine LeO.bind ?_ (fun _ => ?_)
theorem api_Stroke_58.mono : ∀ a0 k, LeO (api_Stroke_58.f k a0) (api_Stroke_58.f (k + 1) a0) := by
  intro a0 k
  have ih0 := api_Stroke_58.mono_l k
  unfold api_Stroke_58.f
  repeat' first
      | with_reducible exact ih0 _ _ _
      | with_reducible exact style_Right_2.mono _ _ _ _ _ _
      | with_reducible exact LeO.refl _
      | with_reducible exact LeO.none _
      | with_reducible refine LeO.ite ?_ ?_
      | with_reducible refine LeO.bind ?_ (fun _ => ?_)
set_option maxHeartbeats 8000000 in
set_option maxRecDepth 100000 in
theorem api_Stroke_58.cn {r : Int} {k : Nat} {A0 : Option Addr} {n0 c0 : Nat} {l0 : List (S79)} {w : World} (h : api_Stroke_58.f k l0 = some r) (hr0 : Kd.C k79 w A0 n0 l0) (hc0 : n0 ≤ c0) :
    Calls Try.prog 58 #[.slice A0 n0 c0, .func (.func 45) #[] #[]] w fun e w' => e = .returned (.int .i64 r) ∧ Below w.heap.size w w' := by
  obtain rfl := hr0.1
  have HC0 := za hr0; have HL0 := za hc0; clear hr0 hc0
  have hu79 := Try.underlying79
  unfold api_Stroke_58.f at h
  repeat' first
    | (with_reducible replace h := zs h)
    | (with_reducible replace h := zez h (by assumption) (by decide))
    | (with_reducible replace h := zb h; obtain ⟨t, A, h⟩ := h)
    | (with_reducible first | replace h := z1 h | replace h := z0 h | replace h := zep h (by assumption) | replace h := zen h (by assumption) | replace h := zcp h (by assumption) | replace h := zcn h (by assumption) | replace h := zbp h (by assumption) | replace h := zbn h (by assumption))
    | (with_reducible (first | replace h := zx h | replace h := zt h); obtain ⟨rfl, h⟩ | ⟨rfl, h⟩ := h)
    | (with_reducible (first | replace h := zd h | replace h := zl h | replace h := zm h); obtain ⟨c, h⟩ | ⟨c, h⟩ := h)
    | (with_reducible (first | replace h := ze h | replace h := zg h); obtain ⟨c, c', h⟩ | ⟨c, c', h⟩ := h)
    | (with_reducible replace h := zt h; obtain ⟨c, h⟩ | ⟨c, h⟩ := h)
    | (with_reducible replace h := Option.some.inj h; subst h)
    | (with_reducible exact (zn h).elim)
  all_goals
    try (have H' := za h; clear h)
    go_enter Try.func58, Try.ntmps58
    go_wp2_with (first
      | ((with_reducible refine zq ?_); first | go_quiet (fail))
      | (go_at_call 45; refine (style_Right_2.cn (by assumption : Aside0 _).out).mono ?_; rintro e w' ⟨rfl, hb⟩; obtain ⟨hb, hc, hf⟩ := zk hb; have hy := zy w w'; simp only [zL, Nat.add_zero] at hy))
  all_goals first
    | (go_ret; exact ⟨rfl, Bw.out⟩)
    | (go_loopg [8] k (fun kq v8 w' => ∃ (x8_1 : Int), v8 = .int .i64 x8_1 ∧ Aside0 (api_Stroke_58.l0 kq l0 (l0.length : Int) x8_1 = some r) ∧ Aside0 (kq ≤ k) ∧ Aside0 (Below w.heap.size w w'))
       case atStart => exact ⟨_, rfl, H', ⟨Nat.le_refl _⟩, ⟨Bw.out⟩⟩
       case round =>
        obtain ⟨x8_1, rfl, HA, HK1, HB⟩ := hrel
        have HB := Bw.mk HB.out; clear H'
        cases gk with
        | zero => exact absurd HA.out (by simp [api_Stroke_58.l0])
        | succ k1 =>
          have h := HA.out; clear HA; simp only [api_Stroke_58.l0] at h
          repeat' first
            | (with_reducible replace h := zs h)
            | (with_reducible replace h := zez h (by assumption) (by decide))
            | (with_reducible replace h := zb h; obtain ⟨t, A, h⟩ := h)
            | (with_reducible first | replace h := z1 h | replace h := z0 h | replace h := zep h (by assumption) | replace h := zen h (by assumption) | replace h := zcp h (by assumption) | replace h := zcn h (by assumption) | replace h := zbp h (by assumption) | replace h := zbn h (by assumption))
            | (with_reducible (first | replace h := zx h | replace h := zt h); obtain ⟨rfl, h⟩ | ⟨rfl, h⟩ := h)
            | (with_reducible (first | replace h := zd h | replace h := zl h | replace h := zm h); obtain ⟨c, h⟩ | ⟨c, h⟩ := h)
            | (with_reducible (first | replace h := ze h | replace h := zg h); obtain ⟨c, c', h⟩ | ⟨c, c', h⟩ := h)
            | (with_reducible replace h := zt h; obtain ⟨c, h⟩ | ⟨c, h⟩ := h)
            | (with_reducible replace h := Option.some.inj h; subst h)
            | (with_reducible exact (zn h).elim)
          all_goals
            have HN : Lw w wr 0 := ⟨HB.out.size⟩
            try (refine zat79 (W := wr) HC0 x8_1 ?_ ?_ ?_; assumption; assumption; rintro ad ⟨⟩; intros)
            try (have H' := za h; clear h)
            go_wp2_with (first
              | ((with_reducible refine zq ?_); first | go_quiet (fail))
              | (go_at_call 45; refine (style_Right_2.cn (by assumption : Aside0 _).out).mono ?_; rintro e w' ⟨rfl, hb⟩; obtain ⟨hb, hc, hf⟩ := zk hb; have hy := zy w w'; simp only [zL, Nat.add_zero] at hy; have hy := zy wr w'; simp only [zL, Nat.add_zero] at hy))
          all_goals first
            | (go_ret; exact ⟨rfl, Bw.out⟩)
            | (go_roundg k1
               case measure => have := HK1.out; omega
               case rel => exact ⟨_, rfl, H', ⟨by have := HK1.out; omega⟩, ⟨Bw.out⟩⟩))

/-! ### api_Stroke_44: function 44 -/
def api_Stroke_44.f (k : Nat) (l0 : List (S79))  : Option (Bool) := (api_Stroke_58.f k l0).bind fun t158 => (some (decide (t158 ≥ 0)))
theorem api_Stroke_44.mono : ∀ a0 k, LeO (api_Stroke_44.f k a0) (api_Stroke_44.f (k + 1) a0) := by
  intro a0 k
  unfold api_Stroke_44.f
  repeat' first
      | with_reducible exact api_Stroke_58.mono _ _
      | with_reducible exact LeO.refl _
      | with_reducible exact LeO.none _
      | with_reducible refine LeO.ite ?_ ?_
      | with_reducible refine LeO.bind ?_ (fun _ => ?_)
set_option maxHeartbeats 8000000 in
set_option maxRecDepth 100000 in
theorem api_Stroke_44.cn {k : Nat} {A0 : Option Addr} {n0 c0 : Nat} {l0 : List (S79)} {r : Bool} {w : World} (h : api_Stroke_44.f k l0 = some r) (hr0 : Kd.C k79 w A0 n0 l0) (hc0 : n0 ≤ c0) :
    Calls Try.prog 44 #[.slice A0 n0 c0, .func (.func 45) #[] #[]] w fun e w' => e = .returned (.bool r) ∧ Below w.heap.size w w' := by
  obtain rfl := hr0.1
  have HC0 := za hr0; have HL0 := za hc0; clear hr0 hc0
  unfold api_Stroke_44.f at h
  repeat' first
    | (with_reducible replace h := zs h)
    | (with_reducible replace h := zez h (by assumption) (by decide))
    | (with_reducible replace h := zb h; obtain ⟨t, A, h⟩ := h)
    | (with_reducible first | replace h := z1 h | replace h := z0 h | replace h := zep h (by assumption) | replace h := zen h (by assumption) | replace h := zcp h (by assumption) | replace h := zcn h (by assumption) | replace h := zbp h (by assumption) | replace h := zbn h (by assumption))
    | (with_reducible (first | replace h := zx h | replace h := zt h); obtain ⟨rfl, h⟩ | ⟨rfl, h⟩ := h)
    | (with_reducible (first | replace h := zd h | replace h := zl h | replace h := zm h); obtain ⟨c, h⟩ | ⟨c, h⟩ := h)
    | (with_reducible (first | replace h := ze h | replace h := zg h); obtain ⟨c, c', h⟩ | ⟨c, c', h⟩ := h)
    | (with_reducible replace h := zt h; obtain ⟨c, h⟩ | ⟨c, h⟩ := h)
    | (with_reducible replace h := Option.some.inj h; subst h)
    | (with_reducible exact (zn h).elim)
  all_goals
    try (have H' := za h; clear h)
    go_enter Try.func44, Try.ntmps44
    go_wp2_with (first
      | ((with_reducible refine zq ?_); first | go_quiet (fail))
      | (go_at_call 58; refine (api_Stroke_58.cn (by assumption : Aside0 _).out ?_ ?_).mono ?_; (focus with_reducible first | exact znil | exact zC (by assumption)); (first | exact Nat.le_refl _ | exact (by assumption : Aside0 _).out); rintro e w' ⟨rfl, hb⟩; obtain ⟨hb, hc, hf⟩ := zk hb; have hy := zy w w'; simp only [zL, Nat.add_zero] at hy))
  all_goals first
    | (go_ret; exact ⟨rfl, Bw.out⟩)

/-! ### style_Right: function 31 -/
def style_Right.f (k : Nat) (l0 : List (S65)) (l1 : List (S79)) : Option (Bool) := if (l0.length : Int) ≤ 15 then (if (l1.length : Int) ≤ 15 then ((api_Fill_41.f k l0).bind fun t159 => (if t159 = true then (some false) else ((api_Stroke_44.f k l1).bind fun t160 => (some (!t160))))) else (some false)) else (some false)
theorem style_Right.mono : ∀ a0 a1 k, LeO (style_Right.f k a0 a1) (style_Right.f (k + 1) a0 a1) := by
  intro a0 a1 k
  unfold style_Right.f
  repeat' first
      | with_reducible exact api_Fill_41.mono _ _
      | with_reducible exact api_Stroke_44.mono _ _
      | with_reducible exact LeO.refl _
      | with_reducible exact LeO.none _
      | with_reducible refine LeO.ite ?_ ?_
      | with_reducible refine LeO.bind ?_ (fun _ => ?_)
set_option maxHeartbeats 8000000 in
set_option maxRecDepth 100000 in
theorem style_Right.cn {k : Nat} {A0 : Option Addr} {n0 c0 : Nat} {l0 : List (S65)} {A1 : Option Addr} {n1 c1 : Nat} {l1 : List (S79)} {r : Bool} {w : World} (h : style_Right.f k l0 l1 = some r) (hr0 : Kd.C k65 w A0 n0 l0) (hc0 : n0 ≤ c0) (hr1 : Kd.C k79 w A1 n1 l1) (hc1 : n1 ≤ c1) :
    Calls Try.prog 31 #[.slice A0 n0 c0, .slice A1 n1 c1] w fun e w' => e = .returned (.bool r) ∧ Below w.heap.size w w' := by
  obtain rfl := hr0.1
  obtain rfl := hr1.1
  have HC0 := za hr0; have HL0 := za hc0; clear hr0 hc0
  have HC1 := za hr1; have HL1 := za hc1; clear hr1 hc1
  unfold style_Right.f at h
  repeat' first
    | (with_reducible replace h := zs h)
    | (with_reducible replace h := zez h (by assumption) (by decide))
    | (with_reducible replace h := zb h; obtain ⟨t, A, h⟩ := h)
    | (with_reducible first | replace h := z1 h | replace h := z0 h | replace h := zep h (by assumption) | replace h := zen h (by assumption) | replace h := zcp h (by assumption) | replace h := zcn h (by assumption) | replace h := zbp h (by assumption) | replace h := zbn h (by assumption))
    | (with_reducible (first | replace h := zx h | replace h := zt h); obtain ⟨rfl, h⟩ | ⟨rfl, h⟩ := h)
    | (with_reducible (first | replace h := zd h | replace h := zl h | replace h := zm h); obtain ⟨c, h⟩ | ⟨c, h⟩ := h)
    | (with_reducible (first | replace h := ze h | replace h := zg h); obtain ⟨c, c', h⟩ | ⟨c, c', h⟩ := h)
    | (with_reducible replace h := zt h; obtain ⟨c, h⟩ | ⟨c, h⟩ := h)
    | (with_reducible replace h := Option.some.inj h; subst h)
    | (with_reducible exact (zn h).elim)
  all_goals
    try (have H' := za h; clear h)
    go_enter Try.func31, Try.ntmps31
    go_wp2_with (first
      | ((with_reducible refine zq ?_); first | go_quiet (fail))
      | (go_at_call 41; refine (api_Fill_41.cn (by assumption : Aside0 _).out ?_ ?_).mono ?_; (focus with_reducible first | exact znil | exact zC (by assumption)); (first | exact Nat.le_refl _ | exact (by assumption : Aside0 _).out); rintro e w' ⟨rfl, hb⟩; obtain ⟨hb, hc, hf⟩ := zk hb; have hy := zy w w'; simp only [zL, Nat.add_zero] at hy)
      | (go_at_call 44; refine (api_Stroke_44.cn (by assumption : Aside0 _).out ?_ ?_).mono ?_; (focus with_reducible first | exact znil | exact zC (by assumption)); (first | exact Nat.le_refl _ | exact (by assumption : Aside0 _).out); rintro e w' ⟨rfl, hb⟩; obtain ⟨hb, hc, hf⟩ := zk hb; have hy := zy w w'; simp only [zL, Nat.add_zero] at hy))
  all_goals first
    | (go_ret; exact ⟨rfl, Bw.out⟩)

/-! ### api_Stroke_61: function 61 -/
def api_Stroke_61.l0 : Nat → List (S79) → List (S79) → Int → Int → Option (Bool)
  | 0, _, _, _, _ => none
  | k + 1, x0, x1, x12, x13 => if x13 < x12 then (if 0 ≤ x13 then (if x13 < (x0.length : Int) then (if x13 < (x1.length : Int) then (if (!(((rd_T79 x0 x13).f0) == ((rd_T79 x1 x13).f0)) || ((!(((rd_T79 x0 x13).f1.f0) == ((rd_T79 x1 x13).f1.f0)) || (!(((rd_T79 x0 x13).f1.f1) == ((rd_T79 x1 x13).f1.f1)) || (!(((rd_T79 x0 x13).f1.f2) == ((rd_T79 x1 x13).f1.f2)) || (!(((rd_T79 x0 x13).f1.f3) == ((rd_T79 x1 x13).f1.f3)))))))) = true then (some false) else (api_Stroke_61.l0 k x0 x1 x12 (wrap64 (x13 + 1)))) else (none)) else (none)) else (none)) else (some true)
def api_Stroke_61.f (k : Nat) (l0 : List (S79)) (l1 : List (S79)) : Option (Bool) := if (l0.length : Int) = (l1.length : Int) then (api_Stroke_61.l0 k l0 l1 (l0.length : Int) 0) else (some false)
theorem api_Stroke_61.mono_l : ∀ k, (∀ y0 y1 y2 y3, LeO (api_Stroke_61.l0 k y0 y1 y2 y3) (api_Stroke_61.l0 (k + 1) y0 y1 y2 y3))
  | 0 => fun _ _ _ _ r h => by simp [api_Stroke_61.l0] at h
  | k + 1 => by
    have ih0 := api_Stroke_61.mono_l k
    · intro y0 y1 y2 y3
      unfold api_Stroke_61.l0
      repeat' first
      | with_reducible exact ih0 _ _ _ _
      | with_reducible exact LeO.refl _
      | with_reducible exact LeO.none _
      | with_reducible refine LeO.ite ?_ ?_
      | with_reducible refine LeO.bind ?_ (fun _ => ?_)
theorem api_Stroke_61.mono : ∀ a0 a1 k, LeO (api_Stroke_61.f k a0 a1) (api_Stroke_61.f (k + 1) a0 a1) := by
  intro a0 a1 k
  have ih0 := api_Stroke_61.mono_l k
  unfold api_Stroke_61.f
  repeat' first
      | with_reducible exact ih0 _ _ _ _
      | with_reducible exact LeO.refl _
      | with_reducible exact LeO.none _
      | with_reducible refine LeO.ite ?_ ?_
      | with_reducible refine LeO.bind ?_ (fun _ => ?_)
set_option maxHeartbeats 8000000 in
set_option maxRecDepth 100000 in
theorem api_Stroke_61.cn {k : Nat} {A0 : Option Addr} {n0 c0 : Nat} {l0 : List (S79)} {A1 : Option Addr} {n1 c1 : Nat} {l1 : List (S79)} {r : Bool} {w : World} (h : api_Stroke_61.f k l0 l1 = some r) (hr0 : Kd.C k79 w A0 n0 l0) (hc0 : n0 ≤ c0) (hr1 : Kd.C k79 w A1 n1 l1) (hc1 : n1 ≤ c1) :
    Calls Try.prog 61 #[.slice A0 n0 c0, .slice A1 n1 c1] w fun e w' => e = .returned (.bool r) ∧ Drawn0 w w' := by
  obtain rfl := hr0.1
  obtain rfl := hr1.1
  have HC0 := za hr0; have HL0 := za hc0; clear hr0 hc0
  have HC1 := za hr1; have HL1 := za hc1; clear hr1 hc1
  have HB := Drawn0.refl w
  have hu79 := Try.underlying79
  unfold api_Stroke_61.f at h
  repeat' first
    | (with_reducible replace h := zs h)
    | (with_reducible replace h := zez h (by assumption) (by decide))
    | (with_reducible replace h := zb h; obtain ⟨t, A, h⟩ := h)
    | (with_reducible first | replace h := z1 h | replace h := z0 h | replace h := zep h (by assumption) | replace h := zen h (by assumption) | replace h := zcp h (by assumption) | replace h := zcn h (by assumption) | replace h := zbp h (by assumption) | replace h := zbn h (by assumption))
    | (with_reducible (first | replace h := zx h | replace h := zt h); obtain ⟨rfl, h⟩ | ⟨rfl, h⟩ := h)
    | (with_reducible (first | replace h := zd h | replace h := zl h | replace h := zm h); obtain ⟨c, h⟩ | ⟨c, h⟩ := h)
    | (with_reducible (first | replace h := ze h | replace h := zg h); obtain ⟨c, c', h⟩ | ⟨c, c', h⟩ := h)
    | (with_reducible replace h := zt h; obtain ⟨c, h⟩ | ⟨c, h⟩ := h)
    | (with_reducible replace h := Option.some.inj h; subst h)
    | (with_reducible exact (zn h).elim)
  all_goals
    try (have H' := za h; clear h)
    go_enter Try.func61, Try.ntmps61
    go_wp2_with (first
      | ((with_reducible refine zq ?_); first | go_quiet (fail)))
  all_goals first
    | (go_ret; exact ⟨rfl, by repeat (first | exact HB | exact Drawn0.refl _ | apply Drawn0.step)⟩)
    | (go_loopg [13] k (fun kq v13 w' => ∃ (x13_1 : Int), v13 = .int .i64 x13_1 ∧ Aside0 (api_Stroke_61.l0 kq l0 l1 (l0.length : Int) x13_1 = some r) ∧ Aside0 (kq ≤ k) ∧ Drawn0 w w')
       case atStart => exact ⟨_, rfl, H', ⟨Nat.le_refl _⟩, by repeat (first | exact HB | exact Drawn0.refl _ | apply Drawn0.step)⟩
       case round =>
        obtain ⟨x13_1, rfl, HA, HK1, HB⟩ := hrel
        have HW := Bw.mk HB.below; clear H'
        cases gk with
        | zero => exact absurd HA.out (by simp [api_Stroke_61.l0])
        | succ k1 =>
          have h := HA.out; clear HA; simp only [api_Stroke_61.l0] at h
          repeat' first
            | (with_reducible replace h := zs h)
            | (with_reducible replace h := zez h (by assumption) (by decide))
            | (with_reducible replace h := zb h; obtain ⟨t, A, h⟩ := h)
            | (with_reducible first | replace h := z1 h | replace h := z0 h | replace h := zep h (by assumption) | replace h := zen h (by assumption) | replace h := zcp h (by assumption) | replace h := zcn h (by assumption) | replace h := zbp h (by assumption) | replace h := zbn h (by assumption))
            | (with_reducible (first | replace h := zx h | replace h := zt h); obtain ⟨rfl, h⟩ | ⟨rfl, h⟩ := h)
            | (with_reducible (first | replace h := zd h | replace h := zl h | replace h := zm h); obtain ⟨c, h⟩ | ⟨c, h⟩ := h)
            | (with_reducible (first | replace h := ze h | replace h := zg h); obtain ⟨c, c', h⟩ | ⟨c, c', h⟩ := h)
            | (with_reducible replace h := zt h; obtain ⟨c, h⟩ | ⟨c, h⟩ := h)
            | (with_reducible replace h := Option.some.inj h; subst h)
            | (with_reducible exact (zn h).elim)
          all_goals
            have HN : Lw w wr 0 := ⟨HW.out.size⟩
            try (refine zat79 (W := wr) HC0 x13_1 ?_ ?_ ?_; assumption; assumption; rintro ad ⟨⟩; intros)
            try (refine zat79 (W := wr) HC1 x13_1 ?_ ?_ ?_; assumption; assumption; rintro ad ⟨⟩; intros)
            try (have H' := za h; clear h)
            go_wp2_with (first
              | ((with_reducible refine zq ?_); first | go_quiet (fail)))
          all_goals first
            | (go_ret; exact ⟨rfl, by repeat (first | exact HB | exact Drawn0.refl _ | apply Drawn0.step)⟩)
            | (go_roundg k1
               case measure => have := HK1.out; omega
               case rel => exact ⟨_, rfl, H', ⟨by have := HK1.out; omega⟩, by repeat (first | exact HB | exact Drawn0.refl _ | apply Drawn0.step)⟩))

end Go.Proofs.Ytlldbmodidhidaa.P
