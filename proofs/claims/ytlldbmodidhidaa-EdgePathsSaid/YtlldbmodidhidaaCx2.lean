/- Walks by cw.py (wip/tool): plain functions that tell what the program answers, and the proofs that the program comes to these answers, for all arguments of their kinds. -/
import Derived.Test.YtlldbmodidhidaaCx1
namespace Go.Proofs.Ytlldbmodidhidaa.P
open Go.RowKit Go.Proofs.YtlldbmodidhidaaW.PrintWords Go.Proofs.YtlldbmodidhidaaW.PrintLast Go.Proofs.YtlldbmodidhidaaW.PrintMore
attribute [local go_sem] max2_int min2_int max_two min_two max_three min_three max_four min_four max_five min_five max_six min_six
set_option linter.unusedVariables false
set_option linter.unusedSimpArgs false

/-! ### shape_same: function 59 -/
mutual
def shape_same.j0 : Nat → Bool → Int → Int → Int → Int → Int → Int → Int → Int → List (S65) → List (S79) → Int → Int → Int → Int → Int → Int → Int → Int → List (S65) → List (S79) → Option (Bool)
  | 0, _, _, _, _, _, _, _, _, _, _, _, _, _, _, _, _, _, _, _, _, _ => none
  | k + 1, x20, x164000, x164001, x164002, x164003, x164004, x164005, x164006, x164007, x164008, x164009, x165000, x165001, x165002, x165003, x165004, x165005, x165006, x165007, x165008, x165009 => if x20 = true then (some false) else (shape_same.l0 k (x164008.length : Int) 0 x164000 x164001 x164002 x164003 x164004 x164005 x164006 x164007 x164008 x164009 x165000 x165001 x165002 x165003 x165004 x165005 x165006 x165007 x165008 x165009)
def shape_same.l0 : Nat → Int → Int → Int → Int → Int → Int → Int → Int → Int → Int → List (S65) → List (S79) → Int → Int → Int → Int → Int → Int → Int → Int → List (S65) → List (S79) → Option (Bool)
  | 0, _, _, _, _, _, _, _, _, _, _, _, _, _, _, _, _, _, _, _, _, _, _ => none
  | k + 1, x23, x24, x164000, x164001, x164002, x164003, x164004, x164005, x164006, x164007, x164008, x164009, x165000, x165001, x165002, x165003, x165004, x165005, x165006, x165007, x165008, x165009 => if x24 < x23 then (if 0 ≤ x24 then (if x24 < (x164008.length : Int) then (if x24 < (x165008.length : Int) then ((style_SameFill.f k ((rd_T65 x164008 x24).f0) ((rd_T65 x164008 x24).f1.f0) ((rd_T65 x164008 x24).f1.f1) ((rd_T65 x164008 x24).f1.f2) ((rd_T65 x164008 x24).f1.f3) ((rd_T65 x164008 x24).f2.f0) ((rd_T65 x164008 x24).f2.f1) ((rd_T65 x164008 x24).f2.f2) ((rd_T65 x164008 x24).f2.f3) ((rd_T65 x164008 x24).f2.f4) ((rd_T65 x164008 x24).f2.f5) ((rd_T65 x164008 x24).f3) ((rd_T65 x164008 x24).f4) ((rd_T65 x164008 x24).f5) ((rd_T65 x165008 x24).f0) ((rd_T65 x165008 x24).f1.f0) ((rd_T65 x165008 x24).f1.f1) ((rd_T65 x165008 x24).f1.f2) ((rd_T65 x165008 x24).f1.f3) ((rd_T65 x165008 x24).f2.f0) ((rd_T65 x165008 x24).f2.f1) ((rd_T65 x165008 x24).f2.f2) ((rd_T65 x165008 x24).f2.f3) ((rd_T65 x165008 x24).f2.f4) ((rd_T65 x165008 x24).f2.f5) ((rd_T65 x165008 x24).f3) ((rd_T65 x165008 x24).f4) ((rd_T65 x165008 x24).f5)).bind fun t168 => (if t168 = true then (shape_same.l0 k x23 (wrap64 (x24 + 1)) x164000 x164001 x164002 x164003 x164004 x164005 x164006 x164007 x164008 x164009 x165000 x165001 x165002 x165003 x165004 x165005 x165006 x165007 x165008 x165009) else (some false))) else (none)) else (none)) else (none)) else (if x164000 = x165000 then (if x164001 = x165001 then (if x164002 = x165002 then (if x164003 = x165003 then (if x164004 = x165004 then (if x164005 = x165005 then (if x164006 = x165006 then (some (x164007 == x165007)) else (some false)) else (some false)) else (some false)) else (some false)) else (some false)) else (some false)) else (some false))
end
def shape_same.f (k : Nat) (a0_0 : Int) (a0_1 : Int) (a0_2 : Int) (a0_3 : Int) (a0_4 : Int) (a0_5 : Int) (a0_6 : Int) (a0_7 : Int) (l0_8 : List (S65)) (l0_9 : List (S79)) (a1_0 : Int) (a1_1 : Int) (a1_2 : Int) (a1_3 : Int) (a1_4 : Int) (a1_5 : Int) (a1_6 : Int) (a1_7 : Int) (l1_8 : List (S65)) (l1_9 : List (S79)) : Option (Bool) := if (l0_8.length : Int) = (l1_8.length : Int) then ((api_Stroke_61.f k l0_9 l1_9).bind fun t165 => (shape_same.j0 k (!t165) a0_0 a0_1 a0_2 a0_3 a0_4 a0_5 a0_6 a0_7 l0_8 l0_9 a1_0 a1_1 a1_2 a1_3 a1_4 a1_5 a1_6 a1_7 l1_8 l1_9)) else (shape_same.j0 k true a0_0 a0_1 a0_2 a0_3 a0_4 a0_5 a0_6 a0_7 l0_8 l0_9 a1_0 a1_1 a1_2 a1_3 a1_4 a1_5 a1_6 a1_7 l1_8 l1_9)
theorem shape_same.mono_l : ∀ k, (∀ y0 y1 y2 y3 y4 y5 y6 y7 y8 y9 y10 y11 y12 y13 y14 y15 y16 y17 y18 y19 y20, LeO (shape_same.j0 k y0 y1 y2 y3 y4 y5 y6 y7 y8 y9 y10 y11 y12 y13 y14 y15 y16 y17 y18 y19 y20) (shape_same.j0 (k + 1) y0 y1 y2 y3 y4 y5 y6 y7 y8 y9 y10 y11 y12 y13 y14 y15 y16 y17 y18 y19 y20)) ∧ (∀ y0 y1 y2 y3 y4 y5 y6 y7 y8 y9 y10 y11 y12 y13 y14 y15 y16 y17 y18 y19 y20 y21, LeO (shape_same.l0 k y0 y1 y2 y3 y4 y5 y6 y7 y8 y9 y10 y11 y12 y13 y14 y15 y16 y17 y18 y19 y20 y21) (shape_same.l0 (k + 1) y0 y1 y2 y3 y4 y5 y6 y7 y8 y9 y10 y11 y12 y13 y14 y15 y16 y17 y18 y19 y20 y21))
  | 0 => ⟨fun _ _ _ _ _ _ _ _ _ _ _ _ _ _ _ _ _ _ _ _ _ r h => by simp [shape_same.j0] at h, fun _ _ _ _ _ _ _ _ _ _ _ _ _ _ _ _ _ _ _ _ _ _ r h => by simp [shape_same.l0] at h⟩
  | k + 1 => by
    obtain ⟨ih0, ih1⟩ := shape_same.mono_l k
    refine ⟨?_, ?_⟩
    · intro y0 y1 y2 y3 y4 y5 y6 y7 y8 y9 y10 y11 y12 y13 y14 y15 y16 y17 y18 y19 y20
      unfold shape_same.j0
      repeat' first
      | with_reducible exact ih0 _ _ _ _ _ _ _ _ _ _ _ _ _ _ _ _ _ _ _ _ _
      | with_reducible exact ih1 _ _ _ _ _ _ _ _ _ _ _ _ _ _ _ _ _ _ _ _ _ _
      | with_reducible exact api_Stroke_61.mono _ _ _
      | with_reducible exact style_SameFill.mono _ _ _ _ _ _ _ _ _ _ _ _ _ _ _ _ _ _ _ _ _ _ _ _ _ _ _ _ _
      | with_reducible exact LeO.refl _
      | with_reducible exact LeO.none _
      | with_reducible refine LeO.ite ?_ ?_
      | with_reducible refine LeO.bind ?_ (fun _ => ?_)
    · intro y0 y1 y2 y3 y4 y5 y6 y7 y8 y9 y10 y11 y12 y13 y14 y15 y16 y17 y18 y19 y20 y21
      unfold shape_same.l0
      repeat' first
      | with_reducible exact ih0 _ _ _ _ _ _ _ _ _ _ _ _ _ _ _ _ _ _ _ _ _
      | with_reducible exact ih1 _ _ _ _ _ _ _ _ _ _ _ _ _ _ _ _ _ _ _ _ _ _
      | with_reducible exact api_Stroke_61.mono _ _ _
      | with_reducible exact style_SameFill.mono _ _ _ _ _ _ _ _ _ _ _ _ _ _ _ _ _ _ _ _ _ _ _ _ _ _ _ _ _
      | with_reducible exact LeO.refl _
      | with_reducible exact LeO.none _
      | with_reducible refine LeO.ite ?_ ?_
      | with_reducible refine LeO.bind ?_ (fun _ => ?_)
theorem shape_same.mono : ∀ a0 a1 a2 a3 a4 a5 a6 a7 a8 a9 a10 a11 a12 a13 a14 a15 a16 a17 a18 a19 k, LeO (shape_same.f k a0 a1 a2 a3 a4 a5 a6 a7 a8 a9 a10 a11 a12 a13 a14 a15 a16 a17 a18 a19) (shape_same.f (k + 1) a0 a1 a2 a3 a4 a5 a6 a7 a8 a9 a10 a11 a12 a13 a14 a15 a16 a17 a18 a19) := by
  intro a0 a1 a2 a3 a4 a5 a6 a7 a8 a9 a10 a11 a12 a13 a14 a15 a16 a17 a18 a19 k
  obtain ⟨ih0, ih1⟩ := shape_same.mono_l k
  unfold shape_same.f
  repeat' first
      | with_reducible exact ih0 _ _ _ _ _ _ _ _ _ _ _ _ _ _ _ _ _ _ _ _ _
      | with_reducible exact ih1 _ _ _ _ _ _ _ _ _ _ _ _ _ _ _ _ _ _ _ _ _ _
      | with_reducible exact api_Stroke_61.mono _ _ _
      | with_reducible exact style_SameFill.mono _ _ _ _ _ _ _ _ _ _ _ _ _ _ _ _ _ _ _ _ _ _ _ _ _ _ _ _ _
      | with_reducible exact LeO.refl _
      | with_reducible exact LeO.none _
      | with_reducible refine LeO.ite ?_ ?_
      | with_reducible refine LeO.bind ?_ (fun _ => ?_)
set_option maxHeartbeats 8000000 in
set_option maxRecDepth 100000 in
theorem shape_same.cn {a0_0 a0_1 a0_2 a0_3 a0_4 a0_5 a0_6 a0_7 a1_0 a1_1 a1_2 a1_3 a1_4 a1_5 a1_6 a1_7 : Int} {k : Nat} {A0_8 : Option Addr} {n0_8 c0_8 : Nat} {l0_8 : List (S65)} {A0_9 : Option Addr} {n0_9 c0_9 : Nat} {l0_9 : List (S79)} {A1_8 : Option Addr} {n1_8 c1_8 : Nat} {l1_8 : List (S65)} {A1_9 : Option Addr} {n1_9 c1_9 : Nat} {l1_9 : List (S79)} {r : Bool} {w : World} (h : shape_same.f k a0_0 a0_1 a0_2 a0_3 a0_4 a0_5 a0_6 a0_7 l0_8 l0_9 a1_0 a1_1 a1_2 a1_3 a1_4 a1_5 a1_6 a1_7 l1_8 l1_9 = some r) (hr0_8 : Kd.C k65 w A0_8 n0_8 l0_8) (hc0_8 : n0_8 ≤ c0_8) (hr0_9 : Kd.C k79 w A0_9 n0_9 l0_9) (hc0_9 : n0_9 ≤ c0_9) (hr1_8 : Kd.C k65 w A1_8 n1_8 l1_8) (hc1_8 : n1_8 ≤ c1_8) (hr1_9 : Kd.C k79 w A1_9 n1_9 l1_9) (hc1_9 : n1_9 ≤ c1_9) :
    Calls Try.prog 59 #[.agg #[.int .i64 a0_0, .int .i64 a0_1, .int .i64 a0_2, .int .i64 a0_3, .int .i64 a0_4, .int .i64 a0_5, .int .i64 a0_6, .int .i64 a0_7, .slice A0_8 n0_8 c0_8, .slice A0_9 n0_9 c0_9], .agg #[.int .i64 a1_0, .int .i64 a1_1, .int .i64 a1_2, .int .i64 a1_3, .int .i64 a1_4, .int .i64 a1_5, .int .i64 a1_6, .int .i64 a1_7, .slice A1_8 n1_8 c1_8, .slice A1_9 n1_9 c1_9]] w fun e w' => e = .returned (.bool r) ∧ Below w.heap.size w w' := by
  obtain rfl := hr0_8.1
  obtain rfl := hr0_9.1
  obtain rfl := hr1_8.1
  obtain rfl := hr1_9.1
  have HC0_8 := za hr0_8; have HL0_8 := za hc0_8; clear hr0_8 hc0_8
  have HC0_9 := za hr0_9; have HL0_9 := za hc0_9; clear hr0_9 hc0_9
  have HC1_8 := za hr1_8; have HL1_8 := za hc1_8; clear hr1_8 hc1_8
  have HC1_9 := za hr1_9; have HL1_9 := za hc1_9; clear hr1_9 hc1_9
  have hu49 := Try.underlying49
  have hu65 := Try.underlying65
  unfold shape_same.f at h
  repeat' first
    | (with_reducible replace h := zs h)
    | (with_reducible replace h := zez h (by assumption) (by decide))
    | (with_reducible replace h := zb h; obtain ⟨t, A, h⟩ := h)
    | (with_reducible first | replace h := z1 h | replace h := z0 h | replace h := zep h (by assumption) | replace h := zen h (by assumption) | replace h := zcp h (by assumption) | replace h := zcn h (by assumption) | replace h := zbp h (by assumption) | replace h := zbn h (by assumption))
    | (with_reducible (first | replace h := zx h | replace h := zt h); obtain ⟨rfl, h⟩ | ⟨rfl, h⟩ := h)
    | (with_reducible (first | replace h := zd h | replace h := zl h | replace h := zm h); obtain ⟨c, h⟩ | ⟨c, h⟩ := h)
    | (with_reducible (first | replace h := ze h | replace h := zg h); obtain ⟨c, c', h⟩ | ⟨c, c', h⟩ := h)
    | (with_reducible replace h := zt h; obtain ⟨c, h⟩ | ⟨c, h⟩ := h)
    | (with_reducible replace h := Option.some.inj h; subst h)
    | (with_reducible exact (zn h).elim)
    | (obtain _ | k := k; exact absurd h (by simp [shape_same.j0]); simp only [shape_same.j0, if_true, if_false, Bool.false_eq_true] at h)
  all_goals
    try (have H' := za h; clear h)
    go_enter Try.func59, Try.ntmps59
    go_wp2_with (first
      | ((with_reducible refine zq ?_); first | go_quiet ((first | (go_at_call 61; refine Calls.quiet_of ((api_Stroke_61.cn (by assumption : Aside0 _).out ?_ ?_ ?_ ?_).mono fun _ _ h => ⟨h.1, h.2.out⟩); (focus with_reducible first | exact znil | exact zC (by assumption)); (first | exact Nat.le_refl _ | exact (by assumption : Aside0 _).out); (focus with_reducible first | exact znil | exact zC (by assumption)); (first | exact Nat.le_refl _ | exact (by assumption : Aside0 _).out)))) | (go_still_tail 10, (by kernel_rfl); change wpList _ _ _ _ _ (World.drew _)))
      | (go_at_call 61; refine (api_Stroke_61.cn (by assumption : Aside0 _).out ?_ ?_ ?_ ?_).mono ?_; (focus with_reducible first | exact znil | exact zC (by assumption)); (first | exact Nat.le_refl _ | exact (by assumption : Aside0 _).out); (focus with_reducible first | exact znil | exact zC (by assumption)); (first | exact Nat.le_refl _ | exact (by assumption : Aside0 _).out); rintro e w' ⟨rfl, ⟨n, rfl⟩⟩)
      | (go_at_call 53; refine (style_SameFill.cn (by assumption : Aside0 _).out ?_ ?_ ?_ ?_).mono ?_; (focus with_reducible first | exact znil | exact zC (by assumption)); (first | exact Nat.le_refl _ | exact (by assumption : Aside0 _).out); (focus with_reducible first | exact znil | exact zC (by assumption)); (first | exact Nat.le_refl _ | exact (by assumption : Aside0 _).out); rintro e w' ⟨rfl, hb⟩; obtain ⟨hb, hc, hf⟩ := zk hb; have hy := zy w w'; simp only [zL, Nat.add_zero] at hy))
  all_goals first
    | (go_ret; exact ⟨rfl, Bw.out⟩)
    | (go_loopg [24] k (fun kq v24 w' => ∃ (x24_2 : Int), v24 = .int .i64 x24_2 ∧ Aside0 (shape_same.l0 kq (l0_8.length : Int) x24_2 a0_0 a0_1 a0_2 a0_3 a0_4 a0_5 a0_6 a0_7 l0_8 l0_9 a1_0 a1_1 a1_2 a1_3 a1_4 a1_5 a1_6 a1_7 l1_8 l1_9 = some r) ∧ Aside0 (kq ≤ k) ∧ Aside0 (w'.heap[w.heap.size]? = some (.cells #[.int .i64 a0_0, .int .i64 a0_1, .int .i64 a0_2, .int .i64 a0_3, .int .i64 a0_4, .int .i64 a0_5, .int .i64 a0_6, .int .i64 a0_7, .slice A0_8 l0_8.length c0_8, .slice A0_9 l0_9.length c0_9] 49 (0, 0))) ∧ Aside0 (w'.heap[w.heap.size + 1]? = some (.cells #[.int .i64 a1_0, .int .i64 a1_1, .int .i64 a1_2, .int .i64 a1_3, .int .i64 a1_4, .int .i64 a1_5, .int .i64 a1_6, .int .i64 a1_7, .slice A1_8 l1_8.length c1_8, .slice A1_9 l1_9.length c1_9] 49 (0, 0))) ∧ Aside0 (Below w.heap.size w w'))
       case atStart => exact ⟨_, rfl, H', ⟨Nat.le_refl _⟩, ⟨by (with_reducible repeat (first | exact (by assumption : Aside0 _).out | (refine znew ?_; simp only [World.size_alloc, World.heap_drewN, heap_drew]; done) | refine blk_alloc ?_ _ | refine blk_drewN ?_ _ | refine blk_drew ?_ | refine blk_below ?_ Bs.out | apply zput | (refine zfar ?_ ?_; (focus omega)))) <;> rfl⟩, ⟨by (with_reducible repeat (first | exact (by assumption : Aside0 _).out | (refine znew ?_; simp only [World.size_alloc, World.heap_drewN, heap_drew]; done) | refine blk_alloc ?_ _ | refine blk_drewN ?_ _ | refine blk_drew ?_ | refine blk_below ?_ Bs.out | apply zput | (refine zfar ?_ ?_; (focus omega)))) <;> rfl⟩, ⟨Bw.out⟩⟩
       case round =>
        obtain ⟨x24_2, rfl, HA, HK1, BK0, BK1, HB⟩ := hrel
        have HB := Bw.mk HB.out; clear H'
        cases gk with
        | zero => exact absurd HA.out (by simp [shape_same.l0])
        | succ k1 =>
          have h := HA.out; clear HA; simp only [shape_same.l0] at h
          repeat' first
            | (with_reducible replace h := zs h)
            | (with_reducible replace h := zez h (by assumption) (by decide))
            | (with_reducible replace h := zb h; obtain ⟨t, A, h⟩ := h)
            | (with_reducible first | replace h := z1 h | replace h := z0 h | replace h := zep h (by assumption) | replace h := zen h (by assumption) | replace h := zcp h (by assumption) | replace h := zcn h (by assumption) | replace h := zbp h (by assumption) | replace h := zbn h (by assumption))
            | (with_reducible (first | replace h := zx h | replace h := zt h); obtain ⟨rfl, h⟩ | ⟨rfl, h⟩ := h)
            | (with_reducible (first | replace h := zd h | replace h := zl h | replace h := zm h); obtain ⟨c, h⟩ | ⟨c, h⟩ := h)
            | (with_reducible (first | replace h := ze h | replace h := zg h); obtain ⟨c, c', h⟩ | ⟨c, c', h⟩ := h)
            | (with_reducible replace h := zt h; obtain ⟨c, h⟩ | ⟨c, h⟩ := h)
            | (with_reducible replace h := Option.some.inj h; subst h)
            | (with_reducible exact (zn h).elim)
            | (obtain _ | k1 := k1; exact absurd h (by simp [shape_same.j0]); simp only [shape_same.j0, if_true, if_false, Bool.false_eq_true] at h)
          all_goals
            obtain ⟨hc0, hf0, hz0⟩ := zo BK0.out
            obtain ⟨hc1, hf1, hz1⟩ := zo BK1.out
            have HN : Lw w wr 2 := ⟨by have := blk_lt BK1.out; omega⟩
            try (refine zat65 (W := wr) HC0_8 x24_2 ?_ ?_ ?_; assumption; assumption; rintro ad ⟨⟩; intros)
            try (refine zat65 (W := wr) HC1_8 x24_2 ?_ ?_ ?_; assumption; assumption; rintro ad ⟨⟩; intros)
            try (have H' := za h; clear h)
            go_wp2_with (first
              | ((with_reducible refine zq ?_); first | go_quiet ((first | (go_at_call 61; refine Calls.quiet_of ((api_Stroke_61.cn (by assumption : Aside0 _).out ?_ ?_ ?_ ?_).mono fun _ _ h => ⟨h.1, h.2.out⟩); (focus with_reducible first | exact znil | exact zC (by assumption)); (first | exact Nat.le_refl _ | exact (by assumption : Aside0 _).out); (focus with_reducible first | exact znil | exact zC (by assumption)); (first | exact Nat.le_refl _ | exact (by assumption : Aside0 _).out)))) | (go_still_tail 10, (by kernel_rfl); change wpList _ _ _ _ _ (World.drew _)))
              | (go_at_call 61; refine (api_Stroke_61.cn (by assumption : Aside0 _).out ?_ ?_ ?_ ?_).mono ?_; (focus with_reducible first | exact znil | exact zC (by assumption)); (first | exact Nat.le_refl _ | exact (by assumption : Aside0 _).out); (focus with_reducible first | exact znil | exact zC (by assumption)); (first | exact Nat.le_refl _ | exact (by assumption : Aside0 _).out); rintro e w' ⟨rfl, ⟨n, rfl⟩⟩)
              | (go_at_call 53; refine (style_SameFill.cn (by assumption : Aside0 _).out ?_ ?_ ?_ ?_).mono ?_; (focus with_reducible first | exact znil | exact zC (by assumption)); (first | exact Nat.le_refl _ | exact (by assumption : Aside0 _).out); (focus with_reducible first | exact znil | exact zC (by assumption)); (first | exact Nat.le_refl _ | exact (by assumption : Aside0 _).out); rintro e w' ⟨rfl, hb⟩; obtain ⟨hb, hc, hf⟩ := zk hb; have hy := zy w w'; simp only [zL, Nat.add_zero] at hy; have hy := zy wr w'; simp only [zL, Nat.add_zero] at hy))
          all_goals first
            | (go_ret; exact ⟨rfl, Bw.out⟩)
            | (go_roundg k1
               case measure => have := HK1.out; omega
               case rel => exact ⟨_, rfl, H', ⟨by have := HK1.out; omega⟩, ⟨by (with_reducible repeat (first | exact (by assumption : Aside0 _).out | (refine znew ?_; simp only [World.size_alloc, World.heap_drewN, heap_drew]; done) | refine blk_alloc ?_ _ | refine blk_drewN ?_ _ | refine blk_drew ?_ | refine blk_below ?_ Bs.out | apply zput | (refine zfar ?_ ?_; (focus omega)))) <;> rfl⟩, ⟨by (with_reducible repeat (first | exact (by assumption : Aside0 _).out | (refine znew ?_; simp only [World.size_alloc, World.heap_drewN, heap_drew]; done) | refine blk_alloc ?_ _ | refine blk_drewN ?_ _ | refine blk_drew ?_ | refine blk_below ?_ Bs.out | apply zput | (refine zfar ?_ ?_; (focus omega)))) <;> rfl⟩, ⟨Bw.out⟩⟩))

/-! ### shape_sound: function 47 -/
def shape_sound.f (k : Nat) (a0_0 : Int) (a0_1 : Int) (a0_2 : Int) (a0_3 : Int) (a0_4 : Int) (a0_5 : Int) (a0_6 : Int) (a0_7 : Int) (l0_8 : List (S65)) (l0_9 : List (S79)) (a1 : Int) (a2 : Int) : Option (Bool) := if a0_0 = 1 then ((shape_within.f (-1048576) 1048576 (([a0_1, a0_2] : List Int))).bind fun t173 => (if t173 = true then ((shape_same.f k a0_0 a0_1 a0_2 a0_3 a0_4 a0_5 a0_6 a0_7 l0_8 l0_9 a0_0 a0_1 a0_2 0 0 0 0 0 ([] : List (S65)) ([] : List (S79))).bind fun t174 => (some t174)) else (some false))) else (if a0_0 = 2 then ((shape_within.f (-1) a1 (([a0_5, a0_6] : List Int))).bind fun t178 => (if t178 = true then ((shape_within.f (-1) a2 (([a0_7] : List Int))).bind fun t182 => (if t182 = true then (if (mx (mx a0_5 a0_6) a0_7) ≥ 0 then ((shape_same.f k a0_0 a0_1 a0_2 a0_3 a0_4 a0_5 a0_6 a0_7 l0_8 l0_9 a0_0 0 0 0 0 a0_5 a0_6 a0_7 ([] : List (S65)) ([] : List (S79))).bind fun t183 => (some t183)) else (some false)) else (some false))) else (some false))) else (if a0_0 = 3 then ((style_Right.f k l0_8 l0_9).bind fun t184 => (if t184 = true then ((shape_same.f k a0_0 a0_1 a0_2 a0_3 a0_4 a0_5 a0_6 a0_7 l0_8 l0_9 a0_0 0 0 0 0 0 0 0 l0_8 l0_9).bind fun t185 => (some t185)) else (some false))) else (if a0_0 = 4 then ((shape_within.f (-65536) 65535 (([a0_1, a0_2] : List Int))).bind fun t189 => (if t189 = true then ((shape_same.f k a0_0 a0_1 a0_2 a0_3 a0_4 a0_5 a0_6 a0_7 l0_8 l0_9 a0_0 a0_1 a0_2 0 0 0 0 0 ([] : List (S65)) ([] : List (S79))).bind fun t190 => (some t190)) else (some false))) else (if a0_0 = 5 then ((shape_within.f (-65536) 65535 (([a0_1, a0_2, a0_3, a0_4] : List Int))).bind fun t194 => (if t194 = true then ((shape_same.f k a0_0 a0_1 a0_2 a0_3 a0_4 a0_5 a0_6 a0_7 l0_8 l0_9 a0_0 a0_1 a0_2 a0_3 a0_4 0 0 0 ([] : List (S65)) ([] : List (S79))).bind fun t195 => (some t195)) else (some false))) else (some false)))))
theorem shape_sound.mono : ∀ a0 a1 a2 a3 a4 a5 a6 a7 a8 a9 a10 a11 k, LeO (shape_sound.f k a0 a1 a2 a3 a4 a5 a6 a7 a8 a9 a10 a11) (shape_sound.f (k + 1) a0 a1 a2 a3 a4 a5 a6 a7 a8 a9 a10 a11) := by
  intro a0 a1 a2 a3 a4 a5 a6 a7 a8 a9 a10 a11 k
  unfold shape_sound.f
  repeat' first
      | with_reducible exact shape_same.mono _ _ _ _ _ _ _ _ _ _ _ _ _ _ _ _ _ _ _ _ _
      | with_reducible exact style_Right.mono _ _ _
      | with_reducible exact LeO.refl _
      | with_reducible exact LeO.none _
      | with_reducible refine LeO.ite ?_ ?_
      | with_reducible refine LeO.bind ?_ (fun _ => ?_)
set_option maxHeartbeats 8000000 in
set_option maxRecDepth 100000 in
theorem shape_sound.cn {a0_0 a0_1 a0_2 a0_3 a0_4 a0_5 a0_6 a0_7 a1 a2 : Int} {k : Nat} {A0_8 : Option Addr} {n0_8 c0_8 : Nat} {l0_8 : List (S65)} {A0_9 : Option Addr} {n0_9 c0_9 : Nat} {l0_9 : List (S79)} {r : Bool} {w : World} (h : shape_sound.f k a0_0 a0_1 a0_2 a0_3 a0_4 a0_5 a0_6 a0_7 l0_8 l0_9 a1 a2 = some r) (hr0_8 : Kd.C k65 w A0_8 n0_8 l0_8) (hc0_8 : n0_8 ≤ c0_8) (hr0_9 : Kd.C k79 w A0_9 n0_9 l0_9) (hc0_9 : n0_9 ≤ c0_9) :
    Calls Try.prog 47 #[.agg #[.int .i64 a0_0, .int .i64 a0_1, .int .i64 a0_2, .int .i64 a0_3, .int .i64 a0_4, .int .i64 a0_5, .int .i64 a0_6, .int .i64 a0_7, .slice A0_8 n0_8 c0_8, .slice A0_9 n0_9 c0_9], .int .i64 a1, .int .i64 a2] w fun e w' => e = .returned (.bool r) ∧ Below w.heap.size w w' := by
  obtain rfl := hr0_8.1
  obtain rfl := hr0_9.1
  have HC0_8 := za hr0_8; have HL0_8 := za hc0_8; clear hr0_8 hc0_8
  have HC0_9 := za hr0_9; have HL0_9 := za hc0_9; clear hr0_9 hc0_9
  have hu49 := Try.underlying49
  unfold shape_sound.f at h
  repeat' first
    | (with_reducible replace h := zs h)
    | (with_reducible replace h := zez h (by assumption) (by decide))
    | (with_reducible replace h := zb h; obtain ⟨t, A, h⟩ := h)
    | (with_reducible first | replace h := z1 h | replace h := z0 h | replace h := zep h (by assumption) | replace h := zen h (by assumption) | replace h := zcp h (by assumption) | replace h := zcn h (by assumption) | replace h := zbp h (by assumption) | replace h := zbn h (by assumption))
    | (with_reducible (first | replace h := zx h | replace h := zt h); obtain ⟨rfl, h⟩ | ⟨rfl, h⟩ := h)
    | (with_reducible (first | replace h := zd h | replace h := zl h | replace h := zm h); obtain ⟨c, h⟩ | ⟨c, h⟩ := h)
    | (with_reducible (first | replace h := ze h | replace h := zg h); obtain ⟨c, c', h⟩ | ⟨c, c', h⟩ := h)
    | (with_reducible replace h := zt h; obtain ⟨c, h⟩ | ⟨c, h⟩ := h)
    | (with_reducible replace h := Option.some.inj h; subst h)
    | (with_reducible exact (zn h).elim)
  all_goals
    try (have H' := za h; clear h)
    go_enter Try.func47, Try.ntmps47
    go_wp2_with (first
      | ((with_reducible refine zq ?_); first | go_quiet (fail))
      | (go_at_call 59; refine (shape_same.cn (by assumption : Aside0 _).out ?_ ?_ ?_ ?_ ?_ ?_ ?_ ?_).mono ?_; (focus with_reducible first | exact znil | exact zC (by assumption)); (first | exact Nat.le_refl _ | exact (by assumption : Aside0 _).out); (focus with_reducible first | exact znil | exact zC (by assumption)); (first | exact Nat.le_refl _ | exact (by assumption : Aside0 _).out); (focus with_reducible first | exact znil | exact zC (by assumption)); (first | exact Nat.le_refl _ | exact (by assumption : Aside0 _).out); (focus with_reducible first | exact znil | exact zC (by assumption)); (first | exact Nat.le_refl _ | exact (by assumption : Aside0 _).out); rintro e w' ⟨rfl, hb⟩; obtain ⟨hb, hc, hf⟩ := zk hb; have hy := zy w w'; simp only [zL, Nat.add_zero] at hy)
      | (go_at_call 29; refine (shape_within.cn (by assumption : Aside0 _).out ?_ ?_).mono ?_; (focus first | with_reducible exact zC (by assumption) | (with_reducible first | refine zlit1 (t := 3) ?_ | refine zlit2 (t := 3) ?_ | refine zlit3 (t := 3) ?_ | refine zlit4 (t := 3) ?_ | refine zlit6 (t := 3) ?_); ((with_reducible repeat (first | exact (by assumption : Aside0 _).out | (refine znew ?_; simp only [World.size_alloc, World.heap_drewN, heap_drew]; done) | refine blk_alloc ?_ _ | refine blk_drewN ?_ _ | refine blk_drew ?_ | refine blk_below ?_ Bs.out | apply zput | (refine zfar ?_ ?_; (focus omega)))) <;> rfl); done); (first | exact Nat.le_refl _ | exact (by assumption : Aside0 _).out); rintro e w' ⟨rfl, hb⟩; obtain ⟨hb, hc, hf⟩ := zk hb; have hy := zy w w'; simp only [zL, Nat.add_zero] at hy)
      | (go_at_call 31; refine (style_Right.cn (by assumption : Aside0 _).out ?_ ?_ ?_ ?_).mono ?_; (focus with_reducible first | exact znil | exact zC (by assumption)); (first | exact Nat.le_refl _ | exact (by assumption : Aside0 _).out); (focus with_reducible first | exact znil | exact zC (by assumption)); (first | exact Nat.le_refl _ | exact (by assumption : Aside0 _).out); rintro e w' ⟨rfl, hb⟩; obtain ⟨hb, hc, hf⟩ := zk hb; have hy := zy w w'; simp only [zL, Nat.add_zero] at hy))
  all_goals first
    | (exfalso; (have p : ∀ x y, (mx x y = x ∧ y ≤ x) ∨ (mx x y = y ∧ x < y) := fun x y => by (unfold mx; split <;> omega)); have q := p a0_5 a0_6; have u := p (mx a0_5 a0_6) a0_7; simp only [decide_eq_true_eq, decide_eq_false_iff_not] at c; omega)
    | (go_ret; exact ⟨rfl, Bw.out⟩)

end Go.Proofs.Ytlldbmodidhidaa.P
