/- Walks by cw.py (wip/tool): plain functions that tell what the program answers, and the proofs that the program comes to these answers, for all arguments of their kinds. -/
import Derived.Test.YtmdfcinjmlagcaaCx12
import Derived.Test.YtmdfcinjmlagcaaPx1
import Derived.Test.YtmdfcinjmlagcaaPx2
namespace Go.Proofs.Ytmdfcinjmlagcaa.P
open Go.RowKit Go.Proofs.YtmdfcinjmlagcaaW.PrintWords Go.Proofs.YtmdfcinjmlagcaaW.PrintLast Go.Proofs.YtmdfcinjmlagcaaW.PrintMore
attribute [local go_sem] max2_int min2_int max_two min_two max_three min_three max_four min_four max_five min_five max_six min_six
set_option linter.unusedVariables false
set_option linter.unusedSimpArgs false
attribute [local go_sem high] eqA23 eqA28

/-! ### celluloidref08_Fill: function 34 -/
mutual
def celluloidref08_Fill.j0 : Nat → Int → Bool → Int → Int → Int → Int → Int → Int → Int → Int → Int → Int → Int → Int → List (S80) → Int → Option (Bool)
  | 0, _, _, _, _, _, _, _, _, _, _, _, _, _, _, _, _ => none
  | k + 1, x6, x34, x405000, x405001, x405002, x405003, x405004, x405005, x405006, x405007, x405008, x405009, x405010, x405011, x405012, x405013 => if x34 = true then (if (x405001 == 0 && (x405002 == 0 && (x405003 == 0 && (x405004 == 0)))) = true then (if x405011 = 0 then (if (x405012.length : Int) = 0 then (if x405013 ≥ 0 then (if x405013 < 65536 then ((celluloidref07_Matrix.f x405005 x405006 x405007 x405008 x405009 x405010).bind fun t406 => (some t406)) else (some false)) else (some false)) else (some false)) else (some false)) else (some false)) else (if x6 = 16 then (celluloidref08_Fill.j1 k (x6 == 16) x405000 x405001 x405002 x405003 x405004 x405005 x405006 x405007 x405008 x405009 x405010 x405011 x405012 x405013) else (celluloidref08_Fill.j1 k (x6 == 18) x405000 x405001 x405002 x405003 x405004 x405005 x405006 x405007 x405008 x405009 x405010 x405011 x405012 x405013))
def celluloidref08_Fill.j1 : Nat → Bool → Int → Int → Int → Int → Int → Int → Int → Int → Int → Int → Int → Int → List (S80) → Int → Option (Bool)
  | 0, _, _, _, _, _, _, _, _, _, _, _, _, _, _, _ => none
  | k + 1, x67, x405000, x405001, x405002, x405003, x405004, x405005, x405006, x405007, x405008, x405009, x405010, x405011, x405012, x405013 => if x67 = true then (celluloidref08_Fill.l0 k 0 x405000 x405001 x405002 x405003 x405004 x405005 x405006 x405007 x405008 x405009 x405010 x405011 x405012 x405013) else (some false)
def celluloidref08_Fill.l0 : Nat → Int → Int → Int → Int → Int → Int → Int → Int → Int → Int → Int → Int → Int → List (S80) → Int → Option (Bool)
  | 0, _, _, _, _, _, _, _, _, _, _, _, _, _, _, _ => none
  | k + 1, x3, x405000, x405001, x405002, x405003, x405004, x405005, x405006, x405007, x405008, x405009, x405010, x405011, x405012, x405013 => if x3 < (x405012.length : Int) then (if 0 ≤ x3 then (if ((rd_T80 x405012 x3).f0) < 0 then (some false) else (if ((rd_T80 x405012 x3).f0) > 255 then (some false) else (if x3 > 0 then (if 0 ≤ (wrap64 (x3 - 1)) then (if (wrap64 (x3 - 1)) < (x405012.length : Int) then (if ((rd_T80 x405012 x3).f0) < ((rd_T80 x405012 (wrap64 (x3 - 1))).f0) then (some false) else ((celluloidref07_RGBA.f k ((rd_T80 x405012 x3).f1.f0) ((rd_T80 x405012 x3).f1.f1) ((rd_T80 x405012 x3).f1.f2) ((rd_T80 x405012 x3).f1.f3)).bind fun t410 => (if t410 = true then (celluloidref08_Fill.l0 k (wrap64 (x3 + 1)) x405000 x405001 x405002 x405003 x405004 x405005 x405006 x405007 x405008 x405009 x405010 x405011 x405012 x405013) else (some false)))) else (none)) else (none)) else ((celluloidref07_RGBA.f k ((rd_T80 x405012 x3).f1.f0) ((rd_T80 x405012 x3).f1.f1) ((rd_T80 x405012 x3).f1.f2) ((rd_T80 x405012 x3).f1.f3)).bind fun t412 => (if t412 = true then (celluloidref08_Fill.l0 k (wrap64 (x3 + 1)) x405000 x405001 x405002 x405003 x405004 x405005 x405006 x405007 x405008 x405009 x405010 x405011 x405012 x405013) else (some false)))))) else (none)) else (if (x405001 == 0 && (x405002 == 0 && (x405003 == 0 && (x405004 == 0)))) = true then (if x405013 = 0 then (if x405011 ≥ 0 then (if x405011 < 3 then (if (x405012.length : Int) > 0 then (if (x405012.length : Int) < 9 then ((celluloidref07_Matrix.f x405005 x405006 x405007 x405008 x405009 x405010).bind fun t413 => (some t413)) else (some false)) else (some false)) else (some false)) else (some false)) else (some false)) else (some false))
end
def celluloidref08_Fill.f (k : Nat) (a0_0 : Int) (a0_1 : Int) (a0_2 : Int) (a0_3 : Int) (a0_4 : Int) (a0_5 : Int) (a0_6 : Int) (a0_7 : Int) (a0_8 : Int) (a0_9 : Int) (a0_10 : Int) (a0_11 : Int) (l0_12 : List (S80)) (a0_13 : Int) : Option (Bool) := if a0_0 = 0 then (if (a0_5 == 0 && (a0_6 == 0 && (a0_7 == 0 && (a0_8 == 0 && (a0_9 == 0 && (a0_10 == 0)))))) = true then (if a0_11 = 0 then (if a0_13 = 0 then (if (l0_12.length : Int) = 0 then ((celluloidref07_RGBA.f k a0_1 a0_2 a0_3 a0_4).bind fun t405 => (some t405)) else (some false)) else (some false)) else (some false)) else (some false)) else (if a0_0 = 64 then (celluloidref08_Fill.j0 k a0_0 (a0_0 == 64) a0_0 a0_1 a0_2 a0_3 a0_4 a0_5 a0_6 a0_7 a0_8 a0_9 a0_10 a0_11 l0_12 a0_13) else (celluloidref08_Fill.j0 k a0_0 (a0_0 == 65) a0_0 a0_1 a0_2 a0_3 a0_4 a0_5 a0_6 a0_7 a0_8 a0_9 a0_10 a0_11 l0_12 a0_13))
theorem celluloidref08_Fill.mono_l : ∀ k, (∀ y0 y1 y2 y3 y4 y5 y6 y7 y8 y9 y10 y11 y12 y13 y14 y15, LeO (celluloidref08_Fill.j0 k y0 y1 y2 y3 y4 y5 y6 y7 y8 y9 y10 y11 y12 y13 y14 y15) (celluloidref08_Fill.j0 (k + 1) y0 y1 y2 y3 y4 y5 y6 y7 y8 y9 y10 y11 y12 y13 y14 y15)) ∧ (∀ y0 y1 y2 y3 y4 y5 y6 y7 y8 y9 y10 y11 y12 y13 y14, LeO (celluloidref08_Fill.j1 k y0 y1 y2 y3 y4 y5 y6 y7 y8 y9 y10 y11 y12 y13 y14) (celluloidref08_Fill.j1 (k + 1) y0 y1 y2 y3 y4 y5 y6 y7 y8 y9 y10 y11 y12 y13 y14)) ∧ (∀ y0 y1 y2 y3 y4 y5 y6 y7 y8 y9 y10 y11 y12 y13 y14, LeO (celluloidref08_Fill.l0 k y0 y1 y2 y3 y4 y5 y6 y7 y8 y9 y10 y11 y12 y13 y14) (celluloidref08_Fill.l0 (k + 1) y0 y1 y2 y3 y4 y5 y6 y7 y8 y9 y10 y11 y12 y13 y14))
  | 0 => ⟨fun _ _ _ _ _ _ _ _ _ _ _ _ _ _ _ _ r h => by simp [celluloidref08_Fill.j0] at h, fun _ _ _ _ _ _ _ _ _ _ _ _ _ _ _ r h => by simp [celluloidref08_Fill.j1] at h, fun _ _ _ _ _ _ _ _ _ _ _ _ _ _ _ r h => by simp [celluloidref08_Fill.l0] at h⟩
  | k + 1 => by
    obtain ⟨ih0, ih1, ih2⟩ := celluloidref08_Fill.mono_l k
    refine ⟨?_, ?_, ?_⟩
    · intro y0 y1 y2 y3 y4 y5 y6 y7 y8 y9 y10 y11 y12 y13 y14 y15
      unfold celluloidref08_Fill.j0
      repeat' first
      | with_reducible exact ih0 _ _ _ _ _ _ _ _ _ _ _ _ _ _ _ _
      | with_reducible exact ih1 _ _ _ _ _ _ _ _ _ _ _ _ _ _ _
      | with_reducible exact ih2 _ _ _ _ _ _ _ _ _ _ _ _ _ _ _
      | with_reducible exact celluloidref07_RGBA.mono _ _ _ _ _
      | with_reducible exact LeO.refl _
      | with_reducible exact LeO.none _
      | with_reducible refine LeO.ite ?_ ?_
      | with_reducible refine LeO.bind ?_ (fun _ => ?_)
    · intro y0 y1 y2 y3 y4 y5 y6 y7 y8 y9 y10 y11 y12 y13 y14
      unfold celluloidref08_Fill.j1
      repeat' first
      | with_reducible exact ih0 _ _ _ _ _ _ _ _ _ _ _ _ _ _ _ _
      | with_reducible exact ih1 _ _ _ _ _ _ _ _ _ _ _ _ _ _ _
      | with_reducible exact ih2 _ _ _ _ _ _ _ _ _ _ _ _ _ _ _
      | with_reducible exact celluloidref07_RGBA.mono _ _ _ _ _
      | with_reducible exact LeO.refl _
      | with_reducible exact LeO.none _
      | with_reducible refine LeO.ite ?_ ?_
      | with_reducible refine LeO.bind ?_ (fun _ => ?_)
    · intro y0 y1 y2 y3 y4 y5 y6 y7 y8 y9 y10 y11 y12 y13 y14
      unfold celluloidref08_Fill.l0
      repeat' first
      | with_reducible exact ih0 _ _ _ _ _ _ _ _ _ _ _ _ _ _ _ _
      | with_reducible exact ih1 _ _ _ _ _ _ _ _ _ _ _ _ _ _ _
      | with_reducible exact ih2 _ _ _ _ _ _ _ _ _ _ _ _ _ _ _
      | with_reducible exact celluloidref07_RGBA.mono _ _ _ _ _
      | with_reducible exact LeO.refl _
      | with_reducible exact LeO.none _
      | with_reducible refine LeO.ite ?_ ?_
      | with_reducible refine LeO.bind ?_ (fun _ => ?_)
theorem celluloidref08_Fill.mono : ∀ a0 a1 a2 a3 a4 a5 a6 a7 a8 a9 a10 a11 a12 a13 k, LeO (celluloidref08_Fill.f k a0 a1 a2 a3 a4 a5 a6 a7 a8 a9 a10 a11 a12 a13) (celluloidref08_Fill.f (k + 1) a0 a1 a2 a3 a4 a5 a6 a7 a8 a9 a10 a11 a12 a13) := by
  intro a0 a1 a2 a3 a4 a5 a6 a7 a8 a9 a10 a11 a12 a13 k
  obtain ⟨ih0, ih1, ih2⟩ := celluloidref08_Fill.mono_l k
  unfold celluloidref08_Fill.f
  repeat' first
      | with_reducible exact ih0 _ _ _ _ _ _ _ _ _ _ _ _ _ _ _ _
      | with_reducible exact ih1 _ _ _ _ _ _ _ _ _ _ _ _ _ _ _
      | with_reducible exact ih2 _ _ _ _ _ _ _ _ _ _ _ _ _ _ _
      | with_reducible exact celluloidref07_RGBA.mono _ _ _ _ _
      | with_reducible exact LeO.refl _
      | with_reducible exact LeO.none _
      | with_reducible refine LeO.ite ?_ ?_
      | with_reducible refine LeO.bind ?_ (fun _ => ?_)
set_option maxHeartbeats 8000000 in
set_option maxRecDepth 100000 in
theorem celluloidref08_Fill.cn {a0_0 a0_1 a0_2 a0_3 a0_4 a0_5 a0_6 a0_7 a0_8 a0_9 a0_10 a0_11 a0_13 : Int} {k : Nat} {A0_12 : Option Addr} {n0_12 c0_12 : Nat} {l0_12 : List (S80)} {r : Bool} {w : World} (h : celluloidref08_Fill.f k a0_0 a0_1 a0_2 a0_3 a0_4 a0_5 a0_6 a0_7 a0_8 a0_9 a0_10 a0_11 l0_12 a0_13 = some r) (hr0_12 : Kd.C k80 w A0_12 n0_12 l0_12) (hc0_12 : n0_12 ≤ c0_12) :
    Calls Try.prog 34 #[.agg #[.int .i64 a0_0, .int .i64 a0_1, .int .i64 a0_2, .int .i64 a0_3, .int .i64 a0_4, .int .i64 a0_5, .int .i64 a0_6, .int .i64 a0_7, .int .i64 a0_8, .int .i64 a0_9, .int .i64 a0_10, .int .i64 a0_11, .slice A0_12 n0_12 c0_12, .int .i64 a0_13]] w fun e w' => e = .returned (.bool r) ∧ Below w.heap.size w w' := by
  obtain rfl := hr0_12.1
  have HC0_12 := za hr0_12; have HL0_12 := za hc0_12; clear hr0_12 hc0_12
  have hu23 := Try.underlying23
  have hu28 := Try.underlying28
  have hu31 := Try.underlying31
  unfold celluloidref08_Fill.f at h
  repeat' first
    | (with_reducible replace h := zs h)
    | (with_reducible replace h := zez h (by assumption) (by decide))
    | (with_reducible replace h := zb h; obtain ⟨t, A, h⟩ := h)
    | (with_reducible first | replace h := z1 h | replace h := z0 h | replace h := zep h (by assumption) | replace h := zen h (by assumption) | replace h := zcp h (by assumption) | replace h := zcn h (by assumption) | replace h := zbp h (by assumption) | replace h := zbn h (by assumption))
    | (with_reducible (first | replace h := zx h | replace h := zt h); obtain ⟨rfl, h⟩ | ⟨rfl, h⟩ := h)
    | (with_reducible (first | replace h := zd h | replace h := zl h | replace h := zm h); obtain ⟨c, h⟩ | ⟨c, h⟩ := h)
    | (with_reducible (first | replace h := ze h | replace h := zg h); obtain ⟨c, c', h⟩ | ⟨c, c', h⟩ := h)
    | (with_reducible replace h := zt h; obtain ⟨c, h⟩ | ⟨c, h⟩ := h)
    | (with_reducible replace h := Option.some.inj h; subst h)
    | (with_reducible exact (zn h).elim)
    | (obtain _ | k := k; exact absurd h (by simp [celluloidref08_Fill.j0, celluloidref08_Fill.j1]); simp only [celluloidref08_Fill.j0, celluloidref08_Fill.j1, if_true, if_false, Bool.false_eq_true] at h)
  all_goals
    try (have H' := za h; clear h)
    go_enter Try.func34, Try.ntmps34
    go_wp2_with (first
      | ((with_reducible refine zq ?_); first | go_quiet (fail))
      | (go_at_call 60; refine (celluloidref07_Matrix.cn (by assumption : Aside0 _).out).mono ?_; rintro e w' ⟨rfl, hb⟩; (with_reducible first | replace hb := zkd hb | replace hb := zkn hb | replace hb := zk hb); obtain ⟨hb, hc, hf⟩ := hb; have hy := zy w w'; simp only [zL, Nat.add_zero] at hy)
      | (go_at_call 11; refine (celluloidref07_RGBA.cn (by assumption : Aside0 _).out).mono ?_; rintro e w' ⟨rfl, hb⟩; (with_reducible first | replace hb := zkd hb | replace hb := zkn hb | replace hb := zk hb); obtain ⟨hb, hc, hf⟩ := hb; have hy := zy w w'; simp only [zL, Nat.add_zero] at hy))
  all_goals first
    | (go_ret; exact ⟨rfl, Bw.out⟩)
    | (go_loopg [3] k (fun kq v3 w' => ∃ (x3_3 : Int), v3 = .int .i64 x3_3 ∧ Aside0 (celluloidref08_Fill.l0 kq x3_3 a0_0 a0_1 a0_2 a0_3 a0_4 a0_5 a0_6 a0_7 a0_8 a0_9 a0_10 a0_11 l0_12 a0_13 = some r) ∧ Aside0 (kq ≤ k) ∧ Aside0 (w'.heap[w.heap.size]? = some (.cells #[.int .i64 a0_0, .int .i64 a0_1, .int .i64 a0_2, .int .i64 a0_3, .int .i64 a0_4, .int .i64 a0_5, .int .i64 a0_6, .int .i64 a0_7, .int .i64 a0_8, .int .i64 a0_9, .int .i64 a0_10, .int .i64 a0_11, (.slice A0_12 l0_12.length c0_12), .int .i64 a0_13] 31 (0, 0))) ∧ Aside0 (Below w.heap.size w w'))
       case atStart => exact ⟨_, rfl, H', ⟨Nat.le_refl _⟩, ⟨by (with_reducible repeat (first | exact (by assumption : Aside0 _).out | (focus (refine znew ?_; simp only [World.size_alloc, World.heap_drewN, heap_drew]; done)) | refine blk_alloc ?_ _ | refine blk_drewN ?_ _ | refine blk_drew ?_ | refine blk_below ?_ Bs.out | apply zput | (refine zfar ?_ ?_; (focus omega)))) <;> rfl⟩, ⟨Bw.out⟩⟩
       case round =>
        obtain ⟨x3_3, rfl, HA, HK1, BK0, HB⟩ := hrel
        have HB := Bw.mk HB.out; clear H'
        cases gk with
        | zero => exact absurd HA.out (by simp [celluloidref08_Fill.l0])
        | succ k1 =>
          have h := HA.out; clear HA; simp only [celluloidref08_Fill.l0] at h
          repeat' first
            | (with_reducible replace h := zs h)
            | (with_reducible replace h := zez h (by assumption) (by decide))
            | (with_reducible replace h := zb h; obtain ⟨t, A, h⟩ := h)
            | (with_reducible first | replace h := z1 h | replace h := z0 h | replace h := zep h (by assumption) | replace h := zen h (by assumption) | replace h := zcp h (by assumption) | replace h := zcn h (by assumption) | replace h := zbp h (by assumption) | replace h := zbn h (by assumption))
            | (with_reducible (first | replace h := zx h | replace h := zt h); obtain ⟨rfl, h⟩ | ⟨rfl, h⟩ := h)
            | (with_reducible (first | replace h := zd h | replace h := zl h | replace h := zm h); obtain ⟨c, h⟩ | ⟨c, h⟩ := h)
            | (with_reducible (first | replace h := ze h | replace h := zg h); obtain ⟨c, c', h⟩ | ⟨c, c', h⟩ := h)
            | (with_reducible replace h := zt h; obtain ⟨c, h⟩ | ⟨c, h⟩ := h)
            | (with_reducible replace h := Option.some.inj h; subst h)
            | (with_reducible exact (zn h).elim)
            | (obtain _ | k1 := k1; exact absurd h (by simp [celluloidref08_Fill.j0, celluloidref08_Fill.j1]); simp only [celluloidref08_Fill.j0, celluloidref08_Fill.j1, if_true, if_false, Bool.false_eq_true] at h)
          all_goals
            obtain ⟨hc0, hf0, hz0⟩ := zo BK0.out
            have HN : Lw w wr 1 := ⟨by have := blk_lt BK0.out; omega⟩
            try (refine zat80 (W := wr) HC0_12 x3_3 ?_ ?_ ?_; (first | assumption | decide); assumption; rintro ad ⟨⟩; intros)
            try (refine zat80 (W := wr) HC0_12 (wrap64 (x3_3 - 1)) ?_ ?_ ?_; assumption; assumption; rintro ad ⟨⟩; intros)
            try have cN : (0 < l0_12.length) = True := eq_true (by have q := of_decide_eq_true (by assumption : decide ((l0_12.length : Int) > 0) = true); omega)
            try have cN : (0 < l0_12.length) = False := eq_false (by have q := of_decide_eq_false (by assumption : decide ((l0_12.length : Int) > 0) = false); omega)
            try (have H' := za h; clear h)
            go_wp2_with (first
              | ((with_reducible refine zq ?_); first | go_quiet (fail))
              | (go_at_call 60; refine (celluloidref07_Matrix.cn (by assumption : Aside0 _).out).mono ?_; rintro e w' ⟨rfl, hb⟩; (with_reducible first | replace hb := zkd hb | replace hb := zkn hb | replace hb := zk hb); obtain ⟨hb, hc, hf⟩ := hb; have hy := zy w w'; simp only [zL, Nat.add_zero] at hy; have hy := zy wr w'; simp only [zL, Nat.add_zero] at hy)
              | (go_at_call 11; refine (celluloidref07_RGBA.cn (by assumption : Aside0 _).out).mono ?_; rintro e w' ⟨rfl, hb⟩; (with_reducible first | replace hb := zkd hb | replace hb := zkn hb | replace hb := zk hb); obtain ⟨hb, hc, hf⟩ := hb; have hy := zy w w'; simp only [zL, Nat.add_zero] at hy; have hy := zy wr w'; simp only [zL, Nat.add_zero] at hy))
          all_goals first
            | (go_ret; exact ⟨rfl, Bw.out⟩)
            | (go_roundg k1
               case measure => have := HK1.out; omega
               case rel => exact ⟨_, rfl, H', ⟨by have := HK1.out; omega⟩, ⟨by (with_reducible repeat (first | exact (by assumption : Aside0 _).out | (focus (refine znew ?_; simp only [World.size_alloc, World.heap_drewN, heap_drew]; done)) | refine blk_alloc ?_ _ | refine blk_drewN ?_ _ | refine blk_drew ?_ | refine blk_below ?_ Bs.out | apply zput | (refine zfar ?_ ?_; (focus omega)))) <;> rfl⟩, ⟨Bw.out⟩⟩))

end Go.Proofs.Ytmdfcinjmlagcaa.P
