/- Walks by cw.py (wip/tool): plain functions that tell what the program answers, and the proofs that the program comes to these answers, for all arguments of their kinds. -/
import Derived.Test.YtlldbmodidhidaaCw
import Derived.Test.YtlldbmodidhidaaPx3
import Derived.Test.YtlldbmodidhidaaPx4
import Derived.Test.YtlldbmodidhidaaPx5
import Derived.Test.YtlldbmodidhidaaPx6
import Derived.Test.YtlldbmodidhidaaPx7
namespace Go.Proofs.Ytlldbmodidhidaa.P
open Go.RowKit Go.Proofs.YtlldbmodidhidaaW.PrintWords Go.Proofs.YtlldbmodidhidaaW.PrintLast Go.Proofs.YtlldbmodidhidaaW.PrintMore
attribute [local go_sem] max2_int min2_int max_two min_two max_three min_three max_four min_four max_five min_five max_six min_six
set_option linter.unusedVariables false
set_option linter.unusedSimpArgs false
attribute [local go_sem high] eqA60 eqA62 eqA74 eqA79 eqA86

/-! ### celluloidref08_Same: function 28 -/
mutual
def celluloidref08_Same.j0 : Nat → Bool → Int → Int → Int → Int → Int → Int → Int → Int → Int → Int → Int → Int → List (S86) → Int → Int → Int → Int → Int → Int → Int → Int → Int → Int → Int → Int → Int → List (S86) → Int → Option (Bool)
  | 0, _, _, _, _, _, _, _, _, _, _, _, _, _, _, _, _, _, _, _, _, _, _, _, _, _, _, _, _, _ => none
  | k + 1, x47, x383000, x383001, x383002, x383003, x383004, x383005, x383006, x383007, x383008, x383009, x383010, x383011, x383012, x383013, x384000, x384001, x384002, x384003, x384004, x384005, x384006, x384007, x384008, x384009, x384010, x384011, x384012, x384013 => if x47 = true then (some false) else (celluloidref08_Same.l0 k 0 x383000 x383001 x383002 x383003 x383004 x383005 x383006 x383007 x383008 x383009 x383010 x383011 x383012 x383013 x384000 x384001 x384002 x384003 x384004 x384005 x384006 x384007 x384008 x384009 x384010 x384011 x384012 x384013)
def celluloidref08_Same.l0 : Nat → Int → Int → Int → Int → Int → Int → Int → Int → Int → Int → Int → Int → Int → List (S86) → Int → Int → Int → Int → Int → Int → Int → Int → Int → Int → Int → Int → Int → List (S86) → Int → Option (Bool)
  | 0, _, _, _, _, _, _, _, _, _, _, _, _, _, _, _, _, _, _, _, _, _, _, _, _, _, _, _, _, _ => none
  | k + 1, x5, x383000, x383001, x383002, x383003, x383004, x383005, x383006, x383007, x383008, x383009, x383010, x383011, x383012, x383013, x384000, x384001, x384002, x384003, x384004, x384005, x384006, x384007, x384008, x384009, x384010, x384011, x384012, x384013 => if x5 < (x383012.length : Int) then (if 0 ≤ x5 then (if x5 < (x384012.length : Int) then (if (!(((rd_T86 x383012 x5).f0) == ((rd_T86 x384012 x5).f0)) || ((!(((rd_T86 x383012 x5).f1.f0) == ((rd_T86 x384012 x5).f1.f0)) || (!(((rd_T86 x383012 x5).f1.f1) == ((rd_T86 x384012 x5).f1.f1)) || (!(((rd_T86 x383012 x5).f1.f2) == ((rd_T86 x384012 x5).f1.f2)) || (!(((rd_T86 x383012 x5).f1.f3) == ((rd_T86 x384012 x5).f1.f3)))))))) = true then (some false) else (celluloidref08_Same.l0 k (wrap64 (x5 + 1)) x383000 x383001 x383002 x383003 x383004 x383005 x383006 x383007 x383008 x383009 x383010 x383011 x383012 x383013 x384000 x384001 x384002 x384003 x384004 x384005 x384006 x384007 x384008 x384009 x384010 x384011 x384012 x384013)) else (none)) else (none)) else (some true)
end
def celluloidref08_Same.f (k : Nat) (a0_0 : Int) (a0_1 : Int) (a0_2 : Int) (a0_3 : Int) (a0_4 : Int) (a0_5 : Int) (a0_6 : Int) (a0_7 : Int) (a0_8 : Int) (a0_9 : Int) (a0_10 : Int) (a0_11 : Int) (l0_12 : List (S86)) (a0_13 : Int) (a1_0 : Int) (a1_1 : Int) (a1_2 : Int) (a1_3 : Int) (a1_4 : Int) (a1_5 : Int) (a1_6 : Int) (a1_7 : Int) (a1_8 : Int) (a1_9 : Int) (a1_10 : Int) (a1_11 : Int) (l1_12 : List (S86)) (a1_13 : Int) : Option (Bool) := if a0_0 = a1_0 then (if (!(a0_1 == a1_1) || (!(a0_2 == a1_2) || (!(a0_3 == a1_3) || (!(a0_4 == a1_4))))) = true then (celluloidref08_Same.j0 k true a0_0 a0_1 a0_2 a0_3 a0_4 a0_5 a0_6 a0_7 a0_8 a0_9 a0_10 a0_11 l0_12 a0_13 a1_0 a1_1 a1_2 a1_3 a1_4 a1_5 a1_6 a1_7 a1_8 a1_9 a1_10 a1_11 l1_12 a1_13) else (if (!(a0_5 == a1_5) || (!(a0_6 == a1_6) || (!(a0_7 == a1_7) || (!(a0_8 == a1_8) || (!(a0_9 == a1_9) || (!(a0_10 == a1_10))))))) = true then (celluloidref08_Same.j0 k true a0_0 a0_1 a0_2 a0_3 a0_4 a0_5 a0_6 a0_7 a0_8 a0_9 a0_10 a0_11 l0_12 a0_13 a1_0 a1_1 a1_2 a1_3 a1_4 a1_5 a1_6 a1_7 a1_8 a1_9 a1_10 a1_11 l1_12 a1_13) else (if a0_11 = a1_11 then (if a0_13 = a1_13 then (celluloidref08_Same.j0 k ((l0_12.length : Int) != (l1_12.length : Int)) a0_0 a0_1 a0_2 a0_3 a0_4 a0_5 a0_6 a0_7 a0_8 a0_9 a0_10 a0_11 l0_12 a0_13 a1_0 a1_1 a1_2 a1_3 a1_4 a1_5 a1_6 a1_7 a1_8 a1_9 a1_10 a1_11 l1_12 a1_13) else (celluloidref08_Same.j0 k true a0_0 a0_1 a0_2 a0_3 a0_4 a0_5 a0_6 a0_7 a0_8 a0_9 a0_10 a0_11 l0_12 a0_13 a1_0 a1_1 a1_2 a1_3 a1_4 a1_5 a1_6 a1_7 a1_8 a1_9 a1_10 a1_11 l1_12 a1_13)) else (celluloidref08_Same.j0 k true a0_0 a0_1 a0_2 a0_3 a0_4 a0_5 a0_6 a0_7 a0_8 a0_9 a0_10 a0_11 l0_12 a0_13 a1_0 a1_1 a1_2 a1_3 a1_4 a1_5 a1_6 a1_7 a1_8 a1_9 a1_10 a1_11 l1_12 a1_13)))) else (celluloidref08_Same.j0 k true a0_0 a0_1 a0_2 a0_3 a0_4 a0_5 a0_6 a0_7 a0_8 a0_9 a0_10 a0_11 l0_12 a0_13 a1_0 a1_1 a1_2 a1_3 a1_4 a1_5 a1_6 a1_7 a1_8 a1_9 a1_10 a1_11 l1_12 a1_13)
theorem celluloidref08_Same.mono_l : ∀ k, (∀ y0 y1 y2 y3 y4 y5 y6 y7 y8 y9 y10 y11 y12 y13 y14 y15 y16 y17 y18 y19 y20 y21 y22 y23 y24 y25 y26 y27 y28, LeO (celluloidref08_Same.j0 k y0 y1 y2 y3 y4 y5 y6 y7 y8 y9 y10 y11 y12 y13 y14 y15 y16 y17 y18 y19 y20 y21 y22 y23 y24 y25 y26 y27 y28) (celluloidref08_Same.j0 (k + 1) y0 y1 y2 y3 y4 y5 y6 y7 y8 y9 y10 y11 y12 y13 y14 y15 y16 y17 y18 y19 y20 y21 y22 y23 y24 y25 y26 y27 y28)) ∧ (∀ y0 y1 y2 y3 y4 y5 y6 y7 y8 y9 y10 y11 y12 y13 y14 y15 y16 y17 y18 y19 y20 y21 y22 y23 y24 y25 y26 y27 y28, LeO (celluloidref08_Same.l0 k y0 y1 y2 y3 y4 y5 y6 y7 y8 y9 y10 y11 y12 y13 y14 y15 y16 y17 y18 y19 y20 y21 y22 y23 y24 y25 y26 y27 y28) (celluloidref08_Same.l0 (k + 1) y0 y1 y2 y3 y4 y5 y6 y7 y8 y9 y10 y11 y12 y13 y14 y15 y16 y17 y18 y19 y20 y21 y22 y23 y24 y25 y26 y27 y28))
  | 0 => ⟨fun _ _ _ _ _ _ _ _ _ _ _ _ _ _ _ _ _ _ _ _ _ _ _ _ _ _ _ _ _ r h => by simp [celluloidref08_Same.j0] at h, fun _ _ _ _ _ _ _ _ _ _ _ _ _ _ _ _ _ _ _ _ _ _ _ _ _ _ _ _ _ r h => by simp [celluloidref08_Same.l0] at h⟩
  | k + 1 => by
    obtain ⟨ih0, ih1⟩ := celluloidref08_Same.mono_l k
    refine ⟨?_, ?_⟩
    · intro y0 y1 y2 y3 y4 y5 y6 y7 y8 y9 y10 y11 y12 y13 y14 y15 y16 y17 y18 y19 y20 y21 y22 y23 y24 y25 y26 y27 y28
      unfold celluloidref08_Same.j0
      repeat' first
      | with_reducible exact ih0 _ _ _ _ _ _ _ _ _ _ _ _ _ _ _ _ _ _ _ _ _ _ _ _ _ _ _ _ _
      | with_reducible exact ih1 _ _ _ _ _ _ _ _ _ _ _ _ _ _ _ _ _ _ _ _ _ _ _ _ _ _ _ _ _
      | with_reducible exact LeO.refl _
      | with_reducible exact LeO.none _
      | with_reducible refine LeO.ite ?_ ?_
      | with_reducible refine LeO.bind ?_ (fun _ => ?_)
    · intro y0 y1 y2 y3 y4 y5 y6 y7 y8 y9 y10 y11 y12 y13 y14 y15 y16 y17 y18 y19 y20 y21 y22 y23 y24 y25 y26 y27 y28
      unfold celluloidref08_Same.l0
      repeat' first
      | with_reducible exact ih0 _ _ _ _ _ _ _ _ _ _ _ _ _ _ _ _ _ _ _ _ _ _ _ _ _ _ _ _ _
      | with_reducible exact ih1 _ _ _ _ _ _ _ _ _ _ _ _ _ _ _ _ _ _ _ _ _ _ _ _ _ _ _ _ _
      | with_reducible exact LeO.refl _
      | with_reducible exact LeO.none _
      | with_reducible refine LeO.ite ?_ ?_
      | with_reducible refine LeO.bind ?_ (fun _ => ?_)
theorem celluloidref08_Same.mono : ∀ a0 a1 a2 a3 a4 a5 a6 a7 a8 a9 a10 a11 a12 a13 a14 a15 a16 a17 a18 a19 a20 a21 a22 a23 a24 a25 a26 a27 k, LeO (celluloidref08_Same.f k a0 a1 a2 a3 a4 a5 a6 a7 a8 a9 a10 a11 a12 a13 a14 a15 a16 a17 a18 a19 a20 a21 a22 a23 a24 a25 a26 a27) (celluloidref08_Same.f (k + 1) a0 a1 a2 a3 a4 a5 a6 a7 a8 a9 a10 a11 a12 a13 a14 a15 a16 a17 a18 a19 a20 a21 a22 a23 a24 a25 a26 a27) := by
  intro a0 a1 a2 a3 a4 a5 a6 a7 a8 a9 a10 a11 a12 a13 a14 a15 a16 a17 a18 a19 a20 a21 a22 a23 a24 a25 a26 a27 k
  obtain ⟨ih0, ih1⟩ := celluloidref08_Same.mono_l k
  unfold celluloidref08_Same.f
  repeat' first
      | with_reducible exact ih0 _ _ _ _ _ _ _ _ _ _ _ _ _ _ _ _ _ _ _ _ _ _ _ _ _ _ _ _ _
      | with_reducible exact ih1 _ _ _ _ _ _ _ _ _ _ _ _ _ _ _ _ _ _ _ _ _ _ _ _ _ _ _ _ _
      | with_reducible exact LeO.refl _
      | with_reducible exact LeO.none _
      | with_reducible refine LeO.ite ?_ ?_
      | with_reducible refine LeO.bind ?_ (fun _ => ?_)
set_option maxHeartbeats 8000000 in
set_option maxRecDepth 100000 in
theorem celluloidref08_Same.cn {a0_0 a0_1 a0_2 a0_3 a0_4 a0_5 a0_6 a0_7 a0_8 a0_9 a0_10 a0_11 a0_13 a1_0 a1_1 a1_2 a1_3 a1_4 a1_5 a1_6 a1_7 a1_8 a1_9 a1_10 a1_11 a1_13 : Int} {k : Nat} {A0_12 : Option Addr} {n0_12 c0_12 : Nat} {l0_12 : List (S86)} {A1_12 : Option Addr} {n1_12 c1_12 : Nat} {l1_12 : List (S86)} {r : Bool} {w : World} (h : celluloidref08_Same.f k a0_0 a0_1 a0_2 a0_3 a0_4 a0_5 a0_6 a0_7 a0_8 a0_9 a0_10 a0_11 l0_12 a0_13 a1_0 a1_1 a1_2 a1_3 a1_4 a1_5 a1_6 a1_7 a1_8 a1_9 a1_10 a1_11 l1_12 a1_13 = some r) (hr0_12 : Kd.C k86 w A0_12 n0_12 l0_12) (hc0_12 : n0_12 ≤ c0_12) (hr1_12 : Kd.C k86 w A1_12 n1_12 l1_12) (hc1_12 : n1_12 ≤ c1_12) :
    Calls Try.prog 28 #[.agg #[.int .i64 a0_0, .int .i64 a0_1, .int .i64 a0_2, .int .i64 a0_3, .int .i64 a0_4, .int .i64 a0_5, .int .i64 a0_6, .int .i64 a0_7, .int .i64 a0_8, .int .i64 a0_9, .int .i64 a0_10, .int .i64 a0_11, .slice A0_12 n0_12 c0_12, .int .i64 a0_13], .agg #[.int .i64 a1_0, .int .i64 a1_1, .int .i64 a1_2, .int .i64 a1_3, .int .i64 a1_4, .int .i64 a1_5, .int .i64 a1_6, .int .i64 a1_7, .int .i64 a1_8, .int .i64 a1_9, .int .i64 a1_10, .int .i64 a1_11, .slice A1_12 n1_12 c1_12, .int .i64 a1_13]] w fun e w' => e = .returned (.bool r) ∧ Below w.heap.size w w' := by
  obtain rfl := hr0_12.1
  obtain rfl := hr1_12.1
  have HC0_12 := za hr0_12; have HL0_12 := za hc0_12; clear hr0_12 hc0_12
  have HC1_12 := za hr1_12; have HL1_12 := za hc1_12; clear hr1_12 hc1_12
  have hu60 := Try.underlying60
  have hu62 := Try.underlying62
  have hu65 := Try.underlying65
  have hu86 := Try.underlying86
  unfold celluloidref08_Same.f at h
  repeat' first
    | (with_reducible replace h := zs h)
    | (with_reducible replace h := zez h (by assumption) (by decide))
    | (with_reducible replace h := zb h; obtain ⟨t, A, h⟩ := h)
    | (with_reducible first | replace h := z1 h | replace h := z0 h | replace h := zep h (by assumption) | replace h := zen h (by assumption) | replace h := zcp h (by assumption) | replace h := zcn h (by assumption) | replace h := zbp h (by assumption) | replace h := zbn h (by assumption))
    | (with_reducible (first | replace h := zx h | replace h := zt h); obtain ⟨rfl, h⟩ | ⟨rfl, h⟩ := h)
    | (with_reducible (first | replace h := zd h | replace h := zl h | replace h := zm h); obtain ⟨c, h⟩ | ⟨c, h⟩ := h)
    | (with_reducible (first | replace h := ze h | replace h := zg h); obtain ⟨c, c', h⟩ | ⟨c, c', h⟩ := h)
    | (with_reducible replace h := zt h; obtain ⟨c, h⟩ | ⟨c, h⟩ := h)
    | (with_reducible replace h := Option.some.inj h; subst h)
    | (with_reducible exact (zn h).elim)
    | (obtain _ | k := k; exact absurd h (by simp [celluloidref08_Same.j0]); simp only [celluloidref08_Same.j0, if_true, if_false, Bool.false_eq_true] at h)
  all_goals
    try (have H' := za h; clear h)
    go_enter Try.func28, Try.ntmps28
    go_wp2_with (first
      | ((with_reducible refine zq ?_); first | go_quiet (fail)))
  all_goals first
    | (go_ret; exact ⟨rfl, Bw.out⟩)
    | (go_loopg [5] k (fun kq v5 w' => ∃ (x5_2 : Int), v5 = .int .i64 x5_2 ∧ Aside0 (celluloidref08_Same.l0 kq x5_2 a0_0 a0_1 a0_2 a0_3 a0_4 a0_5 a0_6 a0_7 a0_8 a0_9 a0_10 a0_11 l0_12 a0_13 a1_0 a1_1 a1_2 a1_3 a1_4 a1_5 a1_6 a1_7 a1_8 a1_9 a1_10 a1_11 l1_12 a1_13 = some r) ∧ Aside0 (kq ≤ k) ∧ Aside0 (w'.heap[w.heap.size]? = some (.cells #[.int .i64 a0_0, .int .i64 a0_1, .int .i64 a0_2, .int .i64 a0_3, .int .i64 a0_4, .int .i64 a0_5, .int .i64 a0_6, .int .i64 a0_7, .int .i64 a0_8, .int .i64 a0_9, .int .i64 a0_10, .int .i64 a0_11, .slice A0_12 l0_12.length c0_12, .int .i64 a0_13] 65 (0, 0))) ∧ Aside0 (w'.heap[w.heap.size + 1]? = some (.cells #[.int .i64 a1_0, .int .i64 a1_1, .int .i64 a1_2, .int .i64 a1_3, .int .i64 a1_4, .int .i64 a1_5, .int .i64 a1_6, .int .i64 a1_7, .int .i64 a1_8, .int .i64 a1_9, .int .i64 a1_10, .int .i64 a1_11, .slice A1_12 l1_12.length c1_12, .int .i64 a1_13] 65 (0, 0))) ∧ Aside0 (Below w.heap.size w w'))
       case atStart => exact ⟨_, rfl, H', ⟨Nat.le_refl _⟩, ⟨by (with_reducible repeat (first | exact (by assumption : Aside0 _).out | (refine znew ?_; simp only [World.size_alloc, World.heap_drewN, heap_drew]; done) | refine blk_alloc ?_ _ | refine blk_drewN ?_ _ | refine blk_drew ?_ | refine blk_below ?_ Bs.out | apply zput | (refine zfar ?_ ?_; (focus omega)))) <;> rfl⟩, ⟨by (with_reducible repeat (first | exact (by assumption : Aside0 _).out | (refine znew ?_; simp only [World.size_alloc, World.heap_drewN, heap_drew]; done) | refine blk_alloc ?_ _ | refine blk_drewN ?_ _ | refine blk_drew ?_ | refine blk_below ?_ Bs.out | apply zput | (refine zfar ?_ ?_; (focus omega)))) <;> rfl⟩, ⟨Bw.out⟩⟩
       case round =>
        obtain ⟨x5_2, rfl, HA, HK1, BK0, BK1, HB⟩ := hrel
        have HB := Bw.mk HB.out; clear H'
        cases gk with
        | zero => exact absurd HA.out (by simp [celluloidref08_Same.l0])
        | succ k1 =>
          have h := HA.out; clear HA; simp only [celluloidref08_Same.l0] at h
          repeat' first
            | (with_reducible replace h := zs h)
            | (with_reducible replace h := zez h (by assumption) (by decide))
            | (with_reducible replace h := zb h; obtain ⟨t, A, h⟩ := h)
            | (with_reducible first | replace h := z1 h | replace h := z0 h | replace h := zep h (by assumption) | replace h := zen h (by assumption) | replace h := zcp h (by assumption) | replace h := zcn h (by assumption) | replace h := zbp h (by assumption) | replace h := zbn h (by assumption))
            | (with_reducible (first | replace h := zx h | replace h := zt h); obtain ⟨rfl, h⟩ | ⟨rfl, h⟩ := h)
            | (with_reducible (first | replace h := zd h | replace h := zl h | replace h := zm h); obtain ⟨c, h⟩ | ⟨c, h⟩ := h)
            | (with_reducible (first | replace h := ze h | replace h := zg h); obtain ⟨c, c', h⟩ | ⟨c, c', h⟩ := h)
            | (with_reducible replace h := zt h; obtain ⟨c, h⟩ | ⟨c, h⟩ := h)
            | (with_reducible replace h := Option.some.inj h; subst h)
            | (with_reducible exact (zn h).elim)
            | (obtain _ | k1 := k1; exact absurd h (by simp [celluloidref08_Same.j0]); simp only [celluloidref08_Same.j0, if_true, if_false, Bool.false_eq_true] at h)
          all_goals
            obtain ⟨hc0, hf0, hz0⟩ := zo BK0.out
            obtain ⟨hc1, hf1, hz1⟩ := zo BK1.out
            have HN : Lw w wr 2 := ⟨by have := blk_lt BK1.out; omega⟩
            try (refine zat86 (W := wr) HC0_12 x5_2 ?_ ?_ ?_; assumption; assumption; rintro ad ⟨⟩; intros)
            try (refine zat86 (W := wr) HC1_12 x5_2 ?_ ?_ ?_; assumption; assumption; rintro ad ⟨⟩; intros)
            try (have H' := za h; clear h)
            go_wp2_with (first
              | ((with_reducible refine zq ?_); first | go_quiet (fail)))
          all_goals first
            | (go_ret; exact ⟨rfl, Bw.out⟩)
            | (go_roundg k1
               case measure => have := HK1.out; omega
               case rel => exact ⟨_, rfl, H', ⟨by have := HK1.out; omega⟩, ⟨by (with_reducible repeat (first | exact (by assumption : Aside0 _).out | (refine znew ?_; simp only [World.size_alloc, World.heap_drewN, heap_drew]; done) | refine blk_alloc ?_ _ | refine blk_drewN ?_ _ | refine blk_drew ?_ | refine blk_below ?_ Bs.out | apply zput | (refine zfar ?_ ?_; (focus omega)))) <;> rfl⟩, ⟨by (with_reducible repeat (first | exact (by assumption : Aside0 _).out | (refine znew ?_; simp only [World.size_alloc, World.heap_drewN, heap_drew]; done) | refine blk_alloc ?_ _ | refine blk_drewN ?_ _ | refine blk_drew ?_ | refine blk_below ?_ Bs.out | apply zput | (refine zfar ?_ ?_; (focus omega)))) <;> rfl⟩, ⟨Bw.out⟩⟩))

/-! ### celluloidref08_SameLists: function 13 -/
mutual
def celluloidref08_SameLists.j0 : Nat → List (S65) → List (S65) → List (S79) → List (S79) → Bool → Option (Bool)
  | 0, _, _, _, _, _ => none
  | k + 1, x0, x1, x2, x3, x22 => if x22 = true then (some false) else (celluloidref08_SameLists.l0 k x0 x1 x2 x3 0)
def celluloidref08_SameLists.l0 : Nat → List (S65) → List (S65) → List (S79) → List (S79) → Int → Option (Bool)
  | 0, _, _, _, _, _ => none
  | k + 1, x0, x1, x2, x3, x9 => if x9 < (x0.length : Int) then (if 0 ≤ x9 then (if x9 < (x1.length : Int) then ((celluloidref08_Same.f k ((rd_T65 x0 x9).f0) ((rd_T65 x0 x9).f1.f0) ((rd_T65 x0 x9).f1.f1) ((rd_T65 x0 x9).f1.f2) ((rd_T65 x0 x9).f1.f3) ((rd_T65 x0 x9).f2.f0) ((rd_T65 x0 x9).f2.f1) ((rd_T65 x0 x9).f2.f2) ((rd_T65 x0 x9).f2.f3) ((rd_T65 x0 x9).f2.f4) ((rd_T65 x0 x9).f2.f5) ((rd_T65 x0 x9).f3) ((rd_T65 x0 x9).f4) ((rd_T65 x0 x9).f5) ((rd_T65 x1 x9).f0) ((rd_T65 x1 x9).f1.f0) ((rd_T65 x1 x9).f1.f1) ((rd_T65 x1 x9).f1.f2) ((rd_T65 x1 x9).f1.f3) ((rd_T65 x1 x9).f2.f0) ((rd_T65 x1 x9).f2.f1) ((rd_T65 x1 x9).f2.f2) ((rd_T65 x1 x9).f2.f3) ((rd_T65 x1 x9).f2.f4) ((rd_T65 x1 x9).f2.f5) ((rd_T65 x1 x9).f3) ((rd_T65 x1 x9).f4) ((rd_T65 x1 x9).f5)).bind fun t388 => (if t388 = true then (celluloidref08_SameLists.l0 k x0 x1 x2 x3 (wrap64 (x9 + 1))) else (some false))) else (none)) else (none)) else (celluloidref08_SameLists.l1 k x2 x3 0)
def celluloidref08_SameLists.l1 : Nat → List (S79) → List (S79) → Int → Option (Bool)
  | 0, _, _, _ => none
  | k + 1, x2, x3, x10 => if x10 < (x2.length : Int) then (if 0 ≤ x10 then (if x10 < (x3.length : Int) then (if (!(((rd_T79 x2 x10).f0) == ((rd_T79 x3 x10).f0)) || ((!(((rd_T79 x2 x10).f1.f0) == ((rd_T79 x3 x10).f1.f0)) || (!(((rd_T79 x2 x10).f1.f1) == ((rd_T79 x3 x10).f1.f1)) || (!(((rd_T79 x2 x10).f1.f2) == ((rd_T79 x3 x10).f1.f2)) || (!(((rd_T79 x2 x10).f1.f3) == ((rd_T79 x3 x10).f1.f3)))))))) = true then (some false) else (celluloidref08_SameLists.l1 k x2 x3 (wrap64 (x10 + 1)))) else (none)) else (none)) else (some true)
end
def celluloidref08_SameLists.f (k : Nat) (l0 : List (S65)) (l1 : List (S65)) (l2 : List (S79)) (l3 : List (S79)) : Option (Bool) := if (l0.length : Int) = (l1.length : Int) then (celluloidref08_SameLists.j0 k l0 l1 l2 l3 ((l2.length : Int) != (l3.length : Int))) else (celluloidref08_SameLists.j0 k l0 l1 l2 l3 true)
theorem celluloidref08_SameLists.mono_l : ∀ k, (∀ y0 y1 y2 y3 y4, LeO (celluloidref08_SameLists.j0 k y0 y1 y2 y3 y4) (celluloidref08_SameLists.j0 (k + 1) y0 y1 y2 y3 y4)) ∧ (∀ y0 y1 y2 y3 y4, LeO (celluloidref08_SameLists.l0 k y0 y1 y2 y3 y4) (celluloidref08_SameLists.l0 (k + 1) y0 y1 y2 y3 y4)) ∧ (∀ y0 y1 y2, LeO (celluloidref08_SameLists.l1 k y0 y1 y2) (celluloidref08_SameLists.l1 (k + 1) y0 y1 y2))
  | 0 => ⟨fun _ _ _ _ _ r h => by simp [celluloidref08_SameLists.j0] at h, fun _ _ _ _ _ r h => by simp [celluloidref08_SameLists.l0] at h, fun _ _ _ r h => by simp [celluloidref08_SameLists.l1] at h⟩
  | k + 1 => by
    obtain ⟨ih0, ih1, ih2⟩ := celluloidref08_SameLists.mono_l k
    refine ⟨?_, ?_, ?_⟩
    · intro y0 y1 y2 y3 y4
      unfold celluloidref08_SameLists.j0
      repeat' first
      | with_reducible exact ih0 _ _ _ _ _
      | with_reducible exact ih1 _ _ _ _ _
      | with_reducible exact ih2 _ _ _
      | with_reducible exact celluloidref08_Same.mono _ _ _ _ _ _ _ _ _ _ _ _ _ _ _ _ _ _ _ _ _ _ _ _ _ _ _ _ _
      | with_reducible exact LeO.refl _
      | with_reducible exact LeO.none _
      | with_reducible refine LeO.ite ?_ ?_
      | with_reducible refine LeO.bind ?_ (fun _ => ?_)
    · intro y0 y1 y2 y3 y4
      unfold celluloidref08_SameLists.l0
      repeat' first
      | with_reducible exact ih0 _ _ _ _ _
      | with_reducible exact ih1 _ _ _ _ _
      | with_reducible exact ih2 _ _ _
      | with_reducible exact celluloidref08_Same.mono _ _ _ _ _ _ _ _ _ _ _ _ _ _ _ _ _ _ _ _ _ _ _ _ _ _ _ _ _
      | with_reducible exact LeO.refl _
      | with_reducible exact LeO.none _
      | with_reducible refine LeO.ite ?_ ?_
      | with_reducible refine LeO.bind ?_ (fun _ => ?_)
    · intro y0 y1 y2
      unfold celluloidref08_SameLists.l1
      repeat' first
      | with_reducible exact ih0 _ _ _ _ _
      | with_reducible exact ih1 _ _ _ _ _
      | with_reducible exact ih2 _ _ _
      | with_reducible exact celluloidref08_Same.mono _ _ _ _ _ _ _ _ _ _ _ _ _ _ _ _ _ _ _ _ _ _ _ _ _ _ _ _ _
      | with_reducible exact LeO.refl _
      | with_reducible exact LeO.none _
      | with_reducible refine LeO.ite ?_ ?_
      | with_reducible refine LeO.bind ?_ (fun _ => ?_)
theorem celluloidref08_SameLists.mono : ∀ a0 a1 a2 a3 k, LeO (celluloidref08_SameLists.f k a0 a1 a2 a3) (celluloidref08_SameLists.f (k + 1) a0 a1 a2 a3) := by
  intro a0 a1 a2 a3 k
  obtain ⟨ih0, ih1, ih2⟩ := celluloidref08_SameLists.mono_l k
  unfold celluloidref08_SameLists.f
  repeat' first
      | with_reducible exact ih0 _ _ _ _ _
      | with_reducible exact ih1 _ _ _ _ _
      | with_reducible exact ih2 _ _ _
      | with_reducible exact celluloidref08_Same.mono _ _ _ _ _ _ _ _ _ _ _ _ _ _ _ _ _ _ _ _ _ _ _ _ _ _ _ _ _
      | with_reducible exact LeO.refl _
      | with_reducible exact LeO.none _
      | with_reducible refine LeO.ite ?_ ?_
      | with_reducible refine LeO.bind ?_ (fun _ => ?_)
set_option maxHeartbeats 8000000 in
set_option maxRecDepth 100000 in
theorem celluloidref08_SameLists.cn {k : Nat} {A0 : Option Addr} {n0 c0 : Nat} {l0 : List (S65)} {A1 : Option Addr} {n1 c1 : Nat} {l1 : List (S65)} {A2 : Option Addr} {n2 c2 : Nat} {l2 : List (S79)} {A3 : Option Addr} {n3 c3 : Nat} {l3 : List (S79)} {r : Bool} {w : World} (h : celluloidref08_SameLists.f k l0 l1 l2 l3 = some r) (hr0 : Kd.C k65 w A0 n0 l0) (hc0 : n0 ≤ c0) (hr1 : Kd.C k65 w A1 n1 l1) (hc1 : n1 ≤ c1) (hr2 : Kd.C k79 w A2 n2 l2) (hc2 : n2 ≤ c2) (hr3 : Kd.C k79 w A3 n3 l3) (hc3 : n3 ≤ c3) :
    Calls Try.prog 13 #[.slice A0 n0 c0, .slice A1 n1 c1, .slice A2 n2 c2, .slice A3 n3 c3] w fun e w' => e = .returned (.bool r) ∧ Below w.heap.size w w' := by
  obtain rfl := hr0.1
  obtain rfl := hr1.1
  obtain rfl := hr2.1
  obtain rfl := hr3.1
  have HC0 := za hr0; have HL0 := za hc0; clear hr0 hc0
  have HC1 := za hr1; have HL1 := za hc1; clear hr1 hc1
  have HC2 := za hr2; have HL2 := za hc2; clear hr2 hc2
  have HC3 := za hr3; have HL3 := za hc3; clear hr3 hc3
  have hu65 := Try.underlying65
  have hu79 := Try.underlying79
  unfold celluloidref08_SameLists.f at h
  repeat' first
    | (with_reducible replace h := zs h)
    | (with_reducible replace h := zez h (by assumption) (by decide))
    | (with_reducible replace h := zb h; obtain ⟨t, A, h⟩ := h)
    | (with_reducible first | replace h := z1 h | replace h := z0 h | replace h := zep h (by assumption) | replace h := zen h (by assumption) | replace h := zcp h (by assumption) | replace h := zcn h (by assumption) | replace h := zbp h (by assumption) | replace h := zbn h (by assumption))
    | (with_reducible (first | replace h := zx h | replace h := zt h); obtain ⟨rfl, h⟩ | ⟨rfl, h⟩ := h)
    | (with_reducible (first | replace h := zd h | replace h := zl h | replace h := zm h); obtain ⟨c, h⟩ | ⟨c, h⟩ := h)
    | (with_reducible (first | replace h := ze h | replace h := zg h); obtain ⟨c, c', h⟩ | ⟨c, c', h⟩ := h)
    | (with_reducible replace h := zt h; obtain ⟨c, h⟩ | ⟨c, h⟩ := h)
    | (with_reducible replace h := Option.some.inj h; subst h)
    | (with_reducible exact (zn h).elim)
    | (obtain _ | k := k; exact absurd h (by simp [celluloidref08_SameLists.j0]); simp only [celluloidref08_SameLists.j0, if_true, if_false, Bool.false_eq_true] at h)
  all_goals
    try (have H' := za h; clear h)
    go_enter Try.func13, Try.ntmps13
    go_wp2_with (first
      | ((with_reducible refine zq ?_); first | go_quiet (fail) | (go_still_tail 10, (by kernel_rfl); change wpList _ _ _ _ _ (World.drew _)) | (go_still_tail 9, (by kernel_rfl); change wpList _ _ _ _ _ (World.drew _)) | (go_still_tail 8, (by kernel_rfl); change wpList _ _ _ _ _ (World.drew _)))
      | (go_at_call 28; refine (celluloidref08_Same.cn (by assumption : Aside0 _).out ?_ ?_ ?_ ?_).mono ?_; (focus with_reducible first | exact znil | exact zC (by assumption)); (first | exact Nat.le_refl _ | exact (by assumption : Aside0 _).out); (focus with_reducible first | exact znil | exact zC (by assumption)); (first | exact Nat.le_refl _ | exact (by assumption : Aside0 _).out); rintro e w' ⟨rfl, hb⟩; obtain ⟨hb, hc, hf⟩ := zk hb; have hy := zy w w'; simp only [zL, Nat.add_zero] at hy))
  all_goals first
    | (go_ret; exact ⟨rfl, Bw.out⟩)
    | (go_loopg [9] k (fun kq v9 w' => ∃ (x9_2 : Int), v9 = .int .i64 x9_2 ∧ Aside0 (celluloidref08_SameLists.l0 kq l0 l1 l2 l3 x9_2 = some r) ∧ Aside0 (kq ≤ k) ∧ Aside0 (Below w.heap.size w w'))
       case atStart => exact ⟨_, rfl, H', ⟨Nat.le_refl _⟩, ⟨Bw.out⟩⟩
       case round =>
        obtain ⟨x9_2, rfl, HA, HK1, HB⟩ := hrel
        have HB := Bw.mk HB.out; clear H'
        cases gk with
        | zero => exact absurd HA.out (by simp [celluloidref08_SameLists.l0])
        | succ k1 =>
          have h := HA.out; clear HA; simp only [celluloidref08_SameLists.l0] at h
          repeat' first
            | (with_reducible replace h := zs h)
            | (with_reducible replace h := zez h (by assumption) (by decide))
            | (with_reducible replace h := zb h; obtain ⟨t, A, h⟩ := h)
            | (with_reducible first | replace h := z1 h | replace h := z0 h | replace h := zep h (by assumption) | replace h := zen h (by assumption) | replace h := zcp h (by assumption) | replace h := zcn h (by assumption) | replace h := zbp h (by assumption) | replace h := zbn h (by assumption))
            | (with_reducible (first | replace h := zx h | replace h := zt h); obtain ⟨rfl, h⟩ | ⟨rfl, h⟩ := h)
            | (with_reducible (first | replace h := zd h | replace h := zl h | replace h := zm h); obtain ⟨c, h⟩ | ⟨c, h⟩ := h)
            | (with_reducible (first | replace h := ze h | replace h := zg h); obtain ⟨c, c', h⟩ | ⟨c, c', h⟩ := h)
            | (with_reducible replace h := zt h; obtain ⟨c, h⟩ | ⟨c, h⟩ := h)
            | (with_reducible replace h := Option.some.inj h; subst h)
            | (with_reducible exact (zn h).elim)
            | (obtain _ | k1 := k1; exact absurd h (by simp [celluloidref08_SameLists.j0]); simp only [celluloidref08_SameLists.j0, if_true, if_false, Bool.false_eq_true] at h)
          all_goals
            have HN : Lw w wr 0 := ⟨HB.out.size⟩
            try (refine zat65 (W := wr) HC0 x9_2 ?_ ?_ ?_; assumption; assumption; rintro ad ⟨⟩; intros)
            try (refine zat65 (W := wr) HC1 x9_2 ?_ ?_ ?_; assumption; assumption; rintro ad ⟨⟩; intros)
            try (have H' := za h; clear h)
            go_wp2_with (first
              | ((with_reducible refine zq ?_); first | go_quiet (fail) | (go_still_tail 10, (by kernel_rfl); change wpList _ _ _ _ _ (World.drew _)) | (go_still_tail 9, (by kernel_rfl); change wpList _ _ _ _ _ (World.drew _)) | (go_still_tail 8, (by kernel_rfl); change wpList _ _ _ _ _ (World.drew _)))
              | (go_at_call 28; refine (celluloidref08_Same.cn (by assumption : Aside0 _).out ?_ ?_ ?_ ?_).mono ?_; (focus with_reducible first | exact znil | exact zC (by assumption)); (first | exact Nat.le_refl _ | exact (by assumption : Aside0 _).out); (focus with_reducible first | exact znil | exact zC (by assumption)); (first | exact Nat.le_refl _ | exact (by assumption : Aside0 _).out); rintro e w' ⟨rfl, hb⟩; obtain ⟨hb, hc, hf⟩ := zk hb; have hy := zy w w'; simp only [zL, Nat.add_zero] at hy; have hy := zy wr w'; simp only [zL, Nat.add_zero] at hy))
          all_goals first
            | (go_ret; exact ⟨rfl, Bw.out⟩)
            | (go_roundg k1
               case measure => have := HK1.out; omega
               case rel => exact ⟨_, rfl, H', ⟨by have := HK1.out; omega⟩, ⟨Bw.out⟩⟩)
            | (go_loopg [10] k1 (fun kq v10 w' => ∃ (x10_3 : Int), v10 = .int .i64 x10_3 ∧ Aside0 (celluloidref08_SameLists.l1 kq l2 l3 x10_3 = some r) ∧ Aside0 (kq ≤ k1) ∧ Aside0 (Below w.heap.size w w'))
               case atStart => exact ⟨_, rfl, H', ⟨Nat.le_refl _⟩, ⟨Bw.out⟩⟩
               case round =>
                obtain ⟨x10_3, rfl, HA, HK2, HB⟩ := hrel
                have HB := Bw.mk HB.out; clear H'
                cases gk with
                | zero => exact absurd HA.out (by simp [celluloidref08_SameLists.l1])
                | succ k2 =>
                  have h := HA.out; clear HA; simp only [celluloidref08_SameLists.l1] at h
                  repeat' first
                    | (with_reducible replace h := zs h)
                    | (with_reducible replace h := zez h (by assumption) (by decide))
                    | (with_reducible replace h := zb h; obtain ⟨t, A, h⟩ := h)
                    | (with_reducible first | replace h := z1 h | replace h := z0 h | replace h := zep h (by assumption) | replace h := zen h (by assumption) | replace h := zcp h (by assumption) | replace h := zcn h (by assumption) | replace h := zbp h (by assumption) | replace h := zbn h (by assumption))
                    | (with_reducible (first | replace h := zx h | replace h := zt h); obtain ⟨rfl, h⟩ | ⟨rfl, h⟩ := h)
                    | (with_reducible (first | replace h := zd h | replace h := zl h | replace h := zm h); obtain ⟨c, h⟩ | ⟨c, h⟩ := h)
                    | (with_reducible (first | replace h := ze h | replace h := zg h); obtain ⟨c, c', h⟩ | ⟨c, c', h⟩ := h)
                    | (with_reducible replace h := zt h; obtain ⟨c, h⟩ | ⟨c, h⟩ := h)
                    | (with_reducible replace h := Option.some.inj h; subst h)
                    | (with_reducible exact (zn h).elim)
                    | (obtain _ | k2 := k2; exact absurd h (by simp [celluloidref08_SameLists.j0]); simp only [celluloidref08_SameLists.j0, if_true, if_false, Bool.false_eq_true] at h)
                  all_goals
                    have HN : Lw w wr 0 := ⟨HB.out.size⟩
                    try (refine zat65 (W := wr) HC0 x9_2 ?_ ?_ ?_; assumption; assumption; rintro ad ⟨⟩; intros)
                    try (refine zat65 (W := wr) HC1 x9_2 ?_ ?_ ?_; assumption; assumption; rintro ad ⟨⟩; intros)
                    try (refine zat79 (W := wr) HC2 x10_3 ?_ ?_ ?_; assumption; assumption; rintro ad ⟨⟩; intros)
                    try (refine zat79 (W := wr) HC3 x10_3 ?_ ?_ ?_; assumption; assumption; rintro ad ⟨⟩; intros)
                    try (have H' := za h; clear h)
                    go_wp2_with (first
                      | ((with_reducible refine zq ?_); first | go_quiet (fail) | (go_still_tail 10, (by kernel_rfl); change wpList _ _ _ _ _ (World.drew _)) | (go_still_tail 9, (by kernel_rfl); change wpList _ _ _ _ _ (World.drew _)) | (go_still_tail 8, (by kernel_rfl); change wpList _ _ _ _ _ (World.drew _)))
                      | (go_at_call 28; refine (celluloidref08_Same.cn (by assumption : Aside0 _).out ?_ ?_ ?_ ?_).mono ?_; (focus with_reducible first | exact znil | exact zC (by assumption)); (first | exact Nat.le_refl _ | exact (by assumption : Aside0 _).out); (focus with_reducible first | exact znil | exact zC (by assumption)); (first | exact Nat.le_refl _ | exact (by assumption : Aside0 _).out); rintro e w' ⟨rfl, hb⟩; obtain ⟨hb, hc, hf⟩ := zk hb; have hy := zy w w'; simp only [zL, Nat.add_zero] at hy; have hy := zy wr w'; simp only [zL, Nat.add_zero] at hy))
                  all_goals first
                    | (go_ret; exact ⟨rfl, Bw.out⟩)
                    | (go_roundg k2
                       case measure => have := HK2.out; omega
                       case rel => exact ⟨_, rfl, H', ⟨by have := HK2.out; omega⟩, ⟨Bw.out⟩⟩)))

/-! ### celluloidref15_Same: function 14 -/
def celluloidref15_Same.l0 : Nat → List (S74) → List (S74) → Int → Option (Bool)
  | 0, _, _, _ => none
  | k + 1, x0, x1, x5 => if x5 < (x0.length : Int) then (if 0 ≤ x5 then (if x5 < (x1.length : Int) then (if ((!(((rd_T74 x0 x5).f0.f0) == ((rd_T74 x1 x5).f0.f0)) || (!(((rd_T74 x0 x5).f0.f1) == ((rd_T74 x1 x5).f0.f1)))) || ((!(((rd_T74 x0 x5).f1.f0) == ((rd_T74 x1 x5).f1.f0)) || (!(((rd_T74 x0 x5).f1.f1) == ((rd_T74 x1 x5).f1.f1)))) || ((!(((rd_T74 x0 x5).f2.f0) == ((rd_T74 x1 x5).f2.f0)) || (!(((rd_T74 x0 x5).f2.f1) == ((rd_T74 x1 x5).f2.f1)))) || (!(((rd_T74 x0 x5).f3) == ((rd_T74 x1 x5).f3)) || (!(((rd_T74 x0 x5).f4) == ((rd_T74 x1 x5).f4)) || (!(((rd_T74 x0 x5).f5) == ((rd_T74 x1 x5).f5)) || (!(((rd_T74 x0 x5).f6) == ((rd_T74 x1 x5).f6))))))))) = true then (some false) else (celluloidref15_Same.l0 k x0 x1 (wrap64 (x5 + 1)))) else (none)) else (none)) else (some true)
def celluloidref15_Same.f (k : Nat) (l0 : List (S74)) (l1 : List (S74)) : Option (Bool) := if (l0.length : Int) = (l1.length : Int) then (celluloidref15_Same.l0 k l0 l1 0) else (some false)
theorem celluloidref15_Same.mono_l : ∀ k, (∀ y0 y1 y2, LeO (celluloidref15_Same.l0 k y0 y1 y2) (celluloidref15_Same.l0 (k + 1) y0 y1 y2))
  | 0 => fun _ _ _ r h => by simp [celluloidref15_Same.l0] at h
  | k + 1 => by
    have ih0 := celluloidref15_Same.mono_l k
    · intro y0 y1 y2
      unfold celluloidref15_Same.l0
      repeat' first
      | with_reducible exact ih0 _ _ _
      | with_reducible exact LeO.refl _
      | with_reducible exact LeO.none _
      | with_reducible refine LeO.ite ?_ ?_
      | with_reducible refine LeO.bind ?_ (fun _ => ?_)
theorem celluloidref15_Same.mono : ∀ a0 a1 k, LeO (celluloidref15_Same.f k a0 a1) (celluloidref15_Same.f (k + 1) a0 a1) := by
  intro a0 a1 k
  have ih0 := celluloidref15_Same.mono_l k
  unfold celluloidref15_Same.f
  repeat' first
      | with_reducible exact ih0 _ _ _
      | with_reducible exact LeO.refl _
      | with_reducible exact LeO.none _
      | with_reducible refine LeO.ite ?_ ?_
      | with_reducible refine LeO.bind ?_ (fun _ => ?_)
set_option maxHeartbeats 8000000 in
set_option maxRecDepth 100000 in
theorem celluloidref15_Same.cn {k : Nat} {A0 : Option Addr} {n0 c0 : Nat} {l0 : List (S74)} {A1 : Option Addr} {n1 c1 : Nat} {l1 : List (S74)} {r : Bool} {w : World} (h : celluloidref15_Same.f k l0 l1 = some r) (hr0 : Kd.C k74 w A0 n0 l0) (hc0 : n0 ≤ c0) (hr1 : Kd.C k74 w A1 n1 l1) (hc1 : n1 ≤ c1) :
    Calls Try.prog 14 #[.slice A0 n0 c0, .slice A1 n1 c1] w fun e w' => e = .returned (.bool r) ∧ Drawn0 w w' := by
  obtain rfl := hr0.1
  obtain rfl := hr1.1
  have HC0 := za hr0; have HL0 := za hc0; clear hr0 hc0
  have HC1 := za hr1; have HL1 := za hc1; clear hr1 hc1
  have HB := Drawn0.refl w
  have hu74 := Try.underlying74
  unfold celluloidref15_Same.f at h
  repeat' first
    | (with_reducible replace h := zs h)
    | (with_reducible replace h := zez h (by assumption) (by decide))
    | (with_reducible replace h := zb h; obtain ⟨t, A, h⟩ := h)
    | (with_reducible first | replace h := z1 h | replace h := z0 h | replace h := zep h (by assumption) | replace h := zen h (by assumption) | replace h := zcp h (by assumption) | replace h := zcn h (by assumption) | replace h := zbp h (by assumption) | replace h := zbn h (by assumption))
    | (with_reducible (first | replace h := zx h | replace h := zt h); obtain ⟨rfl, h⟩ | ⟨rfl, h⟩ := h)
    | (with_reducible (first | replace h := zd h | replace h := zl h | replace h := zm h); obtain ⟨c, h⟩ | ⟨c, h⟩ := h)
    | (with_reducible (first | replace h := ze h | replace h := zg h); obtain ⟨c, c', h⟩ | ⟨c, c', h⟩ := h)
    | (with_reducible replace h := zt h; obtain ⟨c, h⟩ | ⟨c, h⟩ := h)
    | (with_reducible replace h := Option.some.inj h; subst h)
    | (with_reducible exact (zn h).elim)
  all_goals
    try (have H' := za h; clear h)
    go_enter Try.func14, Try.ntmps14
    go_wp2_with (first
      | ((with_reducible refine zq ?_); first | go_quiet (fail)))
  all_goals first
    | (go_ret; exact ⟨rfl, by repeat (first | exact HB | exact Drawn0.refl _ | apply Drawn0.step)⟩)
    | (go_loopg [5] k (fun kq v5 w' => ∃ (x5_1 : Int), v5 = .int .i64 x5_1 ∧ Aside0 (celluloidref15_Same.l0 kq l0 l1 x5_1 = some r) ∧ Aside0 (kq ≤ k) ∧ Drawn0 w w')
       case atStart => exact ⟨_, rfl, H', ⟨Nat.le_refl _⟩, by repeat (first | exact HB | exact Drawn0.refl _ | apply Drawn0.step)⟩
       case round =>
        obtain ⟨x5_1, rfl, HA, HK1, HB⟩ := hrel
        have HW := Bw.mk HB.below; clear H'
        cases gk with
        | zero => exact absurd HA.out (by simp [celluloidref15_Same.l0])
        | succ k1 =>
          have h := HA.out; clear HA; simp only [celluloidref15_Same.l0] at h
          repeat' first
            | (with_reducible replace h := zs h)
            | (with_reducible replace h := zez h (by assumption) (by decide))
            | (with_reducible replace h := zb h; obtain ⟨t, A, h⟩ := h)
            | (with_reducible first | replace h := z1 h | replace h := z0 h | replace h := zep h (by assumption) | replace h := zen h (by assumption) | replace h := zcp h (by assumption) | replace h := zcn h (by assumption) | replace h := zbp h (by assumption) | replace h := zbn h (by assumption))
            | (with_reducible (first | replace h := zx h | replace h := zt h); obtain ⟨rfl, h⟩ | ⟨rfl, h⟩ := h)
            | (with_reducible (first | replace h := zd h | replace h := zl h | replace h := zm h); obtain ⟨c, h⟩ | ⟨c, h⟩ := h)
            | (with_reducible (first | replace h := ze h | replace h := zg h); obtain ⟨c, c', h⟩ | ⟨c, c', h⟩ := h)
            | (with_reducible replace h := zt h; obtain ⟨c, h⟩ | ⟨c, h⟩ := h)
            | (with_reducible replace h := Option.some.inj h; subst h)
            | (with_reducible exact (zn h).elim)
          all_goals
            have HN : Lw w wr 0 := ⟨HW.out.size⟩
            try (refine zat74 (W := wr) HC0 x5_1 ?_ ?_ ?_; assumption; assumption; rintro ad ⟨⟩; intros)
            try (refine zat74 (W := wr) HC1 x5_1 ?_ ?_ ?_; assumption; assumption; rintro ad ⟨⟩; intros)
            try (have H' := za h; clear h)
            go_wp2_with (first
              | ((with_reducible refine zq ?_); first | go_quiet (fail)))
          all_goals first
            | (go_ret; exact ⟨rfl, by repeat (first | exact HB | exact Drawn0.refl _ | apply Drawn0.step)⟩)
            | (go_roundg k1
               case measure => have := HK1.out; omega
               case rel => exact ⟨_, rfl, H', ⟨by have := HK1.out; omega⟩, by repeat (first | exact HB | exact Drawn0.refl _ | apply Drawn0.step)⟩))

end Go.Proofs.Ytlldbmodidhidaa.P
