/- Walks by cw.py (wip/tool): plain functions that tell what the program answers, and the proofs that the program comes to these answers, for all arguments of their kinds. -/
import Derived.Test.YtmdfcinjmlagcaaCwR
import Derived.Test.YtmdfcinjmlagcaaPx1
namespace Go.Proofs.Ytmdfcinjmlagcaa.P
open Go.RowKit Go.Proofs.YtmdfcinjmlagcaaW.PrintWords Go.Proofs.YtmdfcinjmlagcaaW.PrintLast Go.Proofs.YtmdfcinjmlagcaaW.PrintMore
attribute [local go_sem] max2_int min2_int max_two min_two max_three min_three max_four min_four max_five min_five max_six min_six
set_option linter.unusedVariables false
set_option linter.unusedSimpArgs false
attribute [local go_sem high] eqA23

/-! ### celluloidref11_Equal: function 19 -/
mutual
def celluloidref11_Equal.j0 : Nat → Bool → Int → Int → Int → List (S23) → Int → Int → Int → List (S23) → Option (Bool)
  | 0, _, _, _, _, _, _, _, _, _ => none
  | k + 1, x33, x183000, x183001, x183002, x183003, x184000, x184001, x184002, x184003 => if x33 = true then (some false) else (celluloidref11_Equal.l0 k 0 x183000 x183001 x183002 x183003 x184000 x184001 x184002 x184003)
def celluloidref11_Equal.l0 : Nat → Int → Int → Int → Int → List (S23) → Int → Int → Int → List (S23) → Option (Bool)
  | 0, _, _, _, _, _, _, _, _, _ => none
  | k + 1, x5, x183000, x183001, x183002, x183003, x184000, x184001, x184002, x184003 => if x5 < (x183003.length : Int) then (if 0 ≤ x5 then (if x5 < (x184003.length : Int) then (if (!(((rd_T23 x183003 x5).f0) == ((rd_T23 x184003 x5).f0)) || (!(((rd_T23 x183003 x5).f1) == ((rd_T23 x184003 x5).f1)) || (!(((rd_T23 x183003 x5).f2) == ((rd_T23 x184003 x5).f2)) || (!(((rd_T23 x183003 x5).f3) == ((rd_T23 x184003 x5).f3)))))) = true then (some false) else (celluloidref11_Equal.l0 k (wrap64 (x5 + 1)) x183000 x183001 x183002 x183003 x184000 x184001 x184002 x184003)) else (none)) else (none)) else (some true)
end
def celluloidref11_Equal.f (k : Nat) (a0_0 : Int) (a0_1 : Int) (a0_2 : Int) (l0_3 : List (S23)) (a1_0 : Int) (a1_1 : Int) (a1_2 : Int) (l1_3 : List (S23)) : Option (Bool) := if a0_0 = a1_0 then (if a0_1 = a1_1 then (if a0_2 = a1_2 then (celluloidref11_Equal.j0 k ((l0_3.length : Int) != (l1_3.length : Int)) a0_0 a0_1 a0_2 l0_3 a1_0 a1_1 a1_2 l1_3) else (celluloidref11_Equal.j0 k true a0_0 a0_1 a0_2 l0_3 a1_0 a1_1 a1_2 l1_3)) else (celluloidref11_Equal.j0 k true a0_0 a0_1 a0_2 l0_3 a1_0 a1_1 a1_2 l1_3)) else (celluloidref11_Equal.j0 k true a0_0 a0_1 a0_2 l0_3 a1_0 a1_1 a1_2 l1_3)
theorem celluloidref11_Equal.mono_l : ∀ k, (∀ y0 y1 y2 y3 y4 y5 y6 y7 y8, LeO (celluloidref11_Equal.j0 k y0 y1 y2 y3 y4 y5 y6 y7 y8) (celluloidref11_Equal.j0 (k + 1) y0 y1 y2 y3 y4 y5 y6 y7 y8)) ∧ (∀ y0 y1 y2 y3 y4 y5 y6 y7 y8, LeO (celluloidref11_Equal.l0 k y0 y1 y2 y3 y4 y5 y6 y7 y8) (celluloidref11_Equal.l0 (k + 1) y0 y1 y2 y3 y4 y5 y6 y7 y8))
  | 0 => ⟨fun _ _ _ _ _ _ _ _ _ r h => by simp [celluloidref11_Equal.j0] at h, fun _ _ _ _ _ _ _ _ _ r h => by simp [celluloidref11_Equal.l0] at h⟩
  | k + 1 => by
    obtain ⟨ih0, ih1⟩ := celluloidref11_Equal.mono_l k
    refine ⟨?_, ?_⟩
    · intro y0 y1 y2 y3 y4 y5 y6 y7 y8
      unfold celluloidref11_Equal.j0
      repeat' first
      | with_reducible exact ih0 _ _ _ _ _ _ _ _ _
      | with_reducible exact ih1 _ _ _ _ _ _ _ _ _
      | with_reducible exact LeO.refl _
      | with_reducible exact LeO.none _
      | with_reducible refine LeO.ite ?_ ?_
      | with_reducible refine LeO.bind ?_ (fun _ => ?_)
    · intro y0 y1 y2 y3 y4 y5 y6 y7 y8
      unfold celluloidref11_Equal.l0
      repeat' first
      | with_reducible exact ih0 _ _ _ _ _ _ _ _ _
      | with_reducible exact ih1 _ _ _ _ _ _ _ _ _
      | with_reducible exact LeO.refl _
      | with_reducible exact LeO.none _
      | with_reducible refine LeO.ite ?_ ?_
      | with_reducible refine LeO.bind ?_ (fun _ => ?_)
theorem celluloidref11_Equal.mono : ∀ a0 a1 a2 a3 a4 a5 a6 a7 k, LeO (celluloidref11_Equal.f k a0 a1 a2 a3 a4 a5 a6 a7) (celluloidref11_Equal.f (k + 1) a0 a1 a2 a3 a4 a5 a6 a7) := by
  intro a0 a1 a2 a3 a4 a5 a6 a7 k
  obtain ⟨ih0, ih1⟩ := celluloidref11_Equal.mono_l k
  unfold celluloidref11_Equal.f
  repeat' first
      | with_reducible exact ih0 _ _ _ _ _ _ _ _ _
      | with_reducible exact ih1 _ _ _ _ _ _ _ _ _
      | with_reducible exact LeO.refl _
      | with_reducible exact LeO.none _
      | with_reducible refine LeO.ite ?_ ?_
      | with_reducible refine LeO.bind ?_ (fun _ => ?_)
set_option maxHeartbeats 8000000 in
set_option maxRecDepth 100000 in
theorem celluloidref11_Equal.cn {a0_0 a0_1 a0_2 a1_0 a1_1 a1_2 : Int} {k : Nat} {A0_3 : Option Addr} {n0_3 c0_3 : Nat} {l0_3 : List (S23)} {A1_3 : Option Addr} {n1_3 c1_3 : Nat} {l1_3 : List (S23)} {r : Bool} {w : World} (h : celluloidref11_Equal.f k a0_0 a0_1 a0_2 l0_3 a1_0 a1_1 a1_2 l1_3 = some r) (hr0_3 : Kd.C k23 w A0_3 n0_3 l0_3) (hc0_3 : n0_3 ≤ c0_3) (hr1_3 : Kd.C k23 w A1_3 n1_3 l1_3) (hc1_3 : n1_3 ≤ c1_3) :
    Calls Try.prog 19 #[.agg #[.int .i64 a0_0, .int .i64 a0_1, .int .i64 a0_2, .slice A0_3 n0_3 c0_3], .agg #[.int .i64 a1_0, .int .i64 a1_1, .int .i64 a1_2, .slice A1_3 n1_3 c1_3]] w fun e w' => e = .returned (.bool r) ∧ Below w.heap.size w w' := by
  obtain rfl := hr0_3.1
  obtain rfl := hr1_3.1
  have HC0_3 := za hr0_3; have HL0_3 := za hc0_3; clear hr0_3 hc0_3
  have HC1_3 := za hr1_3; have HL1_3 := za hc1_3; clear hr1_3 hc1_3
  have hu23 := Try.underlying23
  have hu48 := Try.underlying48
  unfold celluloidref11_Equal.f at h
  repeat' first
    | (with_reducible replace h := zs h)
    | (with_reducible replace h := zez h (by assumption) (by decide))
    | (with_reducible replace h := zb h; obtain ⟨t, A, h⟩ := h)
    | (with_reducible first | replace h := z1 h | replace h := z0 h | replace h := zep h (by assumption) | replace h := zen h (by assumption) | replace h := zcp h (by assumption) | replace h := zcn h (by assumption) | replace h := zbp h (by assumption) | replace h := zbn h (by assumption))
    | (with_reducible (first | replace h := zx h | replace h := zt h); obtain ⟨rfl, h⟩ | ⟨rfl, h⟩ := h)
    | (with_reducible (first | replace h := zd h | replace h := zl h | replace h := zm h); obtain ⟨c, h⟩ | ⟨c, h⟩ := h)
    | (with_reducible (first | replace h := ze h | replace h := zg h); obtain ⟨c, c', h⟩ | ⟨c, c', h⟩ := h)
    | (with_reducible replace h := zt h; obtain ⟨c, h⟩ | ⟨c, h⟩ := h)
    | (with_reducible replace h := Option.some.inj h; subst h)
    | (with_reducible exact (zn h).elim)
    | (obtain _ | k := k; exact absurd h (by simp [celluloidref11_Equal.j0]); simp only [celluloidref11_Equal.j0, if_true, if_false, Bool.false_eq_true] at h)
  all_goals
    try (have H' := za h; clear h)
    go_enter Try.func19, Try.ntmps19
    go_wp2_with (first
      | ((with_reducible refine zq ?_); first | go_quiet (fail)))
  all_goals first
    | (go_ret; exact ⟨rfl, Bw.out⟩)
    | (go_loopg [5] k (fun kq v5 w' => ∃ (x5_2 : Int), v5 = .int .i64 x5_2 ∧ Aside0 (celluloidref11_Equal.l0 kq x5_2 a0_0 a0_1 a0_2 l0_3 a1_0 a1_1 a1_2 l1_3 = some r) ∧ Aside0 (kq ≤ k) ∧ Aside0 (w'.heap[w.heap.size]? = some (.cells #[.int .i64 a0_0, .int .i64 a0_1, .int .i64 a0_2, (.slice A0_3 l0_3.length c0_3)] 48 (0, 0))) ∧ Aside0 (w'.heap[w.heap.size + 1]? = some (.cells #[.int .i64 a1_0, .int .i64 a1_1, .int .i64 a1_2, (.slice A1_3 l1_3.length c1_3)] 48 (0, 0))) ∧ Aside0 (Below w.heap.size w w'))
       case atStart => exact ⟨_, rfl, H', ⟨Nat.le_refl _⟩, ⟨by (with_reducible repeat (first | exact (by assumption : Aside0 _).out | (focus (refine znew ?_; simp only [World.size_alloc, World.heap_drewN, heap_drew]; done)) | refine blk_alloc ?_ _ | refine blk_drewN ?_ _ | refine blk_drew ?_ | refine blk_below ?_ Bs.out | apply zput | (refine zfar ?_ ?_; (focus omega)))) <;> rfl⟩, ⟨by (with_reducible repeat (first | exact (by assumption : Aside0 _).out | (focus (refine znew ?_; simp only [World.size_alloc, World.heap_drewN, heap_drew]; done)) | refine blk_alloc ?_ _ | refine blk_drewN ?_ _ | refine blk_drew ?_ | refine blk_below ?_ Bs.out | apply zput | (refine zfar ?_ ?_; (focus omega)))) <;> rfl⟩, ⟨Bw.out⟩⟩
       case round =>
        obtain ⟨x5_2, rfl, HA, HK1, BK0, BK1, HB⟩ := hrel
        have HB := Bw.mk HB.out; clear H'
        cases gk with
        | zero => exact absurd HA.out (by simp [celluloidref11_Equal.l0])
        | succ k1 =>
          have h := HA.out; clear HA; simp only [celluloidref11_Equal.l0] at h
          repeat' first
            | (with_reducible replace h := zs h)
            | (with_reducible replace h := zez h (by assumption) (by decide))
            | (with_reducible replace h := zb h; obtain ⟨t, A, h⟩ := h)
            | (with_reducible first | replace h := z1 h | replace h := z0 h | replace h := zep h (by assumption) | replace h := zen h (by assumption) | replace h := zcp h (by assumption) | replace h := zcn h (by assumption) | replace h := zbp h (by assumption) | replace h := zbn h (by assumption))
            | (with_reducible (first | replace h := zx h | replace h := zt h); obtain ⟨rfl, h⟩ | ⟨rfl, h⟩ := h)
            | (with_reducible (first | replace h := zd h | replace h := zl h | replace h := zm h); obtain ⟨c, h⟩ | ⟨c, h⟩ := h)
            | (with_reducible (first | replace h := ze h | replace h := zg h); obtain ⟨c, c', h⟩ | ⟨c, c', h⟩ := h)
            | (with_reducible replace h := zt h; obtain ⟨c, h⟩ | ⟨c, h⟩ := h)
            | (with_reducible replace h := Option.some.inj h; subst h)
            | (with_reducible exact (zn h).elim)
            | (obtain _ | k1 := k1; exact absurd h (by simp [celluloidref11_Equal.j0]); simp only [celluloidref11_Equal.j0, if_true, if_false, Bool.false_eq_true] at h)
          all_goals
            obtain ⟨hc0, hf0, hz0⟩ := zo BK0.out
            obtain ⟨hc1, hf1, hz1⟩ := zo BK1.out
            have HN : Lw w wr 2 := ⟨by have := blk_lt BK1.out; omega⟩
            try (refine zat23 (W := wr) HC0_3 x5_2 ?_ ?_ ?_; (first | assumption | decide); assumption; rintro ad ⟨⟩; intros)
            try (refine zat23 (W := wr) HC1_3 x5_2 ?_ ?_ ?_; (first | assumption | decide); assumption; rintro ad ⟨⟩; intros)
            try (have H' := za h; clear h)
            go_wp2_with (first
              | ((with_reducible refine zq ?_); first | go_quiet (fail)))
          all_goals first
            | (go_ret; exact ⟨rfl, Bw.out⟩)
            | (go_roundg k1
               case measure => have := HK1.out; omega
               case rel => exact ⟨_, rfl, H', ⟨by have := HK1.out; omega⟩, ⟨by (with_reducible repeat (first | exact (by assumption : Aside0 _).out | (focus (refine znew ?_; simp only [World.size_alloc, World.heap_drewN, heap_drew]; done)) | refine blk_alloc ?_ _ | refine blk_drewN ?_ _ | refine blk_drew ?_ | refine blk_below ?_ Bs.out | apply zput | (refine zfar ?_ ?_; (focus omega)))) <;> rfl⟩, ⟨by (with_reducible repeat (first | exact (by assumption : Aside0 _).out | (focus (refine znew ?_; simp only [World.size_alloc, World.heap_drewN, heap_drew]; done)) | refine blk_alloc ?_ _ | refine blk_drewN ?_ _ | refine blk_drew ?_ | refine blk_below ?_ Bs.out | apply zput | (refine zfar ?_ ?_; (focus omega)))) <;> rfl⟩, ⟨Bw.out⟩⟩))

/-! ### celluloidref11_Right: function 39 -/
mutual
def celluloidref11_Right.j0 : Nat → Bool → Int → Int → Int → List (S23) → Option (Bool)
  | 0, _, _, _, _, _ => none
  | k + 1, x43, x513000, x513001, x513002, x513003 => if x43 = true then (some false) else (celluloidref11_Right.l0 k 0 x513000 x513001 x513002 x513003)
def celluloidref11_Right.l0 : Nat → Int → Int → Int → Int → List (S23) → Option (Bool)
  | 0, _, _, _, _, _ => none
  | k + 1, x3, x513000, x513001, x513002, x513003 => if x3 < (x513003.length : Int) then (if 0 ≤ x3 then (if ((rd_T23 x513003 x3).f3) > 255 then (some false) else (if ((rd_T23 x513003 x3).f0) < 0 then (some false) else (if ((rd_T23 x513003 x3).f1) < 0 then (some false) else (if ((rd_T23 x513003 x3).f2) < 0 then (some false) else (if ((rd_T23 x513003 x3).f0) > ((rd_T23 x513003 x3).f3) then (some false) else (if ((rd_T23 x513003 x3).f1) > ((rd_T23 x513003 x3).f3) then (some false) else (if ((rd_T23 x513003 x3).f2) > ((rd_T23 x513003 x3).f3) then (some false) else (celluloidref11_Right.l0 k (wrap64 (x3 + 1)) x513000 x513001 x513002 x513003)))))))) else (none)) else (some true)
end
def celluloidref11_Right.f (k : Nat) (a0_0 : Int) (a0_1 : Int) (a0_2 : Int) (l0_3 : List (S23)) : Option (Bool) := if a0_0 < 0 then (celluloidref11_Right.j0 k true a0_0 a0_1 a0_2 l0_3) else (if a0_0 > 65535 then (celluloidref11_Right.j0 k true a0_0 a0_1 a0_2 l0_3) else (if a0_1 < 1 then (celluloidref11_Right.j0 k true a0_0 a0_1 a0_2 l0_3) else (if a0_1 > 64 then (celluloidref11_Right.j0 k true a0_0 a0_1 a0_2 l0_3) else (if a0_2 < 1 then (celluloidref11_Right.j0 k true a0_0 a0_1 a0_2 l0_3) else (if a0_2 > 64 then (celluloidref11_Right.j0 k true a0_0 a0_1 a0_2 l0_3) else (celluloidref11_Right.j0 k ((l0_3.length : Int) != (wrap64 (a0_1 * a0_2))) a0_0 a0_1 a0_2 l0_3))))))
theorem celluloidref11_Right.mono_l : ∀ k, (∀ y0 y1 y2 y3 y4, LeO (celluloidref11_Right.j0 k y0 y1 y2 y3 y4) (celluloidref11_Right.j0 (k + 1) y0 y1 y2 y3 y4)) ∧ (∀ y0 y1 y2 y3 y4, LeO (celluloidref11_Right.l0 k y0 y1 y2 y3 y4) (celluloidref11_Right.l0 (k + 1) y0 y1 y2 y3 y4))
  | 0 => ⟨fun _ _ _ _ _ r h => by simp [celluloidref11_Right.j0] at h, fun _ _ _ _ _ r h => by simp [celluloidref11_Right.l0] at h⟩
  | k + 1 => by
    obtain ⟨ih0, ih1⟩ := celluloidref11_Right.mono_l k
    refine ⟨?_, ?_⟩
    · intro y0 y1 y2 y3 y4
      unfold celluloidref11_Right.j0
      repeat' first
      | with_reducible exact ih0 _ _ _ _ _
      | with_reducible exact ih1 _ _ _ _ _
      | with_reducible exact LeO.refl _
      | with_reducible exact LeO.none _
      | with_reducible refine LeO.ite ?_ ?_
      | with_reducible refine LeO.bind ?_ (fun _ => ?_)
    · intro y0 y1 y2 y3 y4
      unfold celluloidref11_Right.l0
      repeat' first
      | with_reducible exact ih0 _ _ _ _ _
      | with_reducible exact ih1 _ _ _ _ _
      | with_reducible exact LeO.refl _
      | with_reducible exact LeO.none _
      | with_reducible refine LeO.ite ?_ ?_
      | with_reducible refine LeO.bind ?_ (fun _ => ?_)
theorem celluloidref11_Right.mono : ∀ a0 a1 a2 a3 k, LeO (celluloidref11_Right.f k a0 a1 a2 a3) (celluloidref11_Right.f (k + 1) a0 a1 a2 a3) := by
  intro a0 a1 a2 a3 k
  obtain ⟨ih0, ih1⟩ := celluloidref11_Right.mono_l k
  unfold celluloidref11_Right.f
  repeat' first
      | with_reducible exact ih0 _ _ _ _ _
      | with_reducible exact ih1 _ _ _ _ _
      | with_reducible exact LeO.refl _
      | with_reducible exact LeO.none _
      | with_reducible refine LeO.ite ?_ ?_
      | with_reducible refine LeO.bind ?_ (fun _ => ?_)
set_option maxHeartbeats 8000000 in
set_option maxRecDepth 100000 in
theorem celluloidref11_Right.cn {a0_0 a0_1 a0_2 : Int} {k : Nat} {A0_3 : Option Addr} {n0_3 c0_3 : Nat} {l0_3 : List (S23)} {r : Bool} {w : World} (h : celluloidref11_Right.f k a0_0 a0_1 a0_2 l0_3 = some r) (hr0_3 : Kd.C k23 w A0_3 n0_3 l0_3) (hc0_3 : n0_3 ≤ c0_3) :
    Calls Try.prog 39 #[.agg #[.int .i64 a0_0, .int .i64 a0_1, .int .i64 a0_2, .slice A0_3 n0_3 c0_3]] w fun e w' => e = .returned (.bool r) ∧ Below w.heap.size w w' := by
  obtain rfl := hr0_3.1
  have HC0_3 := za hr0_3; have HL0_3 := za hc0_3; clear hr0_3 hc0_3
  have hu23 := Try.underlying23
  have hu48 := Try.underlying48
  unfold celluloidref11_Right.f at h
  repeat' first
    | (with_reducible replace h := zs h)
    | (with_reducible replace h := zez h (by assumption) (by decide))
    | (with_reducible replace h := zb h; obtain ⟨t, A, h⟩ := h)
    | (with_reducible first | replace h := z1 h | replace h := z0 h | replace h := zep h (by assumption) | replace h := zen h (by assumption) | replace h := zcp h (by assumption) | replace h := zcn h (by assumption) | replace h := zbp h (by assumption) | replace h := zbn h (by assumption))
    | (with_reducible (first | replace h := zx h | replace h := zt h); obtain ⟨rfl, h⟩ | ⟨rfl, h⟩ := h)
    | (with_reducible (first | replace h := zd h | replace h := zl h | replace h := zm h); obtain ⟨c, h⟩ | ⟨c, h⟩ := h)
    | (with_reducible (first | replace h := ze h | replace h := zg h); obtain ⟨c, c', h⟩ | ⟨c, c', h⟩ := h)
    | (with_reducible replace h := zt h; obtain ⟨c, h⟩ | ⟨c, h⟩ := h)
    | (with_reducible replace h := Option.some.inj h; subst h)
    | (with_reducible exact (zn h).elim)
    | (obtain _ | k := k; exact absurd h (by simp [celluloidref11_Right.j0]); simp only [celluloidref11_Right.j0, if_true, if_false, Bool.false_eq_true] at h)
  all_goals
    try (have H' := za h; clear h)
    go_enter Try.func39, Try.ntmps39
    go_wp2_with (first
      | ((with_reducible refine zq ?_); first | go_quiet (fail)))
  all_goals first
    | (go_ret; exact ⟨rfl, Bw.out⟩)
    | (go_loopg [3] k (fun kq v3 w' => ∃ (x3_2 : Int), v3 = .int .i64 x3_2 ∧ Aside0 (celluloidref11_Right.l0 kq x3_2 a0_0 a0_1 a0_2 l0_3 = some r) ∧ Aside0 (kq ≤ k) ∧ Aside0 (w'.heap[w.heap.size]? = some (.cells #[.int .i64 a0_0, .int .i64 a0_1, .int .i64 a0_2, (.slice A0_3 l0_3.length c0_3)] 48 (0, 0))) ∧ Aside0 (Below w.heap.size w w'))
       case atStart => exact ⟨_, rfl, H', ⟨Nat.le_refl _⟩, ⟨by (with_reducible repeat (first | exact (by assumption : Aside0 _).out | (focus (refine znew ?_; simp only [World.size_alloc, World.heap_drewN, heap_drew]; done)) | refine blk_alloc ?_ _ | refine blk_drewN ?_ _ | refine blk_drew ?_ | refine blk_below ?_ Bs.out | apply zput | (refine zfar ?_ ?_; (focus omega)))) <;> rfl⟩, ⟨Bw.out⟩⟩
       case round =>
        obtain ⟨x3_2, rfl, HA, HK1, BK0, HB⟩ := hrel
        have HB := Bw.mk HB.out; clear H'
        cases gk with
        | zero => exact absurd HA.out (by simp [celluloidref11_Right.l0])
        | succ k1 =>
          have h := HA.out; clear HA; simp only [celluloidref11_Right.l0] at h
          repeat' first
            | (with_reducible replace h := zs h)
            | (with_reducible replace h := zez h (by assumption) (by decide))
            | (with_reducible replace h := zb h; obtain ⟨t, A, h⟩ := h)
            | (with_reducible first | replace h := z1 h | replace h := z0 h | replace h := zep h (by assumption) | replace h := zen h (by assumption) | replace h := zcp h (by assumption) | replace h := zcn h (by assumption) | replace h := zbp h (by assumption) | replace h := zbn h (by assumption))
            | (with_reducible (first | replace h := zx h | replace h := zt h); obtain ⟨rfl, h⟩ | ⟨rfl, h⟩ := h)
            | (with_reducible (first | replace h := zd h | replace h := zl h | replace h := zm h); obtain ⟨c, h⟩ | ⟨c, h⟩ := h)
            | (with_reducible (first | replace h := ze h | replace h := zg h); obtain ⟨c, c', h⟩ | ⟨c, c', h⟩ := h)
            | (with_reducible replace h := zt h; obtain ⟨c, h⟩ | ⟨c, h⟩ := h)
            | (with_reducible replace h := Option.some.inj h; subst h)
            | (with_reducible exact (zn h).elim)
            | (obtain _ | k1 := k1; exact absurd h (by simp [celluloidref11_Right.j0]); simp only [celluloidref11_Right.j0, if_true, if_false, Bool.false_eq_true] at h)
          all_goals
            obtain ⟨hc0, hf0, hz0⟩ := zo BK0.out
            have HN : Lw w wr 1 := ⟨by have := blk_lt BK0.out; omega⟩
            try (refine zat23 (W := wr) HC0_3 x3_2 ?_ ?_ ?_; (first | assumption | decide); assumption; rintro ad ⟨⟩; intros)
            try (have H' := za h; clear h)
            go_wp2_with (first
              | ((with_reducible refine zq ?_); first | go_quiet (fail)))
          all_goals first
            | (go_ret; exact ⟨rfl, Bw.out⟩)
            | (go_roundg k1
               case measure => have := HK1.out; omega
               case rel => exact ⟨_, rfl, H', ⟨by have := HK1.out; omega⟩, ⟨by (with_reducible repeat (first | exact (by assumption : Aside0 _).out | (focus (refine znew ?_; simp only [World.size_alloc, World.heap_drewN, heap_drew]; done)) | refine blk_alloc ?_ _ | refine blk_drewN ?_ _ | refine blk_drew ?_ | refine blk_below ?_ Bs.out | apply zput | (refine zfar ?_ ?_; (focus omega)))) <;> rfl⟩, ⟨Bw.out⟩⟩))

/-! ### celluloidref20_Find: function 18 -/
def celluloidref20_Find.l0 : Nat → List (S48) → Int → Int → Option (Int)
  | 0, _, _, _ => none
  | k + 1, x0, x1, x5 => if x5 < (x0.length : Int) then (if 0 ≤ x5 then (if ((rd_T48 x0 x5).f0) = x1 then (some x5) else (celluloidref20_Find.l0 k x0 x1 (wrap64 (x5 + 1)))) else (none)) else (some (-1))
def celluloidref20_Find.f (k : Nat) (l0 : List (S48)) (a1 : Int) : Option (Int) := celluloidref20_Find.l0 k l0 a1 0
theorem celluloidref20_Find.mono_l : ∀ k, (∀ y0 y1 y2, LeO (celluloidref20_Find.l0 k y0 y1 y2) (celluloidref20_Find.l0 (k + 1) y0 y1 y2))
  | 0 => fun _ _ _ r h => by simp [celluloidref20_Find.l0] at h
  | k + 1 => by
    have ih0 := celluloidref20_Find.mono_l k
    · intro y0 y1 y2
      unfold celluloidref20_Find.l0
      repeat' first
      | with_reducible exact ih0 _ _ _
      | with_reducible exact LeO.refl _
      | with_reducible exact LeO.none _
      | with_reducible refine LeO.ite ?_ ?_
      | with_reducible refine LeO.bind ?_ (fun _ => ?_)
theorem celluloidref20_Find.mono : ∀ a0 a1 k, LeO (celluloidref20_Find.f k a0 a1) (celluloidref20_Find.f (k + 1) a0 a1) := by
  intro a0 a1 k
  have ih0 := celluloidref20_Find.mono_l k
  unfold celluloidref20_Find.f
  repeat' first
      | with_reducible exact ih0 _ _ _
      | with_reducible exact LeO.refl _
      | with_reducible exact LeO.none _
      | with_reducible refine LeO.ite ?_ ?_
      | with_reducible refine LeO.bind ?_ (fun _ => ?_)
set_option maxHeartbeats 8000000 in
set_option maxRecDepth 100000 in
theorem celluloidref20_Find.cn {a1 r : Int} {k : Nat} {A0 : Option Addr} {n0 c0 : Nat} {l0 : List (S48)} {w : World} (h : celluloidref20_Find.f k l0 a1 = some r) (hr0 : Kd.C k48 w A0 n0 l0) (hc0 : n0 ≤ c0) :
    Calls Try.prog 18 #[.slice A0 n0 c0, .int .i64 a1] w fun e w' => e = .returned (.int .i64 r) ∧ Drawn0 w w' := by
  obtain rfl := hr0.1
  have HC0 := za hr0; have HL0 := za hc0; clear hr0 hc0
  have HB := Drawn0.refl w
  unfold celluloidref20_Find.f at h
  repeat' first
    | (with_reducible replace h := zs h)
    | (with_reducible replace h := zez h (by assumption) (by decide))
    | (with_reducible replace h := zb h; obtain ⟨t, A, h⟩ := h)
    | (with_reducible first | replace h := z1 h | replace h := z0 h | replace h := zep h (by assumption) | replace h := zen h (by assumption) | replace h := zcp h (by assumption) | replace h := zcn h (by assumption) | replace h := zbp h (by assumption) | replace h := zbn h (by assumption))
    | (with_reducible (first | replace h := zx h | replace h := zt h); obtain ⟨rfl, h⟩ | ⟨rfl, h⟩ := h)
    | (with_reducible (first | replace h := zd h | replace h := zl h | replace h := zm h); obtain ⟨c, h⟩ | ⟨c, h⟩ := h)
    | (with_reducible (first | replace h := ze h | replace h := zg h); obtain ⟨c, c', h⟩ | ⟨c, c', h⟩ := h)
    | (with_reducible replace h := zt h; obtain ⟨c, h⟩ | ⟨c, h⟩ := h)
    | (with_reducible replace h := Option.some.inj h; subst h)
    | (with_reducible exact (zn h).elim)
  all_goals
    try (have H' := za h; clear h)
    go_enter Try.func18, Try.ntmps18
    go_wp2_with (first
      | ((with_reducible refine zq ?_); first | go_quiet (fail)))
  all_goals first
    | (first | (go_ret; exact ⟨rfl, by repeat (first | exact HB | exact Drawn0.refl _ | apply Drawn0.step)⟩))
    | (go_loopg [5] k (fun kq v5 w' => ∃ (x5_1 : Int), v5 = .int .i64 x5_1 ∧ Aside0 (celluloidref20_Find.l0 kq l0 a1 x5_1 = some r) ∧ Aside0 (kq ≤ k) ∧ Drawn0 w w')
       case atStart => exact ⟨_, rfl, H', ⟨Nat.le_refl _⟩, by repeat (first | exact HB | exact Drawn0.refl _ | apply Drawn0.step)⟩
       case round =>
        obtain ⟨x5_1, rfl, HA, HK1, HB⟩ := hrel
        have HW := Bw.mk HB.below; clear H'
        cases gk with
        | zero => exact absurd HA.out (by simp [celluloidref20_Find.l0])
        | succ k1 =>
          have h := HA.out; clear HA; simp only [celluloidref20_Find.l0] at h
          repeat' first
            | (with_reducible replace h := zs h)
            | (with_reducible replace h := zez h (by assumption) (by decide))
            | (with_reducible replace h := zb h; obtain ⟨t, A, h⟩ := h)
            | (with_reducible first | replace h := z1 h | replace h := z0 h | replace h := zep h (by assumption) | replace h := zen h (by assumption) | replace h := zcp h (by assumption) | replace h := zcn h (by assumption) | replace h := zbp h (by assumption) | replace h := zbn h (by assumption))
            | (with_reducible (first | replace h := zx h | replace h := zt h); obtain ⟨rfl, h⟩ | ⟨rfl, h⟩ := h)
            | (with_reducible (first | replace h := zd h | replace h := zl h | replace h := zm h); obtain ⟨c, h⟩ | ⟨c, h⟩ := h)
            | (with_reducible (first | replace h := ze h | replace h := zg h); obtain ⟨c, c', h⟩ | ⟨c, c', h⟩ := h)
            | (with_reducible replace h := zt h; obtain ⟨c, h⟩ | ⟨c, h⟩ := h)
            | (with_reducible replace h := Option.some.inj h; subst h)
            | (with_reducible exact (zn h).elim)
          all_goals
            have HN : Lw w wr 0 := ⟨HW.out.size⟩
            try (refine zat48 (W := wr) HC0 x5_1 ?_ ?_ ?_; (first | assumption | decide); assumption; rintro ad ⟨⟩; intros)
            try (have H' := za h; clear h)
            go_wp2_with (first
              | ((with_reducible refine zq ?_); first | go_quiet (fail)))
          all_goals first
            | (first | (go_ret; exact ⟨rfl, by repeat (first | exact HB | exact Drawn0.refl _ | apply Drawn0.step)⟩))
            | (go_roundg k1
               case measure => have := HK1.out; omega
               case rel => exact ⟨_, rfl, H', ⟨by have := HK1.out; omega⟩, by repeat (first | exact HB | exact Drawn0.refl _ | apply Drawn0.step)⟩))

/-! ### celluloidref20_place: function 40 -/
def celluloidref20_place.f (a0 : Int) (a1 : Int) (a2 : Int) : Option (Int) := if a2 = 64 then (if a1 = 0 then (none) else (if (Int.tmod a0 a1) < 0 then (some (wrap64 ((Int.tmod a0 a1) + a1))) else (some (Int.tmod a0 a1)))) else (if a0 < 0 then (some 0) else (if a0 ≥ a1 then (some (wrap64 (a1 - 1))) else (some a0)))

set_option maxHeartbeats 8000000 in
set_option maxRecDepth 100000 in
theorem celluloidref20_place.cn {a0 a1 a2 r : Int} {w : World} (h : celluloidref20_place.f a0 a1 a2 = some r) :
    Calls Try.prog 40 #[.int .i64 a0, .int .i64 a1, .int .i64 a2] w fun e w' => e = .returned (.int .i64 r) ∧ Drawn0 w w' := by
  have HB := Drawn0.refl w
  unfold celluloidref20_place.f at h
  repeat' first
    | (with_reducible replace h := zs h)
    | (with_reducible replace h := zez h (by assumption) (by decide))
    | (with_reducible replace h := zb h; obtain ⟨t, A, h⟩ := h)
    | (with_reducible first | replace h := z1 h | replace h := z0 h | replace h := zep h (by assumption) | replace h := zen h (by assumption) | replace h := zcp h (by assumption) | replace h := zcn h (by assumption) | replace h := zbp h (by assumption) | replace h := zbn h (by assumption))
    | (with_reducible (first | replace h := zx h | replace h := zt h); obtain ⟨rfl, h⟩ | ⟨rfl, h⟩ := h)
    | (with_reducible (first | replace h := zd h | replace h := zl h | replace h := zm h); obtain ⟨c, h⟩ | ⟨c, h⟩ := h)
    | (with_reducible replace h := zeq h; obtain ⟨c, c', h⟩ | ⟨c, c', cn, h⟩ := h)
    | (with_reducible (first | replace h := ze h | replace h := zg h); obtain ⟨c, c', h⟩ | ⟨c, c', h⟩ := h)
    | (with_reducible replace h := zt h; obtain ⟨c, h⟩ | ⟨c, h⟩ := h)
    | (with_reducible replace h := Option.some.inj h; subst h)
    | (with_reducible exact (zn h).elim)
  all_goals
    try (have H' := za h; clear h)
    go_enter Try.func40, Try.ntmps40
    go_wp2_with (first
      | ((with_reducible refine zq ?_); first | go_quiet (fail)))
  all_goals first
    | (first | (go_ret; exact ⟨rfl, by repeat (first | exact HB | exact Drawn0.refl _ | apply Drawn0.step)⟩))

end Go.Proofs.Ytmdfcinjmlagcaa.P
