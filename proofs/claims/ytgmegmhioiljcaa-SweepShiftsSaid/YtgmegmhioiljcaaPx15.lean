/- Printed by printx.py (wip/tool) out of the translation: plain functions that tell what the program answers, and the proofs that the program comes to these answers, for all arguments of their kinds. Lean checks it. -/
import Derived.Test.YtgmegmhioiljcaaPx0
import Derived.Test.YtgmegmhioiljcaaPx2
import Derived.Test.YtgmegmhioiljcaaPx6
import Derived.Test.YtgmegmhioiljcaaPx8
namespace Go.Proofs.Ytgmegmhioiljcaa.P
open Go.RowKit Go.Proofs.YtgmegmhioiljcaaW.PrintWords Go.Proofs.YtgmegmhioiljcaaW.PrintLast Go.Proofs.YtgmegmhioiljcaaW.PrintMore
attribute [local go_sem] max2_int min2_int max_two min_two max_three min_three max_four min_four max_five min_five max_six min_six   -- for this text's walks alone
set_option linter.unusedVariables false
set_option linter.unusedSimpArgs false
theorem still_some (w : World) (p a : Addr) (v : Value) : ((w.setCell p v).cell? a).isSome = (w.cell? a).isSome := by
  simp only [World.setCell, World.cell?, Array.getElem?_modify]
  by_cases hb : p.block = a.block
  · simp only [hb, if_true]
    cases hh : w.heap[a.block]? with
    | none => simp
    | some x =>
      cases x <;> simp
      cases a.spot <;> cases p.spot <;> simp
      rw [Array.getElem?_setIfInBounds]
      split
      · rename_i q
        rw [← q]
        split <;> simp_all
      · rfl
  · simp only [hb, if_false]
attribute [local go_sem ↓] still_some   -- for this text's walks alone

theorem freshB_ {w : World} {g : Nat} {o : Obj} (hb : w.heap[g]? = some o) : ∀ k, w.heap.size ≤ k → k ≠ g := fun k hk => by have := blk_lt hb; omega
theorem awayB_ {α : Type} {d : Kd α} {e : TypeId} {w : World} {base : Nat} {ok : Nat → Prop} {v : Value} {xs : List α} (h : d.R e w base ok v xs) {g : Nat} (hok : ∀ k, ok k → k ≠ g) : some g ≠ v.ownBlock := fun he => hok g (h.1 g he.symm) rfl
section
variable {P : Program} {ops : Array Oper} {Q : Exit → Act → World → Prop} {md : Region.Mode} {S : World → Prop} {ds : List Nat}
theorem rdy_ {T : Bool × List (List Nat × List Nat)} {l : Array Bool} {rs : List Nat} (hT : rtab md ops = T) (h : (readyT T.2 l.toList == rs) = true) : Region.ready md ops l = rs := by
  subst hT
  rw [ready_eq]
  exact eq_of_beq h
theorem valueB_ {oi : Oper} {a : Act} {w w1 : World} {v : Value} {K : Act → World → Prop} (hw : Region.wanted oi (yielded ops a.tmps) = true) (hrun : (execOp a.eval oi).run P w = .ok (.value v) w1)
    (h : K (a.put oi.dst v) w1) : if Region.wanted oi (yielded ops a.tmps) = true then Oper.wp P oi a w K Q else K (a.put oi.dst undef) w := by
  rw [if_pos hw]
  unfold Oper.wp
  rw [hrun]
  exact h
def putsB_ : Act → List (Tmp × Value) → Act
  | a, [] => a
  | a, (n, v) :: r => putsB_ (a.put (some n) v) r
/-- What follows, once. -/
theorem joinB_ {fuel : Nat} {l : Array Bool} {a : Act} {w : World} (fuel' : Nat) (l' : Array Bool) (ns : List (Tmp × Value)) (W : World)
    (hcont : wpAnyLast P md ops Q S ds fuel' l' (putsB_ a ns) W) (h : wpAnyLast P md ops Q S ds fuel' l' (putsB_ a ns) W → wpAnyLast P md ops Q S ds fuel l a w) : wpAnyLast P md ops Q S ds fuel l a w := h hcont
/-- A load that comes up beside a store: run where it comes up, the world stays. -/
theorem sameA_ {i : Nat} {oi : Oper} {N : Option Tmp} {v : Value} {fuel : Nat} {l : Array Bool} {a : Act} {w : World} {rs : List Nat} (l' : Array Bool) (hi : ops[i]? = some oi) (hN : oi.dst = N) (hl : (l.toList.set i true == l'.toList) = true)
    (hw : Region.wanted oi (yielded ops a.tmps) = true) (hrun : (execOp a.eval oi).run P w = .ok (.value v) w) {a' : Act} (ha : a.put N v = a')
    (h : wpAnyLast P md ops Q S ds fuel l' a' w) (hs : AllReadyL P md ops Q S ds fuel l a w rs) : AllReadyL P md ops Q S ds fuel l a w (i :: rs) := fun j hj => by
  subst ha
  subst hN
  have hl' := set_of hl
  rw [beq_iff_eq] at hl'
  subst hl'
  rcases List.mem_cons.1 hj with rfl | hj
  · exact wpOp_step hi (fun K' hK => valueB_ hw hrun (hK _ _ ⟨fun _ hS => hS, h⟩))
  · exact hs j hj
/-- The store beside it. -/
theorem storeA_ {i : Nat} {oi : Oper} {fuel : Nat} {l : Array Bool} {a : Act} {w w1 : World} {rs : List Nat} (l' : Array Bool) (hi : ops[i]? = some oi) (hN : oi.dst = none) (hl : (l.toList.set i true == l'.toList) = true) (hd : i ∈ ds)
    (hw : Region.wanted oi (yielded ops a.tmps) = true) (hrun : (execOp a.eval oi).run P w = .ok .skip w1)
    (h : wpAnyLast P md ops Q S ds fuel l' a w1) (hs : AllReadyL P md ops Q S ds fuel l a w rs) : AllReadyL P md ops Q S ds fuel l a w (i :: rs) := fun j hj => by
  have hl' := set_of hl
  rw [beq_iff_eq] at hl'
  subst hl'
  rcases List.mem_cons.1 hj with rfl | hj
  · refine wpOp_step hi (fun K' hK => ?_)
    rw [hN]
    exact skip_ hw hN hrun (hK _ _ ⟨fun hn => absurd hd hn, h⟩)
  · exact hs j hj
end

/-! ### celluloidlaw17_SweepShifts: function 9 -/
mutual
def celluloidlaw17_SweepShifts.j0 : Nat → List (S27) → Int → Int → Int → Int → Int → Bool → Option (Bool)
  | 0, _, _, _, _, _, _, _ => none
  | k + 1, x0, x1, x2, x3, x4, x5, x34 => if x34 = true then ((celluloidlaw17_awake.f k).bind fun t200 => (some t200)) else (celluloidlaw17_SweepShifts.l0 k x0 x1 x2 x3 ([] : List (S27)) x0 (x0.length : Int) 0 (wrap64 (2 * (wrap64 (x4)))) (wrap64 (2 * (wrap64 (x5)))))
def celluloidlaw17_SweepShifts.l0 : Nat → List (S27) → Int → Int → Int → List (S27) → List (S27) → Int → Int → Int → Int → Option (Bool)
  | 0, _, _, _, _, _, _, _, _, _, _ => none
  | k + 1, x0, x1, x2, x3, x14, x43, x44, x45, x202000, x202001 => if x45 < x44 then (if 0 ≤ x45 then (if x45 < (x43.length : Int) then (if x14.length < 2932031007402 then (celluloidlaw17_SweepShifts.l0 k x0 x1 x2 x3 (x14 ++ [(⟨(⟨wrap64 (((rd_T27 x43 x45).f0.f0) + x202000), wrap64 (((rd_T27 x43 x45).f0.f1) + x202001)⟩ : S25), (⟨wrap64 (((rd_T27 x43 x45).f1.f0) + x202000), wrap64 (((rd_T27 x43 x45).f1.f1) + x202001)⟩ : S25), (rd_T27 x43 x45).f2, (rd_T27 x43 x45).f3⟩ : S27)]) x43 x44 (wrap64 (x45 + 1)) x202000 x202001) else (none)) else (none)) else (none)) else ((celluloidlaw17_right.f k x14).bind fun t207 => (if t207 = true then ((celluloidlaw17_odd.f (wrap64 (x2 + x202000))).bind fun t208 => (if t208 = true then ((celluloidlaw17_odd.f (wrap64 (x3 + x202001))).bind fun t209 => (celluloidlaw17_SweepShifts.j2 k x0 x1 x2 x3 x14 (!t209) x202000 x202001)) else (celluloidlaw17_SweepShifts.j2 k x0 x1 x2 x3 x14 true x202000 x202001))) else (celluloidlaw17_SweepShifts.j2 k x0 x1 x2 x3 x14 true x202000 x202001)))
def celluloidlaw17_SweepShifts.j2 : Nat → List (S27) → Int → Int → Int → List (S27) → Bool → Int → Int → Option (Bool)
  | 0, _, _, _, _, _, _, _, _ => none
  | k + 1, x0, x1, x2, x3, x14, x100, x202000, x202001 => if x100 = true then ((celluloidlaw17_awake.f k).bind fun t210 => (some t210)) else ((sweep_Wound.f k x0 x1 x2 x3).bind fun t211 => ((sweep_Wound.f k x14 x1 (wrap64 (x2 + x202000)) (wrap64 (x3 + x202001))).bind fun t212 => (if t211 = t212 then ((celluloidlaw17_awake.f k).bind fun t213 => (some t213)) else (some false))))
end
def celluloidlaw17_SweepShifts.f (k : Nat) (l0 : List (S27)) (a1 : Int) (a2 : Int) (a3 : Int) (a4 : Int) (a5 : Int) : Option (Bool) := if (l0.length : Int) > 300 then (celluloidlaw17_SweepShifts.j0 k l0 a1 a2 a3 a4 a5 true) else ((celluloidlaw17_right.f k l0).bind fun t197 => (if t197 = true then ((celluloidlaw17_odd.f a2).bind fun t198 => (if t198 = true then ((celluloidlaw17_odd.f a3).bind fun t199 => (celluloidlaw17_SweepShifts.j0 k l0 a1 a2 a3 a4 a5 (!t199))) else (celluloidlaw17_SweepShifts.j0 k l0 a1 a2 a3 a4 a5 true))) else (celluloidlaw17_SweepShifts.j0 k l0 a1 a2 a3 a4 a5 true)))
theorem celluloidlaw17_SweepShifts.mono_l : ∀ k, (∀ y0 y1 y2 y3 y4 y5 y6, LeO (celluloidlaw17_SweepShifts.j0 k y0 y1 y2 y3 y4 y5 y6) (celluloidlaw17_SweepShifts.j0 (k + 1) y0 y1 y2 y3 y4 y5 y6)) ∧ (∀ y0 y1 y2 y3 y4 y5 y6 y7 y8 y9, LeO (celluloidlaw17_SweepShifts.l0 k y0 y1 y2 y3 y4 y5 y6 y7 y8 y9) (celluloidlaw17_SweepShifts.l0 (k + 1) y0 y1 y2 y3 y4 y5 y6 y7 y8 y9)) ∧ (∀ y0 y1 y2 y3 y4 y5 y6 y7, LeO (celluloidlaw17_SweepShifts.j2 k y0 y1 y2 y3 y4 y5 y6 y7) (celluloidlaw17_SweepShifts.j2 (k + 1) y0 y1 y2 y3 y4 y5 y6 y7))
  | 0 => ⟨fun _ _ _ _ _ _ _ r h => by simp [celluloidlaw17_SweepShifts.j0] at h, fun _ _ _ _ _ _ _ _ _ _ r h => by simp [celluloidlaw17_SweepShifts.l0] at h, fun _ _ _ _ _ _ _ _ r h => by simp [celluloidlaw17_SweepShifts.j2] at h⟩
  | k + 1 => by
    obtain ⟨ih0, ih1, ih2⟩ := celluloidlaw17_SweepShifts.mono_l k
    refine ⟨?_, ?_, ?_⟩
    · intro y0 y1 y2 y3 y4 y5 y6
      unfold celluloidlaw17_SweepShifts.j0
      repeat' first
      | (with_reducible exact ih0 _ _ _ _ _ _ _)
      | (with_reducible exact ih1 _ _ _ _ _ _ _ _ _ _)
      | (with_reducible exact ih2 _ _ _ _ _ _ _ _)
      | (with_reducible exact celluloidlaw17_awake.mono _)
      | (with_reducible exact celluloidlaw17_right.mono _ _)
      | (with_reducible exact sweep_Wound.mono _ _ _ _ _)
      | (with_reducible exact LeO.refl _)
      | (with_reducible exact LeO.none _)
      | (with_reducible refine LeO.ite ?_ ?_)
      | (with_reducible refine LeO.bind ?_ (fun _ => ?_))
      | exact ih0 _ _ _ _ _ _ _
      | exact ih1 _ _ _ _ _ _ _ _ _ _
      | exact ih2 _ _ _ _ _ _ _ _
      | exact celluloidlaw17_awake.mono _
      | exact celluloidlaw17_right.mono _ _
      | exact sweep_Wound.mono _ _ _ _ _
      | exact LeO.none _
      | refine LeO.ite ?_ ?_
      | refine LeO.bind ?_ (fun _ => ?_)
    · intro y0 y1 y2 y3 y4 y5 y6 y7 y8 y9
      unfold celluloidlaw17_SweepShifts.l0
      repeat' first
      | (with_reducible exact ih0 _ _ _ _ _ _ _)
      | (with_reducible exact ih1 _ _ _ _ _ _ _ _ _ _)
      | (with_reducible exact ih2 _ _ _ _ _ _ _ _)
      | (with_reducible exact celluloidlaw17_awake.mono _)
      | (with_reducible exact celluloidlaw17_right.mono _ _)
      | (with_reducible exact sweep_Wound.mono _ _ _ _ _)
      | (with_reducible exact LeO.refl _)
      | (with_reducible exact LeO.none _)
      | (with_reducible refine LeO.ite ?_ ?_)
      | (with_reducible refine LeO.bind ?_ (fun _ => ?_))
      | exact ih0 _ _ _ _ _ _ _
      | exact ih1 _ _ _ _ _ _ _ _ _ _
      | exact ih2 _ _ _ _ _ _ _ _
      | exact celluloidlaw17_awake.mono _
      | exact celluloidlaw17_right.mono _ _
      | exact sweep_Wound.mono _ _ _ _ _
      | exact LeO.none _
      | refine LeO.ite ?_ ?_
      | refine LeO.bind ?_ (fun _ => ?_)
    · intro y0 y1 y2 y3 y4 y5 y6 y7
      unfold celluloidlaw17_SweepShifts.j2
      repeat' first
      | (with_reducible exact ih0 _ _ _ _ _ _ _)
      | (with_reducible exact ih1 _ _ _ _ _ _ _ _ _ _)
      | (with_reducible exact ih2 _ _ _ _ _ _ _ _)
      | (with_reducible exact celluloidlaw17_awake.mono _)
      | (with_reducible exact celluloidlaw17_right.mono _ _)
      | (with_reducible exact sweep_Wound.mono _ _ _ _ _)
      | (with_reducible exact LeO.refl _)
      | (with_reducible exact LeO.none _)
      | (with_reducible refine LeO.ite ?_ ?_)
      | (with_reducible refine LeO.bind ?_ (fun _ => ?_))
      | exact ih0 _ _ _ _ _ _ _
      | exact ih1 _ _ _ _ _ _ _ _ _ _
      | exact ih2 _ _ _ _ _ _ _ _
      | exact celluloidlaw17_awake.mono _
      | exact celluloidlaw17_right.mono _ _
      | exact sweep_Wound.mono _ _ _ _ _
      | exact LeO.none _
      | refine LeO.ite ?_ ?_
      | refine LeO.bind ?_ (fun _ => ?_)
theorem celluloidlaw17_SweepShifts.mono : ∀ a0 a1 a2 a3 a4 a5 k, LeO (celluloidlaw17_SweepShifts.f k a0 a1 a2 a3 a4 a5) (celluloidlaw17_SweepShifts.f (k + 1) a0 a1 a2 a3 a4 a5) := by
  intro a0 a1 a2 a3 a4 a5 k
  obtain ⟨ih0, ih1, ih2⟩ := celluloidlaw17_SweepShifts.mono_l k
  unfold celluloidlaw17_SweepShifts.f
  repeat' first
      | (with_reducible exact ih0 _ _ _ _ _ _ _)
      | (with_reducible exact ih1 _ _ _ _ _ _ _ _ _ _)
      | (with_reducible exact ih2 _ _ _ _ _ _ _ _)
      | (with_reducible exact celluloidlaw17_awake.mono _)
      | (with_reducible exact celluloidlaw17_right.mono _ _)
      | (with_reducible exact sweep_Wound.mono _ _ _ _ _)
      | (with_reducible exact LeO.refl _)
      | (with_reducible exact LeO.none _)
      | (with_reducible refine LeO.ite ?_ ?_)
      | (with_reducible refine LeO.bind ?_ (fun _ => ?_))
      | exact ih0 _ _ _ _ _ _ _
      | exact ih1 _ _ _ _ _ _ _ _ _ _
      | exact ih2 _ _ _ _ _ _ _ _
      | exact celluloidlaw17_awake.mono _
      | exact celluloidlaw17_right.mono _ _
      | exact sweep_Wound.mono _ _ _ _ _
      | exact LeO.none _
      | refine LeO.ite ?_ ?_
      | refine LeO.bind ?_ (fun _ => ?_)
def celluloidlaw17_SweepShifts.T8 : Bool × List (List Nat × List Nat) := (true, [([], []), ([0], [0]), ([1], [1]), ([], []), ([3], [3]), ([2, 4], [2, 4]), ([], []), ([6], [6]), ([7], [7]), ([], []), ([9], [9]), ([8, 10], [8, 10]), ([5, 11], [5, 11]), ([], []), ([13], [13]), ([14], [14]), ([], []), ([16], [16]), ([15, 17], [15, 17]), ([], []), ([19], [19]), ([20], [20]), ([], []), ([22], [22]), ([21, 23], [21, 23]), ([18, 24], [18, 24]), ([0, 1, 2, 3, 4, 5, 6, 7, 8, 9, 10, 11, 12, 13, 14, 15, 19, 20, 21], []), ([26, 12, 0, 1, 2, 3, 4, 5, 6, 7, 8, 9, 10, 11, 12, 13, 14, 15, 19, 20, 21], [12, 26]), ([0, 1, 2, 3, 4, 5, 6, 7, 8, 9, 10, 11, 12, 13, 14, 15, 16, 17, 18, 19, 20, 21, 22, 23, 24, 25, 26, 27], []), ([28, 25, 27, 0, 1, 2, 3, 4, 5, 6, 7, 8, 9, 10, 11, 12, 13, 14, 15, 16, 17, 18, 19, 20, 21, 22, 23, 24, 25, 26, 27], [25, 28])])
def celluloidlaw17_SweepShifts.B8 : List Nat := [0, 1, 3, 0, 8, 31, 0, 64, 192, 0, 512, 1984, 4095, 0, 8192, 24576, 0, 65536, 253952, 0, 524288, 1572864, 0, 4194304, 16252928, 33546240, 3735551, 70844415, 268435455, 536870911]
theorem celluloidlaw17_SweepShifts.tab8 : rtab .any (opsOf Try.f9 8) = celluloidlaw17_SweepShifts.T8 := by kernel_rfl
theorem celluloidlaw17_SweepShifts.bits8 : waitsOk celluloidlaw17_SweepShifts.T8.2 celluloidlaw17_SweepShifts.B8 = true := by kernel_rfl
def celluloidlaw17_SweepShifts.T13 : Bool × List (List Nat × List Nat) := (true, [([], []), ([], []), ([], []), ([], []), ([0, 1, 2, 3], [0, 1, 2, 3]), ([], []), ([], []), ([], []), ([], []), ([8], [8]), ([7, 9], [7, 9]), ([], []), ([], []), ([12], [12]), ([11, 13], [11, 13]), ([5, 6, 10, 14, 4], [5, 6, 10, 14]), ([4, 15], [4, 15]), ([16, 15], [16]), ([17, 17], [17]), ([17, 18], [17, 18]), ([19, 18, 0, 1, 2, 3, 4, 5, 6, 7, 8, 9, 10, 11, 12, 13, 14, 15, 16, 17, 18, 19], [19])])
def celluloidlaw17_SweepShifts.B13 : List Nat := [0, 0, 0, 0, 15, 0, 0, 0, 0, 256, 896, 0, 0, 4096, 14336, 32767, 65535, 131071, 262143, 524287, 1048575]
theorem celluloidlaw17_SweepShifts.tab13 : rtab .any (opsOf Try.f9 13) = celluloidlaw17_SweepShifts.T13 := by kernel_rfl
theorem celluloidlaw17_SweepShifts.bits13 : waitsOk celluloidlaw17_SweepShifts.T13.2 celluloidlaw17_SweepShifts.B13 = true := by kernel_rfl
set_option maxHeartbeats 8000000 in
set_option maxRecDepth 100000 in
theorem celluloidlaw17_SweepShifts.calls (k : Nat) (A0 : Option Addr) (c0 : Nat) (l0 : List (S27)) (a1 : Int) (a2 : Int) (a3 : Int) (a4 : Int) (a5 : Int) (r : Bool) (w : World) (hr0 : Kd.C k27 w A0 l0.length l0) (hc0 : l0.length ≤ c0) (h : celluloidlaw17_SweepShifts.f k l0 a1 a2 a3 a4 a5 = some r) :
    Calls Try.prog 9 #[.slice A0 l0.length c0, .int .i64 a1, .int .i64 a2, .int .i64 a3, .int .i16 a4, .int .i16 a5] w fun e w' => e = .returned (.bool r) ∧ Below w.heap.size w w' := by
  have hu25 := Try.underlying25
  have hu27 := Try.underlying27
  have HR0 := Aside0.mk hr0
  have HC0 := Aside0.mk hc0
  clear hr0 hc0
  have HB := Aside0.mk (Below.refl w.heap.size w)
  have H : (if (l0.length : Int) > 300 then (celluloidlaw17_SweepShifts.j0 k l0 a1 a2 a3 a4 a5 true) else ((celluloidlaw17_right.f k l0).bind fun t197 => (if t197 = true then ((celluloidlaw17_odd.f a2).bind fun t198 => (if t198 = true then ((celluloidlaw17_odd.f a3).bind fun t199 => (celluloidlaw17_SweepShifts.j0 k l0 a1 a2 a3 a4 a5 (!t199))) else (celluloidlaw17_SweepShifts.j0 k l0 a1 a2 a3 a4 a5 true))) else (celluloidlaw17_SweepShifts.j0 k l0 a1 a2 a3 a4 a5 true)))) = some r := h
  clear h
  have HC7 := Aside0.mk H
  clear H
  go_enter Try.func9, Try.ntmps9
  go_upto_region 1 with (fail)
  go_cut [34] (fun v34 wc => ∃ (kq : Nat) (x34_6 : Bool), v34 = .bool x34_6 ∧ Aside0 (celluloidlaw17_SweepShifts.j0 kq l0 a1 a2 a3 a4 a5 x34_6 = some r) ∧ Aside0 (kq ≤ k) ∧ Aside0 (Below w.heap.size w wc))
  case first =>
    have H := HC7.out
    clear HC7
    by_cases c8 : (l0.length : Int) > 300
    · rw [if_pos c8] at H
      have c8b0 : decide (300 < (l0.length : Int)) = true := decide_eq_true c8
      have c8b1 : decide (300 < l0.length) = true := decide_eq_true (by omega)
      clear c8
      (first | rw [c8b0] | (simp only [i64_w, i32_w]; rw [c8b0]) | skip)
      have H' := Aside0.mk H
      clear H
      go_wp2
      go_meet
      case rel => exact ⟨_, (true), (by first | rfl | (simp; done) | (simp [*]; done)), H', ⟨by first | omega | exact Nat.le_refl _⟩, ⟨by repeat (first | (with_reducible first | exact HB.out | apply below_alloc | apply pw_below_drewN | apply below_drew1) | exact HB.out)⟩⟩
    · rw [if_neg c8] at H
      have c8b0 : decide (300 < (l0.length : Int)) = false := decide_eq_false c8
      have c8b1 : decide (300 < l0.length) = false := decide_eq_false (by omega)
      clear c8
      (first | rw [c8b0] | (simp only [i64_w, i32_w]; rw [c8b0]) | skip)
      replace H := Option.bind_eq_some_iff.mp H
      obtain ⟨t197, A90, H⟩ := H
      replace H : (if t197 = true then ((celluloidlaw17_odd.f a2).bind fun t198 => (if t198 = true then ((celluloidlaw17_odd.f a3).bind fun t199 => (celluloidlaw17_SweepShifts.j0 k l0 a1 a2 a3 a4 a5 (!t199))) else (celluloidlaw17_SweepShifts.j0 k l0 a1 a2 a3 a4 a5 true))) else (celluloidlaw17_SweepShifts.j0 k l0 a1 a2 a3 a4 a5 true)) = some r := H
      have A9 := Aside0.mk A90
      clear A90
      by_cases c10 : t197 = true
      · subst c10
        have H1 : ((celluloidlaw17_odd.f a2).bind fun t198 => (if t198 = true then ((celluloidlaw17_odd.f a3).bind fun t199 => (celluloidlaw17_SweepShifts.j0 k l0 a1 a2 a3 a4 a5 (!t199))) else (celluloidlaw17_SweepShifts.j0 k l0 a1 a2 a3 a4 a5 true))) = some r := by rw [if_pos rfl] at H; exact H
        clear H
        have H := H1
        clear H1
        replace H := Option.bind_eq_some_iff.mp H
        obtain ⟨t198, A110, H⟩ := H
        replace H : (if t198 = true then ((celluloidlaw17_odd.f a3).bind fun t199 => (celluloidlaw17_SweepShifts.j0 k l0 a1 a2 a3 a4 a5 (!t199))) else (celluloidlaw17_SweepShifts.j0 k l0 a1 a2 a3 a4 a5 true)) = some r := H
        have A11 := Aside0.mk A110
        clear A110
        by_cases c12 : t198 = true
        · subst c12
          have H1 : ((celluloidlaw17_odd.f a3).bind fun t199 => (celluloidlaw17_SweepShifts.j0 k l0 a1 a2 a3 a4 a5 (!t199))) = some r := by rw [if_pos rfl] at H; exact H
          clear H
          have H := H1
          clear H1
          replace H := Option.bind_eq_some_iff.mp H
          obtain ⟨t199, A130, H⟩ := H
          replace H : (celluloidlaw17_SweepShifts.j0 k l0 a1 a2 a3 a4 a5 (!t199)) = some r := H
          have A13 := Aside0.mk A130
          clear A130
          have H' := Aside0.mk H
          clear H
          go_wp2_with (first | (go_at_call 18; (with_reducible refine (celluloidlaw17_right.calls k _ _ l0 true _ ?side1 ?side2 A9.out).mono ?_); (case side1 => repeat (first | exact (Kd.C_below HR0.out HB.out) | (with_reducible refine Kd.C_alloc ?_ _) | (with_reducible refine Kd.C_drewN ?_ _) | (with_reducible refine Kd.C_drew ?_))); (case side2 => exact HC0.out); rintro e w14 ⟨rfl, hb⟩; have n0_ := Aside0.mk (below_step (by repeat (first | (with_reducible first | exact HB.out | apply below_alloc | apply pw_below_drewN | apply below_drew1) | exact HB.out)) hb); clear HB; have HB := n0_; clear n0_; (try clear hb); (try clear hb2); (try clear hk); (try clear hi)) | (go_at_call 13; (with_reducible refine (celluloidlaw17_odd.calls a2 true _ A11.out).mono ?_); rintro e w' ⟨rfl, ⟨nd, rfl⟩⟩) | (go_at_call 13; (with_reducible refine (celluloidlaw17_odd.calls a3 t199 _ A13.out).mono ?_); rintro e w' ⟨rfl, ⟨nd, rfl⟩⟩))
          go_meet
          case rel => exact ⟨_, (!t199), (by first | rfl | (simp; done) | (simp [*]; done)), H', ⟨by first | omega | exact Nat.le_refl _⟩, ⟨by repeat (first | (with_reducible first | exact HB.out | apply below_alloc | apply pw_below_drewN | apply below_drew1) | exact HB.out)⟩⟩
        · replace c12 := Bool.eq_false_iff.mpr c12
          subst c12
          have H1 : (celluloidlaw17_SweepShifts.j0 k l0 a1 a2 a3 a4 a5 true) = some r := by rw [if_neg (show ¬ (false = true) by decide)] at H; exact H
          clear H
          have H := H1
          clear H1
          have H' := Aside0.mk H
          clear H
          go_wp2_with (first | (go_at_call 18; (with_reducible refine (celluloidlaw17_right.calls k _ _ l0 true _ ?side1 ?side2 A9.out).mono ?_); (case side1 => repeat (first | exact (Kd.C_below HR0.out HB.out) | (with_reducible refine Kd.C_alloc ?_ _) | (with_reducible refine Kd.C_drewN ?_ _) | (with_reducible refine Kd.C_drew ?_))); (case side2 => exact HC0.out); rintro e w15 ⟨rfl, hb⟩; have n0_ := Aside0.mk (below_step (by repeat (first | (with_reducible first | exact HB.out | apply below_alloc | apply pw_below_drewN | apply below_drew1) | exact HB.out)) hb); clear HB; have HB := n0_; clear n0_; (try clear hb); (try clear hb2); (try clear hk); (try clear hi)) | (go_at_call 13; (with_reducible refine (celluloidlaw17_odd.calls a2 false _ A11.out).mono ?_); rintro e w' ⟨rfl, ⟨nd, rfl⟩⟩))
          go_meet
          case rel => exact ⟨_, (true), (by first | rfl | (simp; done) | (simp [*]; done)), H', ⟨by first | omega | exact Nat.le_refl _⟩, ⟨by repeat (first | (with_reducible first | exact HB.out | apply below_alloc | apply pw_below_drewN | apply below_drew1) | exact HB.out)⟩⟩
      · replace c10 := Bool.eq_false_iff.mpr c10
        subst c10
        have H1 : (celluloidlaw17_SweepShifts.j0 k l0 a1 a2 a3 a4 a5 true) = some r := by rw [if_neg (show ¬ (false = true) by decide)] at H; exact H
        clear H
        have H := H1
        clear H1
        have H' := Aside0.mk H
        clear H
        go_wp2_with (first | (go_at_call 18; (with_reducible refine (celluloidlaw17_right.calls k _ _ l0 false _ ?side1 ?side2 A9.out).mono ?_); (case side1 => repeat (first | exact (Kd.C_below HR0.out HB.out) | (with_reducible refine Kd.C_alloc ?_ _) | (with_reducible refine Kd.C_drewN ?_ _) | (with_reducible refine Kd.C_drew ?_))); (case side2 => exact HC0.out); rintro e w16 ⟨rfl, hb⟩; have n0_ := Aside0.mk (below_step (by repeat (first | (with_reducible first | exact HB.out | apply below_alloc | apply pw_below_drewN | apply below_drew1) | exact HB.out)) hb); clear HB; have HB := n0_; clear n0_; (try clear hb); (try clear hb2); (try clear hk); (try clear hi)))
        go_meet
        case rel => exact ⟨_, (true), (by first | rfl | (simp; done) | (simp [*]; done)), H', ⟨by first | omega | exact Nat.le_refl _⟩, ⟨by repeat (first | (with_reducible first | exact HB.out | apply below_alloc | apply pw_below_drewN | apply below_drew1) | exact HB.out)⟩⟩
  case rest =>
    clear HC7
    try clear c1
    try clear p2
    try clear c8
    try clear c8b0
    try clear c8b1
    try clear c9
    try clear c10
    try clear c12
    obtain ⟨kq, x34_6, rfl, HA, HJ6, HB⟩ := hcut
    cases kq with
    | zero => exact absurd HA.out (by simp [celluloidlaw17_SweepShifts.j0])
    | succ kj6 =>
      have H := HA.out
      clear HA
      simp only [celluloidlaw17_SweepShifts.j0] at H
      by_cases c17 : x34_6 = true
      · subst c17
        have H1 : ((celluloidlaw17_awake.f kj6).bind fun t200 => (some t200)) = some r := by rw [if_pos rfl] at H; exact H
        clear H
        have H := H1
        clear H1
        replace H := Option.bind_eq_some_iff.mp H
        obtain ⟨t200, A180, H⟩ := H
        replace H : (some t200) = some r := H
        have A18 := Aside0.mk A180
        clear A180
        obtain rfl := Option.some.inj H
        go_wp2_with (first | ((with_reducible refine gate_callee (f := 10) rfl ?_); refine goesL_ (some 35) rfl rfl Try.func10 (by kernel_rfl) rfl #[] rfl (by (try simp only [List.map_toArray, List.map_cons, List.map_nil]); first | done | rfl | (simp only [List.length_drop, List.length_take]; rfl)) ?_; (with_reducible refine (celluloidlaw17_awake.calls kj6  t200 _ A18.out).mono ?_); rintro e w19 ⟨rfl, hb⟩; refine ⟨_, rfl, ?_⟩; have n0_ := Aside0.mk (below_step (by repeat (first | (with_reducible first | exact HB.out | apply below_alloc | apply pw_below_drewN | apply below_drew1) | exact HB.out)) hb); clear HB; have HB := n0_; clear n0_; (try clear hb); (try clear hb2); (try clear hk); (try clear hi)))
        go_ret
        exact ⟨by first | rfl | (simp [errW_none, errW_some] <;> rfl) | (simp [*, errW_none, errW_some] <;> rfl), by repeat (first | (with_reducible first | exact HB.out | apply below_alloc | apply pw_below_drewN | apply below_drew1) | exact HB.out)⟩
      · replace c17 := Bool.eq_false_iff.mpr c17
        subst c17
        have H1 : (celluloidlaw17_SweepShifts.l0 kj6 l0 a1 a2 a3 ([] : List (S27)) l0 (l0.length : Int) 0 (wrap64 (2 * (wrap64 (a4)))) (wrap64 (2 * (wrap64 (a5))))) = some r := by rw [if_neg (show ¬ (false = true) by decide)] at H; exact H
        clear H
        have H := H1
        clear H1
        have H' := Aside0.mk H
        clear H
        go_wp2_with (first | ((with_reducible refine gate_dst (N := 13) rfl ?_); refine box_event ?hg (N := 13) ?hd (cs := #[.int .i64 0, .int .i64 0]) (t := 25) ?hr ?_; (case hd => rfl); (case hg => rfl); (case hr => first | (go_simp; done) | (go_simp; rfl)); intro gb201 hg w20 hbox hb; have n0_ := Aside0.mk (below_step (by repeat (first | (with_reducible first | exact HB.out | apply below_alloc | apply pw_below_drewN | apply below_drew1) | exact HB.out)) hb); have n1_ := Aside0.mk (hbox); have n2_ := Aside0.mk ((by rw [hg]; exact (below_size (by repeat (first | (with_reducible first | exact HB.out | apply below_alloc | apply pw_below_drewN | apply below_drew1) | exact HB.out))) : w.heap.size ≤ gb201)); have n3_ := Aside0.mk ((by rw [hg]; exact (below_size (by repeat (first | (with_reducible first | exact HB.out | apply below_alloc | apply pw_below_drewN | apply below_drew1) | exact HB.out))) : w.heap.size ≤ gb201)); clear HB; have HB := n0_; have BK201 := n1_; have GW201 := n2_; have GE201 := n3_; clear n0_ n1_ n2_ n3_; clear hb hbox hg; have hcz21_0 : w20.cell? ⟨gb201, 0, none⟩ = some (.int .i64 0) := (blk_cell BK201.out 0).trans rfl; have hcz21_1 : w20.cell? ⟨gb201, 1, none⟩ = some (.int .i64 0) := (blk_cell BK201.out 1).trans rfl; have hfz21_0 := blk_frozen BK201.out 0; have hfz21_1 := blk_frozen BK201.out 1))
        go_loopg [14, 45] kj6 (fun kq v14 v45 w' => ∃ (x14_2 : List (S27)) (x45_2 : Int), v45 = .int .i64 x45_2 ∧ Aside0 (celluloidlaw17_SweepShifts.l0 kq l0 a1 a2 a3 x14_2 l0 (l0.length : Int) x45_2 (wrap64 (2 * (wrap64 (a4)))) (wrap64 (2 * (wrap64 (a5)))) = some r) ∧ Aside0 (kq ≤ kj6) ∧ Aside0 (Kd.R k27 27 w' w.heap.size (fun _ => True) v14 x14_2) ∧ Aside0 (w'.heap[gb201]? = some (.cells #[.int .i64 (wrap64 (2 * (wrap64 (a4)))), .int .i64 (wrap64 (2 * (wrap64 (a5))))] 25 (0, 0))) ∧ Aside0 (Below w.heap.size w w'))
        case atStart => exact ⟨(([] : List (S27))), (0), (by first | rfl | (simp; done) | (simp [*]; done)), H', ⟨Nat.le_refl _⟩, ⟨by first | exact Kd.R_nil _ _ _ _ _ | exact Kd.N_nil _ _ _ _ _ | exact Kd.V_nil _ _ _ _ _ | exact Kd.Q_nil _ _ _ _ _ | exact Kd.S_nil _ _ _ _ _⟩, ⟨by (with_reducible repeat (first | refine blk_drewN ?_ _ | refine blk_drew ?_ | refine blk_alloc ?_ _)); refine blk_put (cs := #[.int .i64 (wrap64 (2 * (wrap64 (a4)))), .int .i64 0]) ?_ 1 _ rfl; (with_reducible repeat (first | refine blk_drewN ?_ _ | refine blk_drew ?_ | refine blk_alloc ?_ _)); refine blk_put (cs := #[.int .i64 0, .int .i64 0]) ?_ 0 _ rfl; (with_reducible repeat (first | refine blk_drewN ?_ _ | refine blk_drew ?_ | refine blk_alloc ?_ _)); exact BK201.out⟩, ⟨by repeat (first | (with_reducible first | exact HB.out | apply below_alloc | apply pw_below_drewN | apply below_drew1 | refine below_set ?_ GE201.out) | exact HB.out)⟩⟩
        case round =>
          clear H'
          try clear c1
          try clear p2
          try clear p6
          try clear c8
          try clear c8b0
          try clear c8b1
          try clear c9
          try clear c10
          try clear c12
          try clear c17
          try clear hcz21_0
          try clear hcz21_1
          try clear hfz21_0
          try clear hfz21_1
          try clear p2
          obtain ⟨x14_2, x45_2, rfl, HA, HK2, HO_14, BK201, HB⟩ := hrel
          cases gk with
          | zero => exact absurd HA.out (by simp [celluloidlaw17_SweepShifts.l0])
          | succ k2 =>
            have H := HA.out
            clear HA
            simp only [celluloidlaw17_SweepShifts.l0] at H
            by_cases c22 : x45_2 < (l0.length : Int)
            · rw [if_pos c22] at H
              have c22b0 : decide (x45_2 < (l0.length : Int)) = true := decide_eq_true c22
              clear c22
              by_cases c23 : 0 ≤ x45_2
              · rw [if_pos c23] at H
                have c23b0 : decide (0 ≤ x45_2) = true := decide_eq_true c23
                clear c23
                by_cases c24 : x45_2 < (l0.length : Int)
                · rw [if_pos c24] at H
                  have c24b0 : decide (x45_2 < (l0.length : Int)) = true := decide_eq_true c24
                  clear c24
                  by_cases c25 : x14_2.length < 2932031007402
                  · rw [if_pos c25] at H
                    have LMc25 := Aside0.mk c25
                    clear c25
                    obtain ⟨y204, hy204⟩ : ∃ y_ : List (S27), y_ = (x14_2 ++ [(⟨(⟨wrap64 (((rd_T27 l0 x45_2).f0.f0) + (wrap64 (2 * (wrap64 (a4))))), wrap64 (((rd_T27 l0 x45_2).f0.f1) + (wrap64 (2 * (wrap64 (a5)))))⟩ : S25), (⟨wrap64 (((rd_T27 l0 x45_2).f1.f0) + (wrap64 (2 * (wrap64 (a4))))), wrap64 (((rd_T27 l0 x45_2).f1.f1) + (wrap64 (2 * (wrap64 (a5)))))⟩ : S25), (rd_T27 l0 x45_2).f2, (rd_T27 l0 x45_2).f3⟩ : S27)]) := ⟨_, rfl⟩
                    replace H : (celluloidlaw17_SweepShifts.l0 k2 l0 a1 a2 a3 y204 l0 (l0.length : Int) (wrap64 (x45_2 + 1)) (wrap64 (2 * (wrap64 (a4)))) (wrap64 (2 * (wrap64 (a5))))) = some r := by first | (rw [hy204]; with_reducible exact H) | (have H2_ := (Option.bind_some _ _).symm.trans H; rw [hy204]; with_reducible exact H2_) | (have H2_ := (Option.bind_some _ _).symm.trans H; with_reducible exact H2_) | with_reducible exact H | (rw [hy204]; exact H) | exact H
                    have Ny204 := Aside0.mk hy204
                    clear hy204
                    have H' := Aside0.mk H
                    clear H
                    have p202 : 0 ≤ (x45_2 : Int) := of_decide_eq_true (by first | (with_reducible assumption) | assumption)
                    have q202 : x45_2 < (l0.length : Int) := of_decide_eq_true (by first | (with_reducible assumption) | assumption)
                    obtain ⟨ad202, e202, hx202_0, hx202_1, hx202_2, hx202_3, hx202_4, hx202_5⟩ := at_T27 HR0.out x45_2 p202 q202
                    cases e202
                    replace hx202_0 := (HB.out.cell (World.block_lt_of_cell? w _ hx202_0)).trans hx202_0
                    replace hx202_1 := (HB.out.cell (World.block_lt_of_cell? w _ hx202_1)).trans hx202_1
                    replace hx202_2 := (HB.out.cell (World.block_lt_of_cell? w _ hx202_2)).trans hx202_2
                    replace hx202_3 := (HB.out.cell (World.block_lt_of_cell? w _ hx202_3)).trans hx202_3
                    replace hx202_4 := (HB.out.cell (World.block_lt_of_cell? w _ hx202_4)).trans hx202_4
                    replace hx202_5 := (HB.out.cell (World.block_lt_of_cell? w _ hx202_5)).trans hx202_5
                    replace p202 := eq_true p202
                    replace q202 := eq_true q202
                    try go_wp2_with (first | ((with_reducible refine gate_dst (N := 16) rfl ?_); refine box_event ?hg (N := 16) ?hd (cs := #[.int .i64 0, .int .i64 0, .int .i64 0, .int .i64 0, .int .i64 0, .int .i64 0]) (t := 27) ?hr ?_; (case hd => rfl); (case hg => rfl); (case hr => first | (go_simp; done) | (go_simp; rfl)); intro gb203 hg w26 hbox hb; have n0_ := Aside0.mk (Kd.R_below (Kd.R_elderB (by (with_reducible repeat (first | apply Kd.R_alloc | apply Kd.R_drewN | apply Kd.R_drew)); exact HO_14.out) gb203 (Nat.le_of_eq hg.symm)) hb); have n1_ := Aside0.mk (blk_below (g := gb201) (o := .cells #[.int .i64 (wrap64 (2 * (wrap64 (a4)))), .int .i64 (wrap64 (2 * (wrap64 (a5))))] 25 (0, 0)) (by (with_reducible repeat (first | refine blk_drewN ?_ _ | refine blk_drew ?_ | refine blk_alloc ?_ _)); exact BK201.out) hb); have n2_ := Aside0.mk (below_step (by repeat (first | (with_reducible first | exact HB.out | apply below_alloc | apply pw_below_drewN | apply below_drew1 | refine below_set ?_ GE201.out) | exact HB.out)) hb); have n3_ := Aside0.mk (hbox); have n4_ := Aside0.mk ((by rw [hg]; exact (below_size (by repeat (first | (with_reducible first | exact HB.out | apply below_alloc | apply pw_below_drewN | apply below_drew1 | refine below_set ?_ GE201.out) | exact HB.out))) : w.heap.size ≤ gb203)); have n5_ := Aside0.mk ((by rw [hg]; exact (below_size (by repeat (first | (with_reducible first | exact HB.out | apply below_alloc | apply pw_below_drewN | apply below_drew1 | refine below_set ?_ GE201.out) | exact HB.out))) : w.heap.size ≤ gb203)); have n6_ := Aside0.mk ((by rw [hg]; exact Nat.ne_of_lt (blk_lt (g := gb201) (o := .cells #[.int .i64 (wrap64 (2 * (wrap64 (a4)))), .int .i64 (wrap64 (2 * (wrap64 (a5))))] 25 (0, 0)) (by (with_reducible repeat (first | refine blk_drewN ?_ _ | refine blk_drew ?_ | refine blk_alloc ?_ _)); exact BK201.out)) : gb201 ≠ gb203)); have n7_ := Aside0.mk ((by rw [hg]; exact Nat.ne_of_gt (blk_lt (g := gb201) (o := .cells #[.int .i64 (wrap64 (2 * (wrap64 (a4)))), .int .i64 (wrap64 (2 * (wrap64 (a5))))] 25 (0, 0)) (by (with_reducible repeat (first | refine blk_drewN ?_ _ | refine blk_drew ?_ | refine blk_alloc ?_ _)); exact BK201.out)) : gb203 ≠ gb201)); clear HO_14; clear BK201; clear HB; have HO_14 := n0_; have BK201 := n1_; have HB := n2_; have BK203 := n3_; have GW203 := n4_; have GE203 := n5_; have NB201_203 := n6_; have NB203_201 := n7_; clear n0_ n1_ n2_ n3_ n4_ n5_ n6_ n7_; clear hb hbox hg; have hnb27 := NB203_201.out; have hnc27 := NB201_203.out; have hcz28_0 : w26.cell? ⟨gb203, 0, none⟩ = some (.int .i64 0) := (blk_cell BK203.out 0).trans rfl; have hcz28_1 : w26.cell? ⟨gb203, 1, none⟩ = some (.int .i64 0) := (blk_cell BK203.out 1).trans rfl; have hcz28_2 : w26.cell? ⟨gb203, 2, none⟩ = some (.int .i64 0) := (blk_cell BK203.out 2).trans rfl; have hcz28_3 : w26.cell? ⟨gb203, 3, none⟩ = some (.int .i64 0) := (blk_cell BK203.out 3).trans rfl; have hcz28_4 : w26.cell? ⟨gb203, 4, none⟩ = some (.int .i64 0) := (blk_cell BK203.out 4).trans rfl; have hcz28_5 : w26.cell? ⟨gb203, 5, none⟩ = some (.int .i64 0) := (blk_cell BK203.out 5).trans rfl; have hfz28_0 := blk_frozen BK203.out 0; have hfz28_1 := blk_frozen BK203.out 1; have hfz28_2 := blk_frozen BK203.out 2; have hfz28_3 := blk_frozen BK203.out 3; have hfz28_4 := blk_frozen BK203.out 4; have hfz28_5 := blk_frozen BK203.out 5))
                    have n0_ : Aside0 (Kd.R k27 27 ((((((w26.setCell ⟨gb203, 0, none⟩ (.int .i64 ((rd_T27 l0 x45_2).f0.f0))).setCell ⟨gb203, 1, none⟩ (.int .i64 ((rd_T27 l0 x45_2).f0.f1))).setCell ⟨gb203, 2, none⟩ (.int .i64 ((rd_T27 l0 x45_2).f1.f0))).setCell ⟨gb203, 3, none⟩ (.int .i64 ((rd_T27 l0 x45_2).f1.f1))).setCell ⟨gb203, 4, none⟩ (.int .i64 ((rd_T27 l0 x45_2).f2))).setCell ⟨gb203, 5, none⟩ (.int .i64 ((rd_T27 l0 x45_2).f3))) w.heap.size (fun k_ => k_ ≠ gb203) u14 x14_2) := ⟨by (with_reducible repeat (first | apply Kd.R_alloc | apply Kd.R_drewN | apply Kd.R_drew)); exact Kd.R_mono (Kd.R_far (p := ⟨gb203, 5, none⟩) (Kd.R_far (p := ⟨gb203, 4, none⟩) (Kd.R_far (p := ⟨gb203, 3, none⟩) (Kd.R_far (p := ⟨gb203, 2, none⟩) (Kd.R_far (p := ⟨gb203, 1, none⟩) (Kd.R_far (p := ⟨gb203, 0, none⟩) (Kd.R_mono HO_14.out (fun k_ hk => (⟨hk, hk.2⟩ : _ ∧ k_ ≠ gb203))) (fun _ hk => hk.2) (.int .i64 ((rd_T27 l0 x45_2).f0.f0))) (fun _ hk => hk.2) (.int .i64 ((rd_T27 l0 x45_2).f0.f1))) (fun _ hk => hk.2) (.int .i64 ((rd_T27 l0 x45_2).f1.f0))) (fun _ hk => hk.2) (.int .i64 ((rd_T27 l0 x45_2).f1.f1))) (fun _ hk => hk.2) (.int .i64 ((rd_T27 l0 x45_2).f2))) (fun _ hk => hk.2) (.int .i64 ((rd_T27 l0 x45_2).f3))) (fun _ hk => hk.1.2)⟩
                    have n1_ : Aside0 (((((((w26.setCell ⟨gb203, 0, none⟩ (.int .i64 ((rd_T27 l0 x45_2).f0.f0))).setCell ⟨gb203, 1, none⟩ (.int .i64 ((rd_T27 l0 x45_2).f0.f1))).setCell ⟨gb203, 2, none⟩ (.int .i64 ((rd_T27 l0 x45_2).f1.f0))).setCell ⟨gb203, 3, none⟩ (.int .i64 ((rd_T27 l0 x45_2).f1.f1))).setCell ⟨gb203, 4, none⟩ (.int .i64 ((rd_T27 l0 x45_2).f2))).setCell ⟨gb203, 5, none⟩ (.int .i64 ((rd_T27 l0 x45_2).f3))).heap[gb201]? = some (.cells #[.int .i64 (wrap64 (2 * (wrap64 (a4)))), .int .i64 (wrap64 (2 * (wrap64 (a5))))] 25 (0, 0))) := ⟨by (with_reducible repeat (first | refine blk_drewN ?_ _ | refine blk_drew ?_ | refine blk_alloc ?_ _)); refine blk_far ?_ NB201_203.out _; (with_reducible repeat (first | refine blk_drewN ?_ _ | refine blk_drew ?_ | refine blk_alloc ?_ _)); refine blk_far ?_ NB201_203.out _; (with_reducible repeat (first | refine blk_drewN ?_ _ | refine blk_drew ?_ | refine blk_alloc ?_ _)); refine blk_far ?_ NB201_203.out _; (with_reducible repeat (first | refine blk_drewN ?_ _ | refine blk_drew ?_ | refine blk_alloc ?_ _)); refine blk_far ?_ NB201_203.out _; (with_reducible repeat (first | refine blk_drewN ?_ _ | refine blk_drew ?_ | refine blk_alloc ?_ _)); refine blk_far ?_ NB201_203.out _; (with_reducible repeat (first | refine blk_drewN ?_ _ | refine blk_drew ?_ | refine blk_alloc ?_ _)); refine blk_far ?_ NB201_203.out _; (with_reducible repeat (first | refine blk_drewN ?_ _ | refine blk_drew ?_ | refine blk_alloc ?_ _)); exact BK201.out⟩
                    have n2_ : Aside0 (((((((w26.setCell ⟨gb203, 0, none⟩ (.int .i64 ((rd_T27 l0 x45_2).f0.f0))).setCell ⟨gb203, 1, none⟩ (.int .i64 ((rd_T27 l0 x45_2).f0.f1))).setCell ⟨gb203, 2, none⟩ (.int .i64 ((rd_T27 l0 x45_2).f1.f0))).setCell ⟨gb203, 3, none⟩ (.int .i64 ((rd_T27 l0 x45_2).f1.f1))).setCell ⟨gb203, 4, none⟩ (.int .i64 ((rd_T27 l0 x45_2).f2))).setCell ⟨gb203, 5, none⟩ (.int .i64 ((rd_T27 l0 x45_2).f3))).heap[gb203]? = some (.cells #[.int .i64 ((rd_T27 l0 x45_2).f0.f0), .int .i64 ((rd_T27 l0 x45_2).f0.f1), .int .i64 ((rd_T27 l0 x45_2).f1.f0), .int .i64 ((rd_T27 l0 x45_2).f1.f1), .int .i64 ((rd_T27 l0 x45_2).f2), .int .i64 ((rd_T27 l0 x45_2).f3)] 27 (0, 0))) := ⟨by (with_reducible repeat (first | refine blk_drewN ?_ _ | refine blk_drew ?_ | refine blk_alloc ?_ _)); refine blk_put (cs := #[.int .i64 ((rd_T27 l0 x45_2).f0.f0), .int .i64 ((rd_T27 l0 x45_2).f0.f1), .int .i64 ((rd_T27 l0 x45_2).f1.f0), .int .i64 ((rd_T27 l0 x45_2).f1.f1), .int .i64 ((rd_T27 l0 x45_2).f2), .int .i64 0]) ?_ 5 _ rfl; (with_reducible repeat (first | refine blk_drewN ?_ _ | refine blk_drew ?_ | refine blk_alloc ?_ _)); refine blk_put (cs := #[.int .i64 ((rd_T27 l0 x45_2).f0.f0), .int .i64 ((rd_T27 l0 x45_2).f0.f1), .int .i64 ((rd_T27 l0 x45_2).f1.f0), .int .i64 ((rd_T27 l0 x45_2).f1.f1), .int .i64 0, .int .i64 0]) ?_ 4 _ rfl; (with_reducible repeat (first | refine blk_drewN ?_ _ | refine blk_drew ?_ | refine blk_alloc ?_ _)); refine blk_put (cs := #[.int .i64 ((rd_T27 l0 x45_2).f0.f0), .int .i64 ((rd_T27 l0 x45_2).f0.f1), .int .i64 ((rd_T27 l0 x45_2).f1.f0), .int .i64 0, .int .i64 0, .int .i64 0]) ?_ 3 _ rfl; (with_reducible repeat (first | refine blk_drewN ?_ _ | refine blk_drew ?_ | refine blk_alloc ?_ _)); refine blk_put (cs := #[.int .i64 ((rd_T27 l0 x45_2).f0.f0), .int .i64 ((rd_T27 l0 x45_2).f0.f1), .int .i64 0, .int .i64 0, .int .i64 0, .int .i64 0]) ?_ 2 _ rfl; (with_reducible repeat (first | refine blk_drewN ?_ _ | refine blk_drew ?_ | refine blk_alloc ?_ _)); refine blk_put (cs := #[.int .i64 ((rd_T27 l0 x45_2).f0.f0), .int .i64 0, .int .i64 0, .int .i64 0, .int .i64 0, .int .i64 0]) ?_ 1 _ rfl; (with_reducible repeat (first | refine blk_drewN ?_ _ | refine blk_drew ?_ | refine blk_alloc ?_ _)); refine blk_put (cs := #[.int .i64 0, .int .i64 0, .int .i64 0, .int .i64 0, .int .i64 0, .int .i64 0]) ?_ 0 _ rfl; (with_reducible repeat (first | refine blk_drewN ?_ _ | refine blk_drew ?_ | refine blk_alloc ?_ _)); exact BK203.out⟩
                    have n3_ : Aside0 (Below w.heap.size w ((((((w26.setCell ⟨gb203, 0, none⟩ (.int .i64 ((rd_T27 l0 x45_2).f0.f0))).setCell ⟨gb203, 1, none⟩ (.int .i64 ((rd_T27 l0 x45_2).f0.f1))).setCell ⟨gb203, 2, none⟩ (.int .i64 ((rd_T27 l0 x45_2).f1.f0))).setCell ⟨gb203, 3, none⟩ (.int .i64 ((rd_T27 l0 x45_2).f1.f1))).setCell ⟨gb203, 4, none⟩ (.int .i64 ((rd_T27 l0 x45_2).f2))).setCell ⟨gb203, 5, none⟩ (.int .i64 ((rd_T27 l0 x45_2).f3)))) := ⟨by repeat (first | (with_reducible first | exact HB.out | apply below_alloc | apply pw_below_drewN | apply below_drew1 | refine below_set ?_ GE201.out | refine below_set ?_ GE203.out) | exact HB.out)⟩
                    (try clear HO_14)
                    (try clear BK201)
                    (try clear BK203)
                    (try clear HB)
                    generalize ((((((w26.setCell ⟨gb203, 0, none⟩ (.int .i64 ((rd_T27 l0 x45_2).f0.f0))).setCell ⟨gb203, 1, none⟩ (.int .i64 ((rd_T27 l0 x45_2).f0.f1))).setCell ⟨gb203, 2, none⟩ (.int .i64 ((rd_T27 l0 x45_2).f1.f0))).setCell ⟨gb203, 3, none⟩ (.int .i64 ((rd_T27 l0 x45_2).f1.f1))).setCell ⟨gb203, 4, none⟩ (.int .i64 ((rd_T27 l0 x45_2).f2))).setCell ⟨gb203, 5, none⟩ (.int .i64 ((rd_T27 l0 x45_2).f3))) = w29 at n0_ n1_ n2_ n3_ ⊢
                    have HO_14 := n0_
                    have BK201 := n1_
                    have BK203 := n2_
                    have HB := n3_
                    clear n0_ n1_ n2_ n3_
                    have n0_ := Aside0.mk (Kd.R_drew HO_14.out)
                    have n1_ := Aside0.mk (blk_drew BK201.out)
                    have n2_ := Aside0.mk (blk_drew BK203.out)
                    have n3_ := Aside0.mk (below_drew1 HB.out)
                    clear HO_14
                    clear BK201
                    clear BK203
                    clear HB
                    have HO_14 := n0_
                    have BK201 := n1_
                    have BK203 := n2_
                    have HB := n3_
                    clear n0_ n1_ n2_ n3_
                    refine start_ (n := 30) (S := fun w' => w'.cell? ⟨gb203, 0, none⟩ = some (.int .i64 ((rd_T27 l0 x45_2).f0.f0)) ∧ w'.cell? ⟨gb203, 1, none⟩ = some (.int .i64 ((rd_T27 l0 x45_2).f0.f1)) ∧ w'.cell? ⟨gb203, 2, none⟩ = some (.int .i64 ((rd_T27 l0 x45_2).f1.f0)) ∧ w'.cell? ⟨gb203, 3, none⟩ = some (.int .i64 ((rd_T27 l0 x45_2).f1.f1)) ∧ w'.cell? ⟨gb203, 4, none⟩ = some (.int .i64 ((rd_T27 l0 x45_2).f2)) ∧ w'.cell? ⟨gb203, 5, none⟩ = some (.int .i64 ((rd_T27 l0 x45_2).f3)) ∧ w'.cell? ⟨gb201, 0, none⟩ = some (.int .i64 (wrap64 (2 * (wrap64 (a4))))) ∧ w'.cell? ⟨gb201, 1, none⟩ = some (.int .i64 (wrap64 (2 * (wrap64 (a5)))))) (ds := [27, 29]) #[false, false, false, false, false, false, false, false, false, false, false, false, false, false, false, false, false, false, false, false, false, false, false, false, false, false, false, false, false, false] (by kernel_rfl) rfl rfl ⟨(blk_cell BK203.out 0).trans rfl, (blk_cell BK203.out 1).trans rfl, (blk_cell BK203.out 2).trans rfl, (blk_cell BK203.out 3).trans rfl, (blk_cell BK203.out 4).trans rfl, (blk_cell BK203.out 5).trans rfl, (blk_cell BK201.out 0).trans rfl, (blk_cell BK201.out 1).trans rfl⟩ (fun hHeld => ?_); refine with_tabW celluloidlaw17_SweepShifts.tab8 celluloidlaw17_SweepShifts.bits8 (fun HT_ HW_ => ?_)
                    generalize w29.drew = w30 at HO_14 BK201 BK203 HB hHeld ⊢
                    refine pure_ (i := 0) (N := some 49) (v := ?_) (a' := ?_) #[true, false, false, false, false, false, false, false, false, false, false, false, false, false, false, false, false, false, false, false, false, false, false, false, false, false, false, false, false, false] rfl rfl (any_of HT_.out (by kernel_rfl)) (fun _ _ _ h => h) (Or.inl ⟨by rfl, ?_⟩) ?_ ?_
                    rotate_left
                    · intro w'
                      go_simp
                      with_reducible rfl
                    rotate_left
                    · simp only [Act.put, List.setIfInBounds_toArray, List.set_cons_zero, List.set_cons_succ, i64_w, i32_w]
                      rfl
                    refine pure_ (i := 1) (N := some 50) (v := ?_) (a' := ?_) #[true, true, false, false, false, false, false, false, false, false, false, false, false, false, false, false, false, false, false, false, false, false, false, false, false, false, false, false, false, false] rfl rfl (any_of HT_.out (by kernel_rfl)) (fun _ _ _ h => h) (Or.inl ⟨by rfl, ?_⟩) ?_ ?_
                    rotate_left
                    · intro w'
                      go_simp
                      with_reducible rfl
                    rotate_left
                    · simp only [Act.put, List.setIfInBounds_toArray, List.set_cons_zero, List.set_cons_succ, i64_w, i32_w]
                      rfl
                    refine pure_ (i := 3) (N := some 52) (v := ?_) (a' := ?_) #[true, true, false, true, false, false, false, false, false, false, false, false, false, false, false, false, false, false, false, false, false, false, false, false, false, false, false, false, false, false] rfl rfl (any_of HT_.out (by kernel_rfl)) (fun _ _ _ h => h) (Or.inl ⟨by rfl, ?_⟩) ?_ ?_
                    rotate_left
                    · intro w'
                      go_simp
                      with_reducible rfl
                    rotate_left
                    · simp only [Act.put, List.setIfInBounds_toArray, List.set_cons_zero, List.set_cons_succ, i64_w, i32_w]
                      rfl
                    refine pure_ (i := 6) (N := some 55) (v := ?_) (a' := ?_) #[true, true, false, true, false, false, true, false, false, false, false, false, false, false, false, false, false, false, false, false, false, false, false, false, false, false, false, false, false, false] rfl rfl (any_of HT_.out (by kernel_rfl)) (fun _ _ _ h => h) (Or.inl ⟨by rfl, ?_⟩) ?_ ?_
                    rotate_left
                    · intro w'
                      go_simp
                      with_reducible rfl
                    rotate_left
                    · simp only [Act.put, List.setIfInBounds_toArray, List.set_cons_zero, List.set_cons_succ, i64_w, i32_w]
                      rfl
                    refine pure_ (i := 7) (N := some 56) (v := ?_) (a' := ?_) #[true, true, false, true, false, false, true, true, false, false, false, false, false, false, false, false, false, false, false, false, false, false, false, false, false, false, false, false, false, false] rfl rfl (any_of HT_.out (by kernel_rfl)) (fun _ _ _ h => h) (Or.inl ⟨by rfl, ?_⟩) ?_ ?_
                    rotate_left
                    · intro w'
                      go_simp
                      with_reducible rfl
                    rotate_left
                    · simp only [Act.put, List.setIfInBounds_toArray, List.set_cons_zero, List.set_cons_succ, i64_w, i32_w]
                      rfl
                    refine pure_ (i := 9) (N := some 58) (v := ?_) (a' := ?_) #[true, true, false, true, false, false, true, true, false, true, false, false, false, false, false, false, false, false, false, false, false, false, false, false, false, false, false, false, false, false] rfl rfl (any_of HT_.out (by kernel_rfl)) (fun _ _ _ h => h) (Or.inl ⟨by rfl, ?_⟩) ?_ ?_
                    rotate_left
                    · intro w'
                      go_simp
                      with_reducible rfl
                    rotate_left
                    · simp only [Act.put, List.setIfInBounds_toArray, List.set_cons_zero, List.set_cons_succ, i64_w, i32_w]
                      rfl
                    refine pure_ (i := 13) (N := some 62) (v := ?_) (a' := ?_) #[true, true, false, true, false, false, true, true, false, true, false, false, false, true, false, false, false, false, false, false, false, false, false, false, false, false, false, false, false, false] rfl rfl (any_of HT_.out (by kernel_rfl)) (fun _ _ _ h => h) (Or.inl ⟨by rfl, ?_⟩) ?_ ?_
                    rotate_left
                    · intro w'
                      go_simp
                      with_reducible rfl
                    rotate_left
                    · simp only [Act.put, List.setIfInBounds_toArray, List.set_cons_zero, List.set_cons_succ, i64_w, i32_w]
                      rfl
                    refine pure_ (i := 14) (N := some 63) (v := ?_) (a' := ?_) #[true, true, false, true, false, false, true, true, false, true, false, false, false, true, true, false, false, false, false, false, false, false, false, false, false, false, false, false, false, false] rfl rfl (any_of HT_.out (by kernel_rfl)) (fun _ _ _ h => h) (Or.inl ⟨by rfl, ?_⟩) ?_ ?_
                    rotate_left
                    · intro w'
                      go_simp
                      with_reducible rfl
                    rotate_left
                    · simp only [Act.put, List.setIfInBounds_toArray, List.set_cons_zero, List.set_cons_succ, i64_w, i32_w]
                      rfl
                    refine pure_ (i := 16) (N := some 65) (v := ?_) (a' := ?_) #[true, true, false, true, false, false, true, true, false, true, false, false, false, true, true, false, true, false, false, false, false, false, false, false, false, false, false, false, false, false] rfl rfl (any_of HT_.out (by kernel_rfl)) (fun _ _ _ h => h) (Or.inl ⟨by rfl, ?_⟩) ?_ ?_
                    rotate_left
                    · intro w'
                      go_simp
                      with_reducible rfl
                    rotate_left
                    · simp only [Act.put, List.setIfInBounds_toArray, List.set_cons_zero, List.set_cons_succ, i64_w, i32_w]
                      rfl
                    refine pure_ (i := 19) (N := some 68) (v := ?_) (a' := ?_) #[true, true, false, true, false, false, true, true, false, true, false, false, false, true, true, false, true, false, false, true, false, false, false, false, false, false, false, false, false, false] rfl rfl (any_of HT_.out (by kernel_rfl)) (fun _ _ _ h => h) (Or.inl ⟨by rfl, ?_⟩) ?_ ?_
                    rotate_left
                    · intro w'
                      go_simp
                      with_reducible rfl
                    rotate_left
                    · simp only [Act.put, List.setIfInBounds_toArray, List.set_cons_zero, List.set_cons_succ, i64_w, i32_w]
                      rfl
                    refine pure_ (i := 20) (N := some 69) (v := ?_) (a' := ?_) #[true, true, false, true, false, false, true, true, false, true, false, false, false, true, true, false, true, false, false, true, true, false, false, false, false, false, false, false, false, false] rfl rfl (any_of HT_.out (by kernel_rfl)) (fun _ _ _ h => h) (Or.inl ⟨by rfl, ?_⟩) ?_ ?_
                    rotate_left
                    · intro w'
                      go_simp
                      with_reducible rfl
                    rotate_left
                    · simp only [Act.put, List.setIfInBounds_toArray, List.set_cons_zero, List.set_cons_succ, i64_w, i32_w]
                      rfl
                    refine pure_ (i := 22) (N := some 71) (v := ?_) (a' := ?_) #[true, true, false, true, false, false, true, true, false, true, false, false, false, true, true, false, true, false, false, true, true, false, true, false, false, false, false, false, false, false] rfl rfl (any_of HT_.out (by kernel_rfl)) (fun _ _ _ h => h) (Or.inl ⟨by rfl, ?_⟩) ?_ ?_
                    rotate_left
                    · intro w'
                      go_simp
                      with_reducible rfl
                    rotate_left
                    · simp only [Act.put, List.setIfInBounds_toArray, List.set_cons_zero, List.set_cons_succ, i64_w, i32_w]
                      rfl
                    refine take_ (i := 2) (N := some 51) (v := ?_) (a' := ?_) #[true, true, true, true, false, false, true, true, false, true, false, false, false, true, true, false, true, false, false, true, true, false, true, false, false, false, false, false, false, false] rfl rfl (take_ofW HT_.out HW_.out (by kernel_rfl)) (fun _ _ _ h => h) (Or.inl ⟨by rfl, ?_⟩) hHeld ?_ ?_
                    rotate_left
                    · rintro w' ⟨s0, s1, s2, s3, s4, s5, s6, s7⟩
                      go_simp
                      with_reducible rfl
                    rotate_left
                    · simp only [Act.put, List.setIfInBounds_toArray, List.set_cons_zero, List.set_cons_succ, i64_w, i32_w]
                      rfl
                    refine take_ (i := 4) (N := some 53) (v := ?_) (a' := ?_) #[true, true, true, true, true, false, true, true, false, true, false, false, false, true, true, false, true, false, false, true, true, false, true, false, false, false, false, false, false, false] rfl rfl (take_ofW HT_.out HW_.out (by kernel_rfl)) (fun _ _ _ h => h) (Or.inl ⟨by rfl, ?_⟩) hHeld ?_ ?_
                    rotate_left
                    · rintro w' ⟨s0, s1, s2, s3, s4, s5, s6, s7⟩
                      go_simp
                      with_reducible rfl
                    rotate_left
                    · simp only [Act.put, List.setIfInBounds_toArray, List.set_cons_zero, List.set_cons_succ, i64_w, i32_w]
                      rfl
                    refine pure_ (i := 5) (N := some 54) (v := ?_) (a' := ?_) #[true, true, true, true, true, true, true, true, false, true, false, false, false, true, true, false, true, false, false, true, true, false, true, false, false, false, false, false, false, false] rfl rfl (any_of HT_.out (by kernel_rfl)) (fun _ _ _ h => h) (Or.inl ⟨by rfl, ?_⟩) ?_ ?_
                    rotate_left
                    · intro w'
                      go_simp
                      with_reducible rfl
                    rotate_left
                    · simp only [Act.put, List.setIfInBounds_toArray, List.set_cons_zero, List.set_cons_succ, i64_w, i32_w]
                      rfl
                    refine take_ (i := 8) (N := some 57) (v := ?_) (a' := ?_) #[true, true, true, true, true, true, true, true, true, true, false, false, false, true, true, false, true, false, false, true, true, false, true, false, false, false, false, false, false, false] rfl rfl (take_ofW HT_.out HW_.out (by kernel_rfl)) (fun _ _ _ h => h) (Or.inl ⟨by rfl, ?_⟩) hHeld ?_ ?_
                    rotate_left
                    · rintro w' ⟨s0, s1, s2, s3, s4, s5, s6, s7⟩
                      go_simp
                      with_reducible rfl
                    rotate_left
                    · simp only [Act.put, List.setIfInBounds_toArray, List.set_cons_zero, List.set_cons_succ, i64_w, i32_w]
                      rfl
                    refine take_ (i := 10) (N := some 59) (v := ?_) (a' := ?_) #[true, true, true, true, true, true, true, true, true, true, true, false, false, true, true, false, true, false, false, true, true, false, true, false, false, false, false, false, false, false] rfl rfl (take_ofW HT_.out HW_.out (by kernel_rfl)) (fun _ _ _ h => h) (Or.inl ⟨by rfl, ?_⟩) hHeld ?_ ?_
                    rotate_left
                    · rintro w' ⟨s0, s1, s2, s3, s4, s5, s6, s7⟩
                      go_simp
                      with_reducible rfl
                    rotate_left
                    · simp only [Act.put, List.setIfInBounds_toArray, List.set_cons_zero, List.set_cons_succ, i64_w, i32_w]
                      rfl
                    refine pure_ (i := 11) (N := some 60) (v := ?_) (a' := ?_) #[true, true, true, true, true, true, true, true, true, true, true, true, false, true, true, false, true, false, false, true, true, false, true, false, false, false, false, false, false, false] rfl rfl (any_of HT_.out (by kernel_rfl)) (fun _ _ _ h => h) (Or.inl ⟨by rfl, ?_⟩) ?_ ?_
                    rotate_left
                    · intro w'
                      go_simp
                      with_reducible rfl
                    rotate_left
                    · simp only [Act.put, List.setIfInBounds_toArray, List.set_cons_zero, List.set_cons_succ, i64_w, i32_w]
                      rfl
                    refine pure_ (i := 12) (N := some 61) (v := ?_) (a' := ?_) #[true, true, true, true, true, true, true, true, true, true, true, true, true, true, true, false, true, false, false, true, true, false, true, false, false, false, false, false, false, false] rfl rfl (any_of HT_.out (by kernel_rfl)) (fun _ _ _ h => h) (Or.inl ⟨by rfl, ?_⟩) ?_ ?_
                    rotate_left
                    · intro w'
                      go_simp
                      with_reducible rfl
                    rotate_left
                    · simp only [Act.put, List.setIfInBounds_toArray, List.set_cons_zero, List.set_cons_succ, i64_w, i32_w]
                      rfl
                    refine take_ (i := 15) (N := some 64) (v := ?_) (a' := ?_) #[true, true, true, true, true, true, true, true, true, true, true, true, true, true, true, true, true, false, false, true, true, false, true, false, false, false, false, false, false, false] rfl rfl (take_ofW HT_.out HW_.out (by kernel_rfl)) (fun _ _ _ h => h) (Or.inl ⟨by rfl, ?_⟩) hHeld ?_ ?_
                    rotate_left
                    · rintro w' ⟨s0, s1, s2, s3, s4, s5, s6, s7⟩
                      go_simp
                      with_reducible rfl
                    rotate_left
                    · simp only [Act.put, List.setIfInBounds_toArray, List.set_cons_zero, List.set_cons_succ, i64_w, i32_w]
                      rfl
                    refine take_ (i := 21) (N := some 70) (v := ?_) (a' := ?_) #[true, true, true, true, true, true, true, true, true, true, true, true, true, true, true, true, true, false, false, true, true, true, true, false, false, false, false, false, false, false] rfl rfl (take_ofW HT_.out HW_.out (by kernel_rfl)) (fun _ _ _ h => h) (Or.inl ⟨by rfl, ?_⟩) hHeld ?_ ?_
                    rotate_left
                    · rintro w' ⟨s0, s1, s2, s3, s4, s5, s6, s7⟩
                      go_simp
                      with_reducible rfl
                    rotate_left
                    · simp only [Act.put, List.setIfInBounds_toArray, List.set_cons_zero, List.set_cons_succ, i64_w, i32_w]
                      rfl
                    refine pure_ (i := 26) (N := some 75) (v := ?_) (a' := ?_) #[true, true, true, true, true, true, true, true, true, true, true, true, true, true, true, true, true, false, false, true, true, true, true, false, false, false, true, false, false, false] rfl rfl (any_of HT_.out (by kernel_rfl)) (fun _ _ _ h => h) (Or.inl ⟨by rfl, ?_⟩) ?_ ?_
                    rotate_left
                    · intro w'
                      go_simp
                      with_reducible rfl
                    rotate_left
                    · simp only [Act.put, List.setIfInBounds_toArray, List.set_cons_zero, List.set_cons_succ, i64_w, i32_w]
                      rfl
                    have hs31 : w30.cell? ⟨gb203, 0, none⟩ = some (.int .i64 ((rd_T27 l0 x45_2).f0.f0)) := (blk_cell BK203.out 0).trans rfl
                    have hfs31 := blk_frozen BK203.out 0
                    have hns31_0 := NB201_203.out
                    have hms31_0 := NB203_201.out
                    have hs32 : w30.cell? ⟨gb203, 1, none⟩ = some (.int .i64 ((rd_T27 l0 x45_2).f0.f1)) := (blk_cell BK203.out 1).trans rfl
                    have hfs32 := blk_frozen BK203.out 1
                    have hns32_0 := NB201_203.out
                    have hms32_0 := NB203_201.out
                    obtain ⟨hx0_, hx1_, hx2_, hx3_, hx4_, hx5_, hx6_, hx7_⟩ := hHeld
                    refine joinB_ 2 #[true, true, true, true, true, true, true, true, true, true, true, true, true, true, true, true, true, true, true, true, true, true, true, true, true, true, true, true, false, false] [(66, .int .i64 (wrap64 (2 * (wrap64 (a4))))), (67, .int .i64 (wrap64 (((rd_T27 l0 x45_2).f1.f0) + (wrap64 (2 * (wrap64 (a4))))))), (72, .int .i64 (wrap64 (2 * (wrap64 (a5))))), (73, .int .i64 (wrap64 (((rd_T27 l0 x45_2).f1.f1) + (wrap64 (2 * (wrap64 (a5))))))), (74, .agg #[.int .i64 (wrap64 (((rd_T27 l0 x45_2).f1.f0) + (wrap64 (2 * (wrap64 (a4)))))), .int .i64 (wrap64 (((rd_T27 l0 x45_2).f1.f1) + (wrap64 (2 * (wrap64 (a5))))))])] (((w30.setCell ⟨gb203, 0, none⟩ (.int .i64 (wrap64 (((rd_T27 l0 x45_2).f0.f0) + (wrap64 (2 * (wrap64 (a4)))))))).setCell ⟨gb203, 1, none⟩ (.int .i64 (wrap64 (((rd_T27 l0 x45_2).f0.f1) + (wrap64 (2 * (wrap64 (a5))))))))) ?_ ?_
                    rotate_left
                    · intro hCont
                      refine wpAnyLast_ready (rs := [17, 23, 27]) (rdy_ HT_.out (by kernel_rfl)) (by simp) ?_
                      refine sameA_ (i := 17) (N := some 66) (v := ?_) (a' := ?_) #[true, true, true, true, true, true, true, true, true, true, true, true, true, true, true, true, true, true, false, true, true, true, true, false, false, false, true, false, false, false] rfl rfl (by kernel_rfl) (by rfl) ?_ ?_ ?_ ?_
                      rotate_left
                      · first | (go_simp; rfl) | (go_simp; exact ⟨rfl, trivial⟩)
                      rotate_left
                      · simp only [Act.put, List.setIfInBounds_toArray, List.set_cons_zero, List.set_cons_succ, i64_w, i32_w]
                        rfl
                      · skip
                        refine pure_ (i := 18) (N := some 67) (v := ?_) (a' := ?_) #[true, true, true, true, true, true, true, true, true, true, true, true, true, true, true, true, true, true, true, true, true, true, true, false, false, false, true, false, false, false] rfl rfl (any_of HT_.out (by kernel_rfl)) (fun _ _ _ h => h) (Or.inl ⟨by rfl, ?_⟩) ?_ ?_
                        rotate_left
                        · intro w'
                          go_simp
                          with_reducible rfl
                        rotate_left
                        · simp only [Act.put, List.setIfInBounds_toArray, List.set_cons_zero, List.set_cons_succ, i64_w, i32_w]
                          rfl
                        refine wpAnyLast_ready (rs := [23, 27]) (rdy_ HT_.out (by kernel_rfl)) (by simp) ?_
                        refine sameA_ (i := 23) (N := some 72) (v := ?_) (a' := ?_) #[true, true, true, true, true, true, true, true, true, true, true, true, true, true, true, true, true, true, true, true, true, true, true, true, false, false, true, false, false, false] rfl rfl (by kernel_rfl) (by rfl) ?_ ?_ ?_ ?_
                        rotate_left
                        · first | (go_simp; rfl) | (go_simp; exact ⟨rfl, trivial⟩)
                        rotate_left
                        · simp only [Act.put, List.setIfInBounds_toArray, List.set_cons_zero, List.set_cons_succ, i64_w, i32_w]
                          rfl
                        · skip
                          refine pure_ (i := 24) (N := some 73) (v := ?_) (a' := ?_) #[true, true, true, true, true, true, true, true, true, true, true, true, true, true, true, true, true, true, true, true, true, true, true, true, true, false, true, false, false, false] rfl rfl (any_of HT_.out (by kernel_rfl)) (fun _ _ _ h => h) (Or.inl ⟨by rfl, ?_⟩) ?_ ?_
                          rotate_left
                          · intro w'
                            go_simp
                            with_reducible rfl
                          rotate_left
                          · simp only [Act.put, List.setIfInBounds_toArray, List.set_cons_zero, List.set_cons_succ, i64_w, i32_w]
                            rfl
                          refine pure_ (i := 25) (N := some 74) (v := ?_) (a' := ?_) #[true, true, true, true, true, true, true, true, true, true, true, true, true, true, true, true, true, true, true, true, true, true, true, true, true, true, true, false, false, false] rfl rfl (any_of HT_.out (by kernel_rfl)) (fun _ _ _ h => h) (Or.inl ⟨by rfl, ?_⟩) ?_ ?_
                          rotate_left
                          · intro w'
                            go_simp
                            with_reducible rfl
                          rotate_left
                          · simp only [Act.put, List.setIfInBounds_toArray, List.set_cons_zero, List.set_cons_succ, i64_w, i32_w]
                            rfl
                          refine wpAnyLast_ready (rs := [27]) (rdy_ HT_.out (by kernel_rfl)) (by simp) ?_
                          refine storeA_ (i := 27) (w1 := ?_) #[true, true, true, true, true, true, true, true, true, true, true, true, true, true, true, true, true, true, true, true, true, true, true, true, true, true, true, true, false, false] rfl rfl (by kernel_rfl) (by decide) (by rfl) ?_ ?_ ?_
                          rotate_left 1
                          · go_simp
                            rfl
                          · skip
                            exact norm_ (by first | (simp only [putsB_, Act.put, List.setIfInBounds_toArray, List.set_cons_zero, List.set_cons_succ]; done) | (simp only [putsB_, Act.put, List.setIfInBounds_toArray, List.set_cons_zero, List.set_cons_succ]; rfl)) hCont
                          · skip
                            exact AllReadyL.nil
                        · skip
                          refine storeA_ (i := 27) (w1 := ?_) #[true, true, true, true, true, true, true, true, true, true, true, true, true, true, true, true, true, true, true, true, true, true, true, false, false, false, true, true, false, false] rfl rfl (by kernel_rfl) (by decide) (by rfl) ?_ ?_ ?_
                          rotate_left 1
                          · go_simp
                            rfl
                          · skip
                            refine wpAnyLast_ready (rs := [23]) (rdy_ HT_.out (by kernel_rfl)) (by simp) ?_
                            refine sameA_ (i := 23) (N := some 72) (v := ?_) (a' := ?_) #[true, true, true, true, true, true, true, true, true, true, true, true, true, true, true, true, true, true, true, true, true, true, true, true, false, false, true, true, false, false] rfl rfl (by kernel_rfl) (by rfl) ?_ ?_ ?_ ?_
                            rotate_left
                            · first | (go_simp; rfl) | (go_simp; exact ⟨rfl, trivial⟩)
                            rotate_left
                            · simp only [Act.put, List.setIfInBounds_toArray, List.set_cons_zero, List.set_cons_succ, i64_w, i32_w]
                              rfl
                            · skip
                              refine pure_ (i := 24) (N := some 73) (v := ?_) (a' := ?_) #[true, true, true, true, true, true, true, true, true, true, true, true, true, true, true, true, true, true, true, true, true, true, true, true, true, false, true, true, false, false] rfl rfl (any_of HT_.out (by kernel_rfl)) (fun _ _ _ h => h) (Or.inl ⟨by rfl, ?_⟩) ?_ ?_
                              rotate_left
                              · intro w'
                                go_simp
                                with_reducible rfl
                              rotate_left
                              · simp only [Act.put, List.setIfInBounds_toArray, List.set_cons_zero, List.set_cons_succ, i64_w, i32_w]
                                rfl
                              refine pure_ (i := 25) (N := some 74) (v := ?_) (a' := ?_) #[true, true, true, true, true, true, true, true, true, true, true, true, true, true, true, true, true, true, true, true, true, true, true, true, true, true, true, true, false, false] rfl rfl (any_of HT_.out (by kernel_rfl)) (fun _ _ _ h => h) (Or.inl ⟨by rfl, ?_⟩) ?_ ?_
                              rotate_left
                              · intro w'
                                go_simp
                                with_reducible rfl
                              rotate_left
                              · simp only [Act.put, List.setIfInBounds_toArray, List.set_cons_zero, List.set_cons_succ, i64_w, i32_w]
                                rfl
                              exact norm_ (by first | (simp only [putsB_, Act.put, List.setIfInBounds_toArray, List.set_cons_zero, List.set_cons_succ]; done) | (simp only [putsB_, Act.put, List.setIfInBounds_toArray, List.set_cons_zero, List.set_cons_succ]; rfl)) hCont
                            · skip
                              exact AllReadyL.nil
                          · skip
                            exact AllReadyL.nil
                      · skip
                        refine sameA_ (i := 23) (N := some 72) (v := ?_) (a' := ?_) #[true, true, true, true, true, true, true, true, true, true, true, true, true, true, true, true, true, false, false, true, true, true, true, true, false, false, true, false, false, false] rfl rfl (by kernel_rfl) (by rfl) ?_ ?_ ?_ ?_
                        rotate_left
                        · first | (go_simp; rfl) | (go_simp; exact ⟨rfl, trivial⟩)
                        rotate_left
                        · simp only [Act.put, List.setIfInBounds_toArray, List.set_cons_zero, List.set_cons_succ, i64_w, i32_w]
                          rfl
                        · skip
                          refine pure_ (i := 24) (N := some 73) (v := ?_) (a' := ?_) #[true, true, true, true, true, true, true, true, true, true, true, true, true, true, true, true, true, false, false, true, true, true, true, true, true, false, true, false, false, false] rfl rfl (any_of HT_.out (by kernel_rfl)) (fun _ _ _ h => h) (Or.inl ⟨by rfl, ?_⟩) ?_ ?_
                          rotate_left
                          · intro w'
                            go_simp
                            with_reducible rfl
                          rotate_left
                          · simp only [Act.put, List.setIfInBounds_toArray, List.set_cons_zero, List.set_cons_succ, i64_w, i32_w]
                            rfl
                          refine wpAnyLast_ready (rs := [17, 27]) (rdy_ HT_.out (by kernel_rfl)) (by simp) ?_
                          refine sameA_ (i := 17) (N := some 66) (v := ?_) (a' := ?_) #[true, true, true, true, true, true, true, true, true, true, true, true, true, true, true, true, true, true, false, true, true, true, true, true, true, false, true, false, false, false] rfl rfl (by kernel_rfl) (by rfl) ?_ ?_ ?_ ?_
                          rotate_left
                          · first | (go_simp; rfl) | (go_simp; exact ⟨rfl, trivial⟩)
                          rotate_left
                          · simp only [Act.put, List.setIfInBounds_toArray, List.set_cons_zero, List.set_cons_succ, i64_w, i32_w]
                            rfl
                          · skip
                            refine pure_ (i := 18) (N := some 67) (v := ?_) (a' := ?_) #[true, true, true, true, true, true, true, true, true, true, true, true, true, true, true, true, true, true, true, true, true, true, true, true, true, false, true, false, false, false] rfl rfl (any_of HT_.out (by kernel_rfl)) (fun _ _ _ h => h) (Or.inl ⟨by rfl, ?_⟩) ?_ ?_
                            rotate_left
                            · intro w'
                              go_simp
                              with_reducible rfl
                            rotate_left
                            · simp only [Act.put, List.setIfInBounds_toArray, List.set_cons_zero, List.set_cons_succ, i64_w, i32_w]
                              rfl
                            refine pure_ (i := 25) (N := some 74) (v := ?_) (a' := ?_) #[true, true, true, true, true, true, true, true, true, true, true, true, true, true, true, true, true, true, true, true, true, true, true, true, true, true, true, false, false, false] rfl rfl (any_of HT_.out (by kernel_rfl)) (fun _ _ _ h => h) (Or.inl ⟨by rfl, ?_⟩) ?_ ?_
                            rotate_left
                            · intro w'
                              go_simp
                              with_reducible rfl
                            rotate_left
                            · simp only [Act.put, List.setIfInBounds_toArray, List.set_cons_zero, List.set_cons_succ, i64_w, i32_w]
                              rfl
                            refine wpAnyLast_ready (rs := [27]) (rdy_ HT_.out (by kernel_rfl)) (by simp) ?_
                            refine storeA_ (i := 27) (w1 := ?_) #[true, true, true, true, true, true, true, true, true, true, true, true, true, true, true, true, true, true, true, true, true, true, true, true, true, true, true, true, false, false] rfl rfl (by kernel_rfl) (by decide) (by rfl) ?_ ?_ ?_
                            rotate_left 1
                            · go_simp
                              rfl
                            · skip
                              exact norm_ (by first | (simp only [putsB_, Act.put, List.setIfInBounds_toArray, List.set_cons_zero, List.set_cons_succ]; done) | (simp only [putsB_, Act.put, List.setIfInBounds_toArray, List.set_cons_zero, List.set_cons_succ]; rfl)) hCont
                            · skip
                              exact AllReadyL.nil
                          · skip
                            refine storeA_ (i := 27) (w1 := ?_) #[true, true, true, true, true, true, true, true, true, true, true, true, true, true, true, true, true, false, false, true, true, true, true, true, true, false, true, true, false, false] rfl rfl (by kernel_rfl) (by decide) (by rfl) ?_ ?_ ?_
                            rotate_left 1
                            · go_simp
                              rfl
                            · skip
                              refine wpAnyLast_ready (rs := [17]) (rdy_ HT_.out (by kernel_rfl)) (by simp) ?_
                              refine sameA_ (i := 17) (N := some 66) (v := ?_) (a' := ?_) #[true, true, true, true, true, true, true, true, true, true, true, true, true, true, true, true, true, true, false, true, true, true, true, true, true, false, true, true, false, false] rfl rfl (by kernel_rfl) (by rfl) ?_ ?_ ?_ ?_
                              rotate_left
                              · first | (go_simp; rfl) | (go_simp; exact ⟨rfl, trivial⟩)
                              rotate_left
                              · simp only [Act.put, List.setIfInBounds_toArray, List.set_cons_zero, List.set_cons_succ, i64_w, i32_w]
                                rfl
                              · skip
                                refine pure_ (i := 18) (N := some 67) (v := ?_) (a' := ?_) #[true, true, true, true, true, true, true, true, true, true, true, true, true, true, true, true, true, true, true, true, true, true, true, true, true, false, true, true, false, false] rfl rfl (any_of HT_.out (by kernel_rfl)) (fun _ _ _ h => h) (Or.inl ⟨by rfl, ?_⟩) ?_ ?_
                                rotate_left
                                · intro w'
                                  go_simp
                                  with_reducible rfl
                                rotate_left
                                · simp only [Act.put, List.setIfInBounds_toArray, List.set_cons_zero, List.set_cons_succ, i64_w, i32_w]
                                  rfl
                                refine pure_ (i := 25) (N := some 74) (v := ?_) (a' := ?_) #[true, true, true, true, true, true, true, true, true, true, true, true, true, true, true, true, true, true, true, true, true, true, true, true, true, true, true, true, false, false] rfl rfl (any_of HT_.out (by kernel_rfl)) (fun _ _ _ h => h) (Or.inl ⟨by rfl, ?_⟩) ?_ ?_
                                rotate_left
                                · intro w'
                                  go_simp
                                  with_reducible rfl
                                rotate_left
                                · simp only [Act.put, List.setIfInBounds_toArray, List.set_cons_zero, List.set_cons_succ, i64_w, i32_w]
                                  rfl
                                exact norm_ (by first | (simp only [putsB_, Act.put, List.setIfInBounds_toArray, List.set_cons_zero, List.set_cons_succ]; done) | (simp only [putsB_, Act.put, List.setIfInBounds_toArray, List.set_cons_zero, List.set_cons_succ]; rfl)) hCont
                              · skip
                                exact AllReadyL.nil
                            · skip
                              exact AllReadyL.nil
                        · skip
                          refine storeA_ (i := 27) (w1 := ?_) #[true, true, true, true, true, true, true, true, true, true, true, true, true, true, true, true, true, false, false, true, true, true, true, false, false, false, true, true, false, false] rfl rfl (by kernel_rfl) (by decide) (by rfl) ?_ ?_ ?_
                          rotate_left 1
                          · go_simp
                            rfl
                          · skip
                            refine wpAnyLast_ready (rs := [17, 23]) (rdy_ HT_.out (by kernel_rfl)) (by simp) ?_
                            refine sameA_ (i := 17) (N := some 66) (v := ?_) (a' := ?_) #[true, true, true, true, true, true, true, true, true, true, true, true, true, true, true, true, true, true, false, true, true, true, true, false, false, false, true, true, false, false] rfl rfl (by kernel_rfl) (by rfl) ?_ ?_ ?_ ?_
                            rotate_left
                            · first | (go_simp; rfl) | (go_simp; exact ⟨rfl, trivial⟩)
                            rotate_left
                            · simp only [Act.put, List.setIfInBounds_toArray, List.set_cons_zero, List.set_cons_succ, i64_w, i32_w]
                              rfl
                            · skip
                              refine pure_ (i := 18) (N := some 67) (v := ?_) (a' := ?_) #[true, true, true, true, true, true, true, true, true, true, true, true, true, true, true, true, true, true, true, true, true, true, true, false, false, false, true, true, false, false] rfl rfl (any_of HT_.out (by kernel_rfl)) (fun _ _ _ h => h) (Or.inl ⟨by rfl, ?_⟩) ?_ ?_
                              rotate_left
                              · intro w'
                                go_simp
                                with_reducible rfl
                              rotate_left
                              · simp only [Act.put, List.setIfInBounds_toArray, List.set_cons_zero, List.set_cons_succ, i64_w, i32_w]
                                rfl
                              refine wpAnyLast_ready (rs := [23]) (rdy_ HT_.out (by kernel_rfl)) (by simp) ?_
                              refine sameA_ (i := 23) (N := some 72) (v := ?_) (a' := ?_) #[true, true, true, true, true, true, true, true, true, true, true, true, true, true, true, true, true, true, true, true, true, true, true, true, false, false, true, true, false, false] rfl rfl (by kernel_rfl) (by rfl) ?_ ?_ ?_ ?_
                              rotate_left
                              · first | (go_simp; rfl) | (go_simp; exact ⟨rfl, trivial⟩)
                              rotate_left
                              · simp only [Act.put, List.setIfInBounds_toArray, List.set_cons_zero, List.set_cons_succ, i64_w, i32_w]
                                rfl
                              · skip
                                refine pure_ (i := 24) (N := some 73) (v := ?_) (a' := ?_) #[true, true, true, true, true, true, true, true, true, true, true, true, true, true, true, true, true, true, true, true, true, true, true, true, true, false, true, true, false, false] rfl rfl (any_of HT_.out (by kernel_rfl)) (fun _ _ _ h => h) (Or.inl ⟨by rfl, ?_⟩) ?_ ?_
                                rotate_left
                                · intro w'
                                  go_simp
                                  with_reducible rfl
                                rotate_left
                                · simp only [Act.put, List.setIfInBounds_toArray, List.set_cons_zero, List.set_cons_succ, i64_w, i32_w]
                                  rfl
                                refine pure_ (i := 25) (N := some 74) (v := ?_) (a' := ?_) #[true, true, true, true, true, true, true, true, true, true, true, true, true, true, true, true, true, true, true, true, true, true, true, true, true, true, true, true, false, false] rfl rfl (any_of HT_.out (by kernel_rfl)) (fun _ _ _ h => h) (Or.inl ⟨by rfl, ?_⟩) ?_ ?_
                                rotate_left
                                · intro w'
                                  go_simp
                                  with_reducible rfl
                                rotate_left
                                · simp only [Act.put, List.setIfInBounds_toArray, List.set_cons_zero, List.set_cons_succ, i64_w, i32_w]
                                  rfl
                                exact norm_ (by first | (simp only [putsB_, Act.put, List.setIfInBounds_toArray, List.set_cons_zero, List.set_cons_succ]; done) | (simp only [putsB_, Act.put, List.setIfInBounds_toArray, List.set_cons_zero, List.set_cons_succ]; rfl)) hCont
                              · skip
                                exact AllReadyL.nil
                            · skip
                              refine sameA_ (i := 23) (N := some 72) (v := ?_) (a' := ?_) #[true, true, true, true, true, true, true, true, true, true, true, true, true, true, true, true, true, false, false, true, true, true, true, true, false, false, true, true, false, false] rfl rfl (by kernel_rfl) (by rfl) ?_ ?_ ?_ ?_
                              rotate_left
                              · first | (go_simp; rfl) | (go_simp; exact ⟨rfl, trivial⟩)
                              rotate_left
                              · simp only [Act.put, List.setIfInBounds_toArray, List.set_cons_zero, List.set_cons_succ, i64_w, i32_w]
                                rfl
                              · skip
                                refine pure_ (i := 24) (N := some 73) (v := ?_) (a' := ?_) #[true, true, true, true, true, true, true, true, true, true, true, true, true, true, true, true, true, false, false, true, true, true, true, true, true, false, true, true, false, false] rfl rfl (any_of HT_.out (by kernel_rfl)) (fun _ _ _ h => h) (Or.inl ⟨by rfl, ?_⟩) ?_ ?_
                                rotate_left
                                · intro w'
                                  go_simp
                                  with_reducible rfl
                                rotate_left
                                · simp only [Act.put, List.setIfInBounds_toArray, List.set_cons_zero, List.set_cons_succ, i64_w, i32_w]
                                  rfl
                                refine wpAnyLast_ready (rs := [17]) (rdy_ HT_.out (by kernel_rfl)) (by simp) ?_
                                refine sameA_ (i := 17) (N := some 66) (v := ?_) (a' := ?_) #[true, true, true, true, true, true, true, true, true, true, true, true, true, true, true, true, true, true, false, true, true, true, true, true, true, false, true, true, false, false] rfl rfl (by kernel_rfl) (by rfl) ?_ ?_ ?_ ?_
                                rotate_left
                                · first | (go_simp; rfl) | (go_simp; exact ⟨rfl, trivial⟩)
                                rotate_left
                                · simp only [Act.put, List.setIfInBounds_toArray, List.set_cons_zero, List.set_cons_succ, i64_w, i32_w]
                                  rfl
                                · skip
                                  refine pure_ (i := 18) (N := some 67) (v := ?_) (a' := ?_) #[true, true, true, true, true, true, true, true, true, true, true, true, true, true, true, true, true, true, true, true, true, true, true, true, true, false, true, true, false, false] rfl rfl (any_of HT_.out (by kernel_rfl)) (fun _ _ _ h => h) (Or.inl ⟨by rfl, ?_⟩) ?_ ?_
                                  rotate_left
                                  · intro w'
                                    go_simp
                                    with_reducible rfl
                                  rotate_left
                                  · simp only [Act.put, List.setIfInBounds_toArray, List.set_cons_zero, List.set_cons_succ, i64_w, i32_w]
                                    rfl
                                  refine pure_ (i := 25) (N := some 74) (v := ?_) (a' := ?_) #[true, true, true, true, true, true, true, true, true, true, true, true, true, true, true, true, true, true, true, true, true, true, true, true, true, true, true, true, false, false] rfl rfl (any_of HT_.out (by kernel_rfl)) (fun _ _ _ h => h) (Or.inl ⟨by rfl, ?_⟩) ?_ ?_
                                  rotate_left
                                  · intro w'
                                    go_simp
                                    with_reducible rfl
                                  rotate_left
                                  · simp only [Act.put, List.setIfInBounds_toArray, List.set_cons_zero, List.set_cons_succ, i64_w, i32_w]
                                    rfl
                                  exact norm_ (by first | (simp only [putsB_, Act.put, List.setIfInBounds_toArray, List.set_cons_zero, List.set_cons_succ]; done) | (simp only [putsB_, Act.put, List.setIfInBounds_toArray, List.set_cons_zero, List.set_cons_succ]; rfl)) hCont
                                · skip
                                  exact AllReadyL.nil
                              · skip
                                exact AllReadyL.nil
                          · skip
                            exact AllReadyL.nil
                    refine norm_ (a' := ?_) ?_ ?_
                    rotate_left
                    · simp only [putsB_, Act.put, List.setIfInBounds_toArray, List.set_cons_zero, List.set_cons_succ]
                      rfl
                    refine pure_ (i := 28) (N := some 76) (v := ?_) (a' := ?_) #[true, true, true, true, true, true, true, true, true, true, true, true, true, true, true, true, true, true, true, true, true, true, true, true, true, true, true, true, true, false] rfl rfl (any_of HT_.out (by kernel_rfl)) (fun _ _ _ h => h) (Or.inl ⟨by rfl, ?_⟩) ?_ ?_
                    rotate_left
                    · intro w'
                      go_simp
                      with_reducible rfl
                    rotate_left
                    · simp only [Act.put, List.setIfInBounds_toArray, List.set_cons_zero, List.set_cons_succ, i64_w, i32_w]
                      rfl
                    refine wpAnyLast_ready (rs := [29]) (rdy_ HT_.out (by kernel_rfl)) (by simp) ?_
                    have hs33 : w30.cell? ⟨gb203, 2, none⟩ = some (.int .i64 ((rd_T27 l0 x45_2).f1.f0)) := (blk_cell BK203.out 2).trans rfl
                    have hfs33 := blk_frozen BK203.out 2
                    have hns33_0 := NB201_203.out
                    have hms33_0 := NB203_201.out
                    have hs34 : w30.cell? ⟨gb203, 3, none⟩ = some (.int .i64 ((rd_T27 l0 x45_2).f1.f1)) := (blk_cell BK203.out 3).trans rfl
                    have hfs34 := blk_frozen BK203.out 3
                    have hns34_0 := NB201_203.out
                    have hms34_0 := NB203_201.out
                    refine storeA_ (i := 29) (w1 := ?_) #[true, true, true, true, true, true, true, true, true, true, true, true, true, true, true, true, true, true, true, true, true, true, true, true, true, true, true, true, true, true] rfl rfl (by kernel_rfl) (by decide) (by rfl) ?_ ?_ AllReadyL.nil
                    rotate_left 1
                    · go_simp
                      rfl
                    refine done_ (done_of HT_.out (by kernel_rfl)) ?_
                    have hcz35_0 : w30.cell? ⟨gb203, 0, none⟩ = some (.int .i64 ((rd_T27 l0 x45_2).f0.f0)) := (blk_cell BK203.out 0).trans rfl
                    have hcz35_1 : w30.cell? ⟨gb203, 1, none⟩ = some (.int .i64 ((rd_T27 l0 x45_2).f0.f1)) := (blk_cell BK203.out 1).trans rfl
                    have hcz35_2 : w30.cell? ⟨gb203, 2, none⟩ = some (.int .i64 ((rd_T27 l0 x45_2).f1.f0)) := (blk_cell BK203.out 2).trans rfl
                    have hcz35_3 : w30.cell? ⟨gb203, 3, none⟩ = some (.int .i64 ((rd_T27 l0 x45_2).f1.f1)) := (blk_cell BK203.out 3).trans rfl
                    have hcz35_4 : w30.cell? ⟨gb203, 4, none⟩ = some (.int .i64 ((rd_T27 l0 x45_2).f2)) := (blk_cell BK203.out 4).trans rfl
                    have hcz35_5 : w30.cell? ⟨gb203, 5, none⟩ = some (.int .i64 ((rd_T27 l0 x45_2).f3)) := (blk_cell BK203.out 5).trans rfl
                    have hfz35_0 := blk_frozen BK203.out 0
                    have hfz35_1 := blk_frozen BK203.out 1
                    have hfz35_2 := blk_frozen BK203.out 2
                    have hfz35_3 := blk_frozen BK203.out 3
                    have hfz35_4 := blk_frozen BK203.out 4
                    have hfz35_5 := blk_frozen BK203.out 5
                    try go_wp2_with (first | ((with_reducible refine gate_builtin (b := .append) (xs := #[.tmp 77, .tmp 79]) rfl ?_); at_builtin; refine Kd.R_append k27 (w0 := w) w.heap.size rfl (.tmp 77) (.tmp 79) 22 27 (.agg #[(.int .i64 0), (.int .i64 0), (.int .i64 0), (.int .i64 0), (.int .i64 0), (.int .i64 0)]) 48 rfl Try.underlying22 info27 rfl (by decide) (by omega) u14 x14_2 (⟨(⟨wrap64 (((rd_T27 l0 x45_2).f0.f0) + (wrap64 (2 * (wrap64 (a4))))), wrap64 (((rd_T27 l0 x45_2).f0.f1) + (wrap64 (2 * (wrap64 (a5)))))⟩ : S25), (⟨wrap64 (((rd_T27 l0 x45_2).f1.f0) + (wrap64 (2 * (wrap64 (a4))))), wrap64 (((rd_T27 l0 x45_2).f1.f1) + (wrap64 (2 * (wrap64 (a5)))))⟩ : S25), (rd_T27 l0 x45_2).f2, (rd_T27 l0 x45_2).f3⟩ : S27) [.int .i64 (wrap64 (((rd_T27 l0 x45_2).f0.f0) + (wrap64 (2 * (wrap64 (a4)))))), .int .i64 (wrap64 (((rd_T27 l0 x45_2).f0.f1) + (wrap64 (2 * (wrap64 (a5)))))), .int .i64 (wrap64 (((rd_T27 l0 x45_2).f1.f0) + (wrap64 (2 * (wrap64 (a4)))))), .int .i64 (wrap64 (((rd_T27 l0 x45_2).f1.f1) + (wrap64 (2 * (wrap64 (a5)))))), .int .i64 ((rd_T27 l0 x45_2).f2), .int .i64 ((rd_T27 l0 x45_2).f3)] (fun k_ => k_ ≠ gb203) (fun _ => False) rfl (by first | (go_simp; done) | (go_simp; rfl)) ?aP (fun _ hk => hk.elim) ?aF ?aO ?aB ?aS ?aL ?_; (case aP => exact k27_mkM _ _ _ (⟨(⟨wrap64 (((rd_T27 l0 x45_2).f0.f0) + (wrap64 (2 * (wrap64 (a4))))), wrap64 (((rd_T27 l0 x45_2).f0.f1) + (wrap64 (2 * (wrap64 (a5)))))⟩ : S25), (⟨wrap64 (((rd_T27 l0 x45_2).f1.f0) + (wrap64 (2 * (wrap64 (a4))))), wrap64 (((rd_T27 l0 x45_2).f1.f1) + (wrap64 (2 * (wrap64 (a5)))))⟩ : S25), (rd_T27 l0 x45_2).f2, (rd_T27 l0 x45_2).f3⟩ : S27)); (case aB => exact (by repeat (first | (with_reducible first | exact HB.out | apply below_alloc | apply pw_below_drewN | apply below_drew1 | refine below_set ?_ GE201.out | refine below_set ?_ GE203.out) | exact HB.out))); (case aF => exact (fun k_ hk => freshB_ (g := gb203) (o := .cells #[.int .i64 (wrap64 (((rd_T27 l0 x45_2).f0.f0) + (wrap64 (2 * (wrap64 (a4)))))), .int .i64 (wrap64 (((rd_T27 l0 x45_2).f0.f1) + (wrap64 (2 * (wrap64 (a5)))))), .int .i64 (wrap64 (((rd_T27 l0 x45_2).f1.f0) + (wrap64 (2 * (wrap64 (a4)))))), .int .i64 (wrap64 (((rd_T27 l0 x45_2).f1.f1) + (wrap64 (2 * (wrap64 (a5)))))), .int .i64 ((rd_T27 l0 x45_2).f2), .int .i64 ((rd_T27 l0 x45_2).f3)] 27 (0, 0)) (by (with_reducible repeat (first | refine blk_drewN ?_ _ | refine blk_drew ?_ | refine blk_alloc ?_ _)); refine blk_put (cs := #[.int .i64 (wrap64 (((rd_T27 l0 x45_2).f0.f0) + (wrap64 (2 * (wrap64 (a4)))))), .int .i64 (wrap64 (((rd_T27 l0 x45_2).f0.f1) + (wrap64 (2 * (wrap64 (a5)))))), .int .i64 (wrap64 (((rd_T27 l0 x45_2).f1.f0) + (wrap64 (2 * (wrap64 (a4)))))), .int .i64 ((rd_T27 l0 x45_2).f1.f1), .int .i64 ((rd_T27 l0 x45_2).f2), .int .i64 ((rd_T27 l0 x45_2).f3)]) ?_ 3 _ rfl; (with_reducible repeat (first | refine blk_drewN ?_ _ | refine blk_drew ?_ | refine blk_alloc ?_ _)); refine blk_put (cs := #[.int .i64 (wrap64 (((rd_T27 l0 x45_2).f0.f0) + (wrap64 (2 * (wrap64 (a4)))))), .int .i64 (wrap64 (((rd_T27 l0 x45_2).f0.f1) + (wrap64 (2 * (wrap64 (a5)))))), .int .i64 ((rd_T27 l0 x45_2).f1.f0), .int .i64 ((rd_T27 l0 x45_2).f1.f1), .int .i64 ((rd_T27 l0 x45_2).f2), .int .i64 ((rd_T27 l0 x45_2).f3)]) ?_ 2 _ rfl; (with_reducible repeat (first | refine blk_drewN ?_ _ | refine blk_drew ?_ | refine blk_alloc ?_ _)); refine blk_put (cs := #[.int .i64 (wrap64 (((rd_T27 l0 x45_2).f0.f0) + (wrap64 (2 * (wrap64 (a4)))))), .int .i64 ((rd_T27 l0 x45_2).f0.f1), .int .i64 ((rd_T27 l0 x45_2).f1.f0), .int .i64 ((rd_T27 l0 x45_2).f1.f1), .int .i64 ((rd_T27 l0 x45_2).f2), .int .i64 ((rd_T27 l0 x45_2).f3)]) ?_ 1 _ rfl; (with_reducible repeat (first | refine blk_drewN ?_ _ | refine blk_drew ?_ | refine blk_alloc ?_ _)); refine blk_put (cs := #[.int .i64 ((rd_T27 l0 x45_2).f0.f0), .int .i64 ((rd_T27 l0 x45_2).f0.f1), .int .i64 ((rd_T27 l0 x45_2).f1.f0), .int .i64 ((rd_T27 l0 x45_2).f1.f1), .int .i64 ((rd_T27 l0 x45_2).f2), .int .i64 ((rd_T27 l0 x45_2).f3)]) ?_ 0 _ rfl; (with_reducible repeat (first | refine blk_drewN ?_ _ | refine blk_drew ?_ | refine blk_alloc ?_ _)); exact BK203.out) k_ hk)); (case aO => exact (by (with_reducible repeat (first | apply Kd.R_alloc | apply Kd.R_drewN | apply Kd.R_drew)); exact Kd.R_mono (Kd.R_far (p := ⟨gb203, 3, none⟩) (Kd.R_far (p := ⟨gb203, 2, none⟩) (Kd.R_far (p := ⟨gb203, 1, none⟩) (Kd.R_far (p := ⟨gb203, 0, none⟩) (Kd.R_mono HO_14.out (fun k_ hk => (⟨hk, hk⟩ : _ ∧ k_ ≠ gb203))) (fun _ hk => hk.2) (.int .i64 (wrap64 (((rd_T27 l0 x45_2).f0.f0) + (wrap64 (2 * (wrap64 (a4)))))))) (fun _ hk => hk.2) (.int .i64 (wrap64 (((rd_T27 l0 x45_2).f0.f1) + (wrap64 (2 * (wrap64 (a5)))))))) (fun _ hk => hk.2) (.int .i64 (wrap64 (((rd_T27 l0 x45_2).f1.f0) + (wrap64 (2 * (wrap64 (a4)))))))) (fun _ hk => hk.2) (.int .i64 (wrap64 (((rd_T27 l0 x45_2).f1.f1) + (wrap64 (2 * (wrap64 (a5)))))))) (fun _ hk => hk.1))); (case aS => exact (below_size (by repeat (first | (with_reducible first | exact HB.out | apply below_alloc | apply pw_below_drewN | apply below_drew1 | refine below_set ?_ GE201.out | refine below_set ?_ GE203.out) | exact HB.out)))); (case aL => have := LMc25.out; omega); intro v205 w36 ho hb hg hat; rw [← Ny204.out] at ho; have n0_ := Aside0.mk (blk_grown (g := gb201) (o := .cells #[.int .i64 (wrap64 (2 * (wrap64 (a4)))), .int .i64 (wrap64 (2 * (wrap64 (a5))))] 25 (0, 0)) (by (with_reducible repeat (first | refine blk_drewN ?_ _ | refine blk_drew ?_ | refine blk_alloc ?_ _)); refine blk_far ?_ NB201_203.out _; (with_reducible repeat (first | refine blk_drewN ?_ _ | refine blk_drew ?_ | refine blk_alloc ?_ _)); refine blk_far ?_ NB201_203.out _; (with_reducible repeat (first | refine blk_drewN ?_ _ | refine blk_drew ?_ | refine blk_alloc ?_ _)); refine blk_far ?_ NB201_203.out _; (with_reducible repeat (first | refine blk_drewN ?_ _ | refine blk_drew ?_ | refine blk_alloc ?_ _)); refine blk_far ?_ NB201_203.out _; (with_reducible repeat (first | refine blk_drewN ?_ _ | refine blk_drew ?_ | refine blk_alloc ?_ _)); exact BK201.out) hg (Kd.R_ne HO_14.out BK201.out (by decide))); have n1_ := Aside0.mk (blk_grown (g := gb203) (o := .cells #[.int .i64 (wrap64 (((rd_T27 l0 x45_2).f0.f0) + (wrap64 (2 * (wrap64 (a4)))))), .int .i64 (wrap64 (((rd_T27 l0 x45_2).f0.f1) + (wrap64 (2 * (wrap64 (a5)))))), .int .i64 (wrap64 (((rd_T27 l0 x45_2).f1.f0) + (wrap64 (2 * (wrap64 (a4)))))), .int .i64 (wrap64 (((rd_T27 l0 x45_2).f1.f1) + (wrap64 (2 * (wrap64 (a5)))))), .int .i64 ((rd_T27 l0 x45_2).f2), .int .i64 ((rd_T27 l0 x45_2).f3)] 27 (0, 0)) (by (with_reducible repeat (first | refine blk_drewN ?_ _ | refine blk_drew ?_ | refine blk_alloc ?_ _)); refine blk_put (cs := #[.int .i64 (wrap64 (((rd_T27 l0 x45_2).f0.f0) + (wrap64 (2 * (wrap64 (a4)))))), .int .i64 (wrap64 (((rd_T27 l0 x45_2).f0.f1) + (wrap64 (2 * (wrap64 (a5)))))), .int .i64 (wrap64 (((rd_T27 l0 x45_2).f1.f0) + (wrap64 (2 * (wrap64 (a4)))))), .int .i64 ((rd_T27 l0 x45_2).f1.f1), .int .i64 ((rd_T27 l0 x45_2).f2), .int .i64 ((rd_T27 l0 x45_2).f3)]) ?_ 3 _ rfl; (with_reducible repeat (first | refine blk_drewN ?_ _ | refine blk_drew ?_ | refine blk_alloc ?_ _)); refine blk_put (cs := #[.int .i64 (wrap64 (((rd_T27 l0 x45_2).f0.f0) + (wrap64 (2 * (wrap64 (a4)))))), .int .i64 (wrap64 (((rd_T27 l0 x45_2).f0.f1) + (wrap64 (2 * (wrap64 (a5)))))), .int .i64 ((rd_T27 l0 x45_2).f1.f0), .int .i64 ((rd_T27 l0 x45_2).f1.f1), .int .i64 ((rd_T27 l0 x45_2).f2), .int .i64 ((rd_T27 l0 x45_2).f3)]) ?_ 2 _ rfl; (with_reducible repeat (first | refine blk_drewN ?_ _ | refine blk_drew ?_ | refine blk_alloc ?_ _)); refine blk_put (cs := #[.int .i64 (wrap64 (((rd_T27 l0 x45_2).f0.f0) + (wrap64 (2 * (wrap64 (a4)))))), .int .i64 ((rd_T27 l0 x45_2).f0.f1), .int .i64 ((rd_T27 l0 x45_2).f1.f0), .int .i64 ((rd_T27 l0 x45_2).f1.f1), .int .i64 ((rd_T27 l0 x45_2).f2), .int .i64 ((rd_T27 l0 x45_2).f3)]) ?_ 1 _ rfl; (with_reducible repeat (first | refine blk_drewN ?_ _ | refine blk_drew ?_ | refine blk_alloc ?_ _)); refine blk_put (cs := #[.int .i64 ((rd_T27 l0 x45_2).f0.f0), .int .i64 ((rd_T27 l0 x45_2).f0.f1), .int .i64 ((rd_T27 l0 x45_2).f1.f0), .int .i64 ((rd_T27 l0 x45_2).f1.f1), .int .i64 ((rd_T27 l0 x45_2).f2), .int .i64 ((rd_T27 l0 x45_2).f3)]) ?_ 0 _ rfl; (with_reducible repeat (first | refine blk_drewN ?_ _ | refine blk_drew ?_ | refine blk_alloc ?_ _)); exact BK203.out) hg (awayB_ HO_14.out (fun _ hk => hk))); have n2_ := Aside0.mk (hb); have n3_ := Aside0.mk (ho); clear BK201; clear BK203; clear HB; clear HO_14; have BK201 := n0_; have BK203 := n1_; have HB := n2_; have HO206 := n3_; clear n0_ n1_ n2_ n3_; clear ho hb hg hat))
                    go_roundg k2
                    case measure => have := HJ6.out; have := HK2.out; omega
                    case rel => exact ⟨(y204), (wrap64 (x45_2 + 1)), (by first | rfl | (simp; done) | (simp [*]; done)), H', ⟨by have := HJ6.out; have := HK2.out; omega⟩, ⟨by (with_reducible repeat (first | apply Kd.R_alloc | apply Kd.R_drewN | apply Kd.R_drew)); exact Kd.R_mono HO206.out (fun _ hk => trivial)⟩, ⟨by (with_reducible repeat (first | refine blk_drewN ?_ _ | refine blk_drew ?_ | refine blk_alloc ?_ _)); exact BK201.out⟩, ⟨by repeat (first | (with_reducible first | exact HB.out | apply below_alloc | apply pw_below_drewN | apply below_drew1 | refine below_set ?_ GE201.out | refine below_set ?_ GE203.out) | exact HB.out)⟩⟩
                  · rw [if_neg c25] at H
                    exact absurd H (by simp)
                · rw [if_neg c24] at H
                  exact absurd H (by simp)
              · rw [if_neg c23] at H
                exact absurd H (by simp)
            · rw [if_neg c22] at H
              have c22b0 : decide (x45_2 < (l0.length : Int)) = false := decide_eq_false c22
              clear c22
              have HC37 := Aside0.mk H
              clear H
              go_upto_region 11 with (fail)
              go_cut [100] (fun v100 wc => ∃ (kq : Nat) (x100_36 : Bool), v100 = .bool x100_36 ∧ Aside0 (celluloidlaw17_SweepShifts.j2 kq l0 a1 a2 a3 x14_2 x100_36 (wrap64 (2 * (wrap64 (a4)))) (wrap64 (2 * (wrap64 (a5)))) = some r) ∧ Aside0 (kq ≤ k2) ∧ Aside0 (Kd.R k27 27 wc w.heap.size (fun _ => True) u14 x14_2) ∧ Aside0 (wc.heap[gb201]? = some (.cells #[.int .i64 (wrap64 (2 * (wrap64 (a4)))), .int .i64 (wrap64 (2 * (wrap64 (a5))))] 25 (0, 0))) ∧ Aside0 (Below w.heap.size w wc))
              case first =>
                have H := HC37.out
                clear HC37
                replace H := Option.bind_eq_some_iff.mp H
                obtain ⟨t207, A380, H⟩ := H
                replace H : (if t207 = true then ((celluloidlaw17_odd.f (wrap64 (a2 + (wrap64 (2 * (wrap64 (a4))))))).bind fun t208 => (if t208 = true then ((celluloidlaw17_odd.f (wrap64 (a3 + (wrap64 (2 * (wrap64 (a5))))))).bind fun t209 => (celluloidlaw17_SweepShifts.j2 k2 l0 a1 a2 a3 x14_2 (!t209) (wrap64 (2 * (wrap64 (a4)))) (wrap64 (2 * (wrap64 (a5)))))) else (celluloidlaw17_SweepShifts.j2 k2 l0 a1 a2 a3 x14_2 true (wrap64 (2 * (wrap64 (a4)))) (wrap64 (2 * (wrap64 (a5))))))) else (celluloidlaw17_SweepShifts.j2 k2 l0 a1 a2 a3 x14_2 true (wrap64 (2 * (wrap64 (a4)))) (wrap64 (2 * (wrap64 (a5)))))) = some r := H
                have A38 := Aside0.mk A380
                clear A380
                by_cases c39 : t207 = true
                · subst c39
                  have H1 : ((celluloidlaw17_odd.f (wrap64 (a2 + (wrap64 (2 * (wrap64 (a4))))))).bind fun t208 => (if t208 = true then ((celluloidlaw17_odd.f (wrap64 (a3 + (wrap64 (2 * (wrap64 (a5))))))).bind fun t209 => (celluloidlaw17_SweepShifts.j2 k2 l0 a1 a2 a3 x14_2 (!t209) (wrap64 (2 * (wrap64 (a4)))) (wrap64 (2 * (wrap64 (a5)))))) else (celluloidlaw17_SweepShifts.j2 k2 l0 a1 a2 a3 x14_2 true (wrap64 (2 * (wrap64 (a4)))) (wrap64 (2 * (wrap64 (a5))))))) = some r := by rw [if_pos rfl] at H; exact H
                  clear H
                  have H := H1
                  clear H1
                  replace H := Option.bind_eq_some_iff.mp H
                  obtain ⟨t208, A400, H⟩ := H
                  replace H : (if t208 = true then ((celluloidlaw17_odd.f (wrap64 (a3 + (wrap64 (2 * (wrap64 (a5))))))).bind fun t209 => (celluloidlaw17_SweepShifts.j2 k2 l0 a1 a2 a3 x14_2 (!t209) (wrap64 (2 * (wrap64 (a4)))) (wrap64 (2 * (wrap64 (a5)))))) else (celluloidlaw17_SweepShifts.j2 k2 l0 a1 a2 a3 x14_2 true (wrap64 (2 * (wrap64 (a4)))) (wrap64 (2 * (wrap64 (a5)))))) = some r := H
                  have A40 := Aside0.mk A400
                  clear A400
                  by_cases c41 : t208 = true
                  · subst c41
                    have H1 : ((celluloidlaw17_odd.f (wrap64 (a3 + (wrap64 (2 * (wrap64 (a5))))))).bind fun t209 => (celluloidlaw17_SweepShifts.j2 k2 l0 a1 a2 a3 x14_2 (!t209) (wrap64 (2 * (wrap64 (a4)))) (wrap64 (2 * (wrap64 (a5)))))) = some r := by rw [if_pos rfl] at H; exact H
                    clear H
                    have H := H1
                    clear H1
                    replace H := Option.bind_eq_some_iff.mp H
                    obtain ⟨t209, A420, H⟩ := H
                    replace H : (celluloidlaw17_SweepShifts.j2 k2 l0 a1 a2 a3 x14_2 (!t209) (wrap64 (2 * (wrap64 (a4)))) (wrap64 (2 * (wrap64 (a5))))) = some r := H
                    have A42 := Aside0.mk A420
                    clear A420
                    have H' := Aside0.mk H
                    clear H
                    obtain ⟨Ao43, co43, eo43⟩ := Kd.R_slice HO_14.out
                    subst eo43
                    go_wp2_with (first | ((with_reducible refine gate_callee (f := 18) rfl ?_); refine goesL_ (some 83) rfl rfl Try.func18 (by kernel_rfl) rfl #[.slice Ao43 x14_2.length co43] rfl (by (try simp only [List.map_toArray, List.map_cons, List.map_nil]); first | done | rfl | (simp only [List.length_drop, List.length_take]; rfl)) ?_; (with_reducible refine (celluloidlaw17_right.calls k2 _ _ x14_2 true _ ?side1 ?side2 A38.out).mono ?_); (case side1 => repeat (first | exact (Kd.R_reads' HO_14.out).2.2 | (with_reducible refine Kd.C_alloc ?_ _) | (with_reducible refine Kd.C_drewN ?_ _) | (with_reducible refine Kd.C_drew ?_))); (case side2 => exact (Kd.R_reads' HO_14.out).2.1); rintro e w44 ⟨rfl, hb⟩; refine ⟨_, rfl, ?_⟩; have n0_ := Aside0.mk (Kd.R_below (by (with_reducible repeat (first | apply Kd.R_alloc | apply Kd.R_drewN | apply Kd.R_drew)); exact HO_14.out) hb); have n1_ := Aside0.mk (blk_below (g := gb201) (o := .cells #[.int .i64 (wrap64 (2 * (wrap64 (a4)))), .int .i64 (wrap64 (2 * (wrap64 (a5))))] 25 (0, 0)) (by (with_reducible repeat (first | refine blk_drewN ?_ _ | refine blk_drew ?_ | refine blk_alloc ?_ _)); exact BK201.out) hb); have n2_ := Aside0.mk (below_step (by repeat (first | (with_reducible first | exact HB.out | apply below_alloc | apply pw_below_drewN | apply below_drew1 | refine below_set ?_ GE201.out) | exact HB.out)) hb); clear HO_14; clear BK201; clear HB; have HO_14 := n0_; have BK201 := n1_; have HB := n2_; clear n0_ n1_ n2_; (try clear hb); (try clear hb2); (try clear hk); (try clear hi); have hcz45_0 : w44.cell? ⟨gb201, 0, none⟩ = some (.int .i64 (wrap64 (2 * (wrap64 (a4))))) := (blk_cell BK201.out 0).trans rfl; have hcz45_1 : w44.cell? ⟨gb201, 1, none⟩ = some (.int .i64 (wrap64 (2 * (wrap64 (a5))))) := (blk_cell BK201.out 1).trans rfl; have hfz45_0 := blk_frozen BK201.out 0; have hfz45_1 := blk_frozen BK201.out 1) | (go_at_call 13; (with_reducible refine (celluloidlaw17_odd.calls (wrap64 (a2 + (wrap64 (2 * (wrap64 (a4)))))) true _ A40.out).mono ?_); rintro e w' ⟨rfl, ⟨nd, rfl⟩⟩) | (go_at_call 13; (with_reducible refine (celluloidlaw17_odd.calls (wrap64 (a3 + (wrap64 (2 * (wrap64 (a5)))))) t209 _ A42.out).mono ?_); rintro e w' ⟨rfl, ⟨nd, rfl⟩⟩))
                    go_meet
                    case rel => exact ⟨_, (!t209), (by first | rfl | (simp; done) | (simp [*]; done)), H', ⟨by have := HJ6.out; have := HK2.out; first | omega | exact Nat.le_refl _⟩, ⟨by (with_reducible repeat (first | apply Kd.R_alloc | apply Kd.R_drewN | apply Kd.R_drew)); exact HO_14.out⟩, ⟨by (with_reducible repeat (first | refine blk_drewN ?_ _ | refine blk_drew ?_ | refine blk_alloc ?_ _)); exact BK201.out⟩, ⟨by repeat (first | (with_reducible first | exact HB.out | apply below_alloc | apply pw_below_drewN | apply below_drew1 | refine below_set ?_ GE201.out) | exact HB.out)⟩⟩
                  · replace c41 := Bool.eq_false_iff.mpr c41
                    subst c41
                    have H1 : (celluloidlaw17_SweepShifts.j2 k2 l0 a1 a2 a3 x14_2 true (wrap64 (2 * (wrap64 (a4)))) (wrap64 (2 * (wrap64 (a5))))) = some r := by rw [if_neg (show ¬ (false = true) by decide)] at H; exact H
                    clear H
                    have H := H1
                    clear H1
                    have H' := Aside0.mk H
                    clear H
                    obtain ⟨Ao46, co46, eo46⟩ := Kd.R_slice HO_14.out
                    subst eo46
                    go_wp2_with (first | ((with_reducible refine gate_callee (f := 18) rfl ?_); refine goesL_ (some 83) rfl rfl Try.func18 (by kernel_rfl) rfl #[.slice Ao46 x14_2.length co46] rfl (by (try simp only [List.map_toArray, List.map_cons, List.map_nil]); first | done | rfl | (simp only [List.length_drop, List.length_take]; rfl)) ?_; (with_reducible refine (celluloidlaw17_right.calls k2 _ _ x14_2 true _ ?side1 ?side2 A38.out).mono ?_); (case side1 => repeat (first | exact (Kd.R_reads' HO_14.out).2.2 | (with_reducible refine Kd.C_alloc ?_ _) | (with_reducible refine Kd.C_drewN ?_ _) | (with_reducible refine Kd.C_drew ?_))); (case side2 => exact (Kd.R_reads' HO_14.out).2.1); rintro e w47 ⟨rfl, hb⟩; refine ⟨_, rfl, ?_⟩; have n0_ := Aside0.mk (Kd.R_below (by (with_reducible repeat (first | apply Kd.R_alloc | apply Kd.R_drewN | apply Kd.R_drew)); exact HO_14.out) hb); have n1_ := Aside0.mk (blk_below (g := gb201) (o := .cells #[.int .i64 (wrap64 (2 * (wrap64 (a4)))), .int .i64 (wrap64 (2 * (wrap64 (a5))))] 25 (0, 0)) (by (with_reducible repeat (first | refine blk_drewN ?_ _ | refine blk_drew ?_ | refine blk_alloc ?_ _)); exact BK201.out) hb); have n2_ := Aside0.mk (below_step (by repeat (first | (with_reducible first | exact HB.out | apply below_alloc | apply pw_below_drewN | apply below_drew1 | refine below_set ?_ GE201.out) | exact HB.out)) hb); clear HO_14; clear BK201; clear HB; have HO_14 := n0_; have BK201 := n1_; have HB := n2_; clear n0_ n1_ n2_; (try clear hb); (try clear hb2); (try clear hk); (try clear hi); have hcz48_0 : w47.cell? ⟨gb201, 0, none⟩ = some (.int .i64 (wrap64 (2 * (wrap64 (a4))))) := (blk_cell BK201.out 0).trans rfl; have hcz48_1 : w47.cell? ⟨gb201, 1, none⟩ = some (.int .i64 (wrap64 (2 * (wrap64 (a5))))) := (blk_cell BK201.out 1).trans rfl; have hfz48_0 := blk_frozen BK201.out 0; have hfz48_1 := blk_frozen BK201.out 1) | (go_at_call 13; (with_reducible refine (celluloidlaw17_odd.calls (wrap64 (a2 + (wrap64 (2 * (wrap64 (a4)))))) false _ A40.out).mono ?_); rintro e w' ⟨rfl, ⟨nd, rfl⟩⟩))
                    go_meet
                    case rel => exact ⟨_, (true), (by first | rfl | (simp; done) | (simp [*]; done)), H', ⟨by have := HJ6.out; have := HK2.out; first | omega | exact Nat.le_refl _⟩, ⟨by (with_reducible repeat (first | apply Kd.R_alloc | apply Kd.R_drewN | apply Kd.R_drew)); exact HO_14.out⟩, ⟨by (with_reducible repeat (first | refine blk_drewN ?_ _ | refine blk_drew ?_ | refine blk_alloc ?_ _)); exact BK201.out⟩, ⟨by repeat (first | (with_reducible first | exact HB.out | apply below_alloc | apply pw_below_drewN | apply below_drew1 | refine below_set ?_ GE201.out) | exact HB.out)⟩⟩
                · replace c39 := Bool.eq_false_iff.mpr c39
                  subst c39
                  have H1 : (celluloidlaw17_SweepShifts.j2 k2 l0 a1 a2 a3 x14_2 true (wrap64 (2 * (wrap64 (a4)))) (wrap64 (2 * (wrap64 (a5))))) = some r := by rw [if_neg (show ¬ (false = true) by decide)] at H; exact H
                  clear H
                  have H := H1
                  clear H1
                  have H' := Aside0.mk H
                  clear H
                  obtain ⟨Ao49, co49, eo49⟩ := Kd.R_slice HO_14.out
                  subst eo49
                  go_wp2_with (first | ((with_reducible refine gate_callee (f := 18) rfl ?_); refine goesL_ (some 83) rfl rfl Try.func18 (by kernel_rfl) rfl #[.slice Ao49 x14_2.length co49] rfl (by (try simp only [List.map_toArray, List.map_cons, List.map_nil]); first | done | rfl | (simp only [List.length_drop, List.length_take]; rfl)) ?_; (with_reducible refine (celluloidlaw17_right.calls k2 _ _ x14_2 false _ ?side1 ?side2 A38.out).mono ?_); (case side1 => repeat (first | exact (Kd.R_reads' HO_14.out).2.2 | (with_reducible refine Kd.C_alloc ?_ _) | (with_reducible refine Kd.C_drewN ?_ _) | (with_reducible refine Kd.C_drew ?_))); (case side2 => exact (Kd.R_reads' HO_14.out).2.1); rintro e w50 ⟨rfl, hb⟩; refine ⟨_, rfl, ?_⟩; have n0_ := Aside0.mk (Kd.R_below (by (with_reducible repeat (first | apply Kd.R_alloc | apply Kd.R_drewN | apply Kd.R_drew)); exact HO_14.out) hb); have n1_ := Aside0.mk (blk_below (g := gb201) (o := .cells #[.int .i64 (wrap64 (2 * (wrap64 (a4)))), .int .i64 (wrap64 (2 * (wrap64 (a5))))] 25 (0, 0)) (by (with_reducible repeat (first | refine blk_drewN ?_ _ | refine blk_drew ?_ | refine blk_alloc ?_ _)); exact BK201.out) hb); have n2_ := Aside0.mk (below_step (by repeat (first | (with_reducible first | exact HB.out | apply below_alloc | apply pw_below_drewN | apply below_drew1 | refine below_set ?_ GE201.out) | exact HB.out)) hb); clear HO_14; clear BK201; clear HB; have HO_14 := n0_; have BK201 := n1_; have HB := n2_; clear n0_ n1_ n2_; (try clear hb); (try clear hb2); (try clear hk); (try clear hi)))
                  go_meet
                  case rel => exact ⟨_, (true), (by first | rfl | (simp; done) | (simp [*]; done)), H', ⟨by have := HJ6.out; have := HK2.out; first | omega | exact Nat.le_refl _⟩, ⟨by (with_reducible repeat (first | apply Kd.R_alloc | apply Kd.R_drewN | apply Kd.R_drew)); exact HO_14.out⟩, ⟨by (with_reducible repeat (first | refine blk_drewN ?_ _ | refine blk_drew ?_ | refine blk_alloc ?_ _)); exact BK201.out⟩, ⟨by repeat (first | (with_reducible first | exact HB.out | apply below_alloc | apply pw_below_drewN | apply below_drew1 | refine below_set ?_ GE201.out) | exact HB.out)⟩⟩
              case rest =>
                clear HC37
                try clear c1
                try clear c2
                try clear p2
                try clear q2
                try clear hx2
                try clear c3
                try clear c4
                try clear p6
                try clear c8
                try clear c8b0
                try clear c8b1
                try clear c9
                try clear c10
                try clear c12
                try clear c17
                try clear c18
                try clear p20
                try clear q20
                try clear hx20
                try clear c22
                try clear c22b0
                try clear c23
                try clear c23b0
                try clear c24
                try clear c24b0
                try clear c25
                try clear c27
                try clear c39
                try clear c41
                try clear hcz21_0
                try clear hcz21_1
                try clear hcz28_0
                try clear hcz28_1
                try clear hcz28_2
                try clear hcz28_3
                try clear hcz28_4
                try clear hcz28_5
                try clear hcz35_0
                try clear hcz35_1
                try clear hcz35_2
                try clear hcz35_3
                try clear hcz35_4
                try clear hcz35_5
                try clear hcz45_0
                try clear hcz45_1
                try clear hcz48_0
                try clear hcz48_1
                try clear hfz21_0
                try clear hfz21_1
                try clear hfz28_0
                try clear hfz28_1
                try clear hfz28_2
                try clear hfz28_3
                try clear hfz28_4
                try clear hfz28_5
                try clear hfz35_0
                try clear hfz35_1
                try clear hfz35_2
                try clear hfz35_3
                try clear hfz35_4
                try clear hfz35_5
                try clear hfz45_0
                try clear hfz45_1
                try clear hfz48_0
                try clear hfz48_1
                try clear hx202_0
                try clear hx202_1
                try clear hx202_2
                try clear hx202_3
                try clear hx202_4
                try clear hx202_5
                try clear p2
                try clear p202
                try clear p6
                try clear q202
                obtain ⟨kq, x100_36, rfl, HA, HJ36, HO_14, BK201, HB⟩ := hcut
                cases kq with
                | zero => exact absurd HA.out (by simp [celluloidlaw17_SweepShifts.j2])
                | succ kj36 =>
                  have H := HA.out
                  clear HA
                  simp only [celluloidlaw17_SweepShifts.j2] at H
                  by_cases c51 : x100_36 = true
                  · subst c51
                    have H1 : ((celluloidlaw17_awake.f kj36).bind fun t210 => (some t210)) = some r := by rw [if_pos rfl] at H; exact H
                    clear H
                    have H := H1
                    clear H1
                    replace H := Option.bind_eq_some_iff.mp H
                    obtain ⟨t210, A520, H⟩ := H
                    replace H : (some t210) = some r := H
                    have A52 := Aside0.mk A520
                    clear A520
                    obtain rfl := Option.some.inj H
                    go_wp2_with (first | ((with_reducible refine gate_callee (f := 10) rfl ?_); refine goesL_ (some 101) rfl rfl Try.func10 (by kernel_rfl) rfl #[] rfl (by (try simp only [List.map_toArray, List.map_cons, List.map_nil]); first | done | rfl | (simp only [List.length_drop, List.length_take]; rfl)) ?_; (with_reducible refine (celluloidlaw17_awake.calls kj36  t210 _ A52.out).mono ?_); rintro e w53 ⟨rfl, hb⟩; refine ⟨_, rfl, ?_⟩; have n0_ := Aside0.mk (Kd.R_below (by (with_reducible repeat (first | apply Kd.R_alloc | apply Kd.R_drewN | apply Kd.R_drew)); exact HO_14.out) hb); have n1_ := Aside0.mk (blk_below (g := gb201) (o := .cells #[.int .i64 (wrap64 (2 * (wrap64 (a4)))), .int .i64 (wrap64 (2 * (wrap64 (a5))))] 25 (0, 0)) (by (with_reducible repeat (first | refine blk_drewN ?_ _ | refine blk_drew ?_ | refine blk_alloc ?_ _)); exact BK201.out) hb); have n2_ := Aside0.mk (below_step (by repeat (first | (with_reducible first | exact HB.out | apply below_alloc | apply pw_below_drewN | apply below_drew1 | refine below_set ?_ GE201.out) | exact HB.out)) hb); clear HO_14; clear BK201; clear HB; have HO_14 := n0_; have BK201 := n1_; have HB := n2_; clear n0_ n1_ n2_; (try clear hb); (try clear hb2); (try clear hk); (try clear hi)))
                    go_ret
                    exact ⟨by first | rfl | (simp [errW_none, errW_some] <;> rfl) | (simp [*, errW_none, errW_some] <;> rfl), by repeat (first | (with_reducible first | exact HB.out | apply below_alloc | apply pw_below_drewN | apply below_drew1 | refine below_set ?_ GE201.out) | exact HB.out)⟩
                  · replace c51 := Bool.eq_false_iff.mpr c51
                    subst c51
                    have H1 : ((sweep_Wound.f kj36 l0 a1 a2 a3).bind fun t211 => ((sweep_Wound.f kj36 x14_2 a1 (wrap64 (a2 + (wrap64 (2 * (wrap64 (a4)))))) (wrap64 (a3 + (wrap64 (2 * (wrap64 (a5))))))).bind fun t212 => (if t211 = t212 then ((celluloidlaw17_awake.f kj36).bind fun t213 => (some t213)) else (some false)))) = some r := by rw [if_neg (show ¬ (false = true) by decide)] at H; exact H
                    clear H
                    have H := H1
                    clear H1
                    replace H := Option.bind_eq_some_iff.mp H
                    obtain ⟨t211, A540, H⟩ := H
                    replace H : ((sweep_Wound.f kj36 x14_2 a1 (wrap64 (a2 + (wrap64 (2 * (wrap64 (a4)))))) (wrap64 (a3 + (wrap64 (2 * (wrap64 (a5))))))).bind fun t212 => (if t211 = t212 then ((celluloidlaw17_awake.f kj36).bind fun t213 => (some t213)) else (some false))) = some r := H
                    have A54 := Aside0.mk A540
                    clear A540
                    replace H := Option.bind_eq_some_iff.mp H
                    obtain ⟨t212, A550, H⟩ := H
                    replace H : (if t211 = t212 then ((celluloidlaw17_awake.f kj36).bind fun t213 => (some t213)) else (some false)) = some r := H
                    have A55 := Aside0.mk A550
                    clear A550
                    by_cases c56 : t211 = t212
                    · rw [if_pos c56] at H
                      have c56b0 : (t211 == t212) = true := beq_iff_eq.mpr c56
                      have c56b1 : (t211 != t212) = false := bne_eq_false_iff_eq.mpr c56
                      clear c56
                      replace H := Option.bind_eq_some_iff.mp H
                      obtain ⟨t213, A570, H⟩ := H
                      replace H : (some t213) = some r := H
                      have A57 := Aside0.mk A570
                      clear A570
                      obtain rfl := Option.some.inj H
                      try go_wp2
                      have n0_ := Aside0.mk (Kd.R_drew HO_14.out)
                      have n1_ := Aside0.mk (blk_drew BK201.out)
                      have n2_ := Aside0.mk (below_drew1 HB.out)
                      clear HO_14
                      clear BK201
                      clear HB
                      have HO_14 := n0_
                      have BK201 := n1_
                      have HB := n2_
                      clear n0_ n1_ n2_
                      refine start_ (n := 21) (S := fun w' => w'.cell? ⟨gb201, 0, none⟩ = some (.int .i64 (wrap64 (2 * (wrap64 (a4))))) ∧ w'.cell? ⟨gb201, 1, none⟩ = some (.int .i64 (wrap64 (2 * (wrap64 (a5)))))) (ds := []) #[false, false, false, false, false, false, false, false, false, false, false, false, false, false, false, false, false, false, false, false, false] (by kernel_rfl) rfl rfl ⟨(blk_cell BK201.out 0).trans rfl, (blk_cell BK201.out 1).trans rfl⟩ (fun hHeld => ?_); refine with_tabW celluloidlaw17_SweepShifts.tab13 celluloidlaw17_SweepShifts.bits13 (fun HT_ HW_ => ?_)
                      generalize wc.drew = w58 at HO_14 BK201 HB hHeld ⊢
                      refine pure_ (i := 0) (N := some 102) (v := ?_) (a' := ?_) #[true, false, false, false, false, false, false, false, false, false, false, false, false, false, false, false, false, false, false, false, false] rfl rfl (any_of HT_.out (by kernel_rfl)) (fun _ _ _ h => h) (Or.inl ⟨by rfl, ?_⟩) ?_ ?_
                      rotate_left
                      · intro w'
                        go_simp
                        with_reducible rfl
                      rotate_left
                      · simp only [Act.put, List.setIfInBounds_toArray, List.set_cons_zero, List.set_cons_succ, i64_w, i32_w]
                        rfl
                      refine pure_ (i := 1) (N := some 103) (v := ?_) (a' := ?_) #[true, true, false, false, false, false, false, false, false, false, false, false, false, false, false, false, false, false, false, false, false] rfl rfl (any_of HT_.out (by kernel_rfl)) (fun _ _ _ h => h) (Or.inl ⟨by rfl, ?_⟩) ?_ ?_
                      rotate_left
                      · intro w'
                        go_simp
                        with_reducible rfl
                      rotate_left
                      · simp only [Act.put, List.setIfInBounds_toArray, List.set_cons_zero, List.set_cons_succ, i64_w, i32_w]
                        rfl
                      refine pure_ (i := 2) (N := some 104) (v := ?_) (a' := ?_) #[true, true, true, false, false, false, false, false, false, false, false, false, false, false, false, false, false, false, false, false, false] rfl rfl (any_of HT_.out (by kernel_rfl)) (fun _ _ _ h => h) (Or.inl ⟨by rfl, ?_⟩) ?_ ?_
                      rotate_left
                      · intro w'
                        go_simp
                        with_reducible rfl
                      rotate_left
                      · simp only [Act.put, List.setIfInBounds_toArray, List.set_cons_zero, List.set_cons_succ, i64_w, i32_w]
                        rfl
                      refine pure_ (i := 3) (N := some 105) (v := ?_) (a' := ?_) #[true, true, true, true, false, false, false, false, false, false, false, false, false, false, false, false, false, false, false, false, false] rfl rfl (any_of HT_.out (by kernel_rfl)) (fun _ _ _ h => h) (Or.inl ⟨by rfl, ?_⟩) ?_ ?_
                      rotate_left
                      · intro w'
                        go_simp
                        with_reducible rfl
                      rotate_left
                      · simp only [Act.put, List.setIfInBounds_toArray, List.set_cons_zero, List.set_cons_succ, i64_w, i32_w]
                        rfl
                      refine pure_ (i := 5) (N := some 107) (v := ?_) (a' := ?_) #[true, true, true, true, false, true, false, false, false, false, false, false, false, false, false, false, false, false, false, false, false] rfl rfl (any_of HT_.out (by kernel_rfl)) (fun _ _ _ h => h) (Or.inl ⟨by rfl, ?_⟩) ?_ ?_
                      rotate_left
                      · intro w'
                        go_simp
                        with_reducible rfl
                      rotate_left
                      · simp only [Act.put, List.setIfInBounds_toArray, List.set_cons_zero, List.set_cons_succ, i64_w, i32_w]
                        rfl
                      refine pure_ (i := 6) (N := some 108) (v := ?_) (a' := ?_) #[true, true, true, true, false, true, true, false, false, false, false, false, false, false, false, false, false, false, false, false, false] rfl rfl (any_of HT_.out (by kernel_rfl)) (fun _ _ _ h => h) (Or.inl ⟨by rfl, ?_⟩) ?_ ?_
                      rotate_left
                      · intro w'
                        go_simp
                        with_reducible rfl
                      rotate_left
                      · simp only [Act.put, List.setIfInBounds_toArray, List.set_cons_zero, List.set_cons_succ, i64_w, i32_w]
                        rfl
                      refine pure_ (i := 7) (N := some 109) (v := ?_) (a' := ?_) #[true, true, true, true, false, true, true, true, false, false, false, false, false, false, false, false, false, false, false, false, false] rfl rfl (any_of HT_.out (by kernel_rfl)) (fun _ _ _ h => h) (Or.inl ⟨by rfl, ?_⟩) ?_ ?_
                      rotate_left
                      · intro w'
                        go_simp
                        with_reducible rfl
                      rotate_left
                      · simp only [Act.put, List.setIfInBounds_toArray, List.set_cons_zero, List.set_cons_succ, i64_w, i32_w]
                        rfl
                      refine pure_ (i := 8) (N := some 110) (v := ?_) (a' := ?_) #[true, true, true, true, false, true, true, true, true, false, false, false, false, false, false, false, false, false, false, false, false] rfl rfl (any_of HT_.out (by kernel_rfl)) (fun _ _ _ h => h) (Or.inl ⟨by rfl, ?_⟩) ?_ ?_
                      rotate_left
                      · intro w'
                        go_simp
                        with_reducible rfl
                      rotate_left
                      · simp only [Act.put, List.setIfInBounds_toArray, List.set_cons_zero, List.set_cons_succ, i64_w, i32_w]
                        rfl
                      refine pure_ (i := 11) (N := some 113) (v := ?_) (a' := ?_) #[true, true, true, true, false, true, true, true, true, false, false, true, false, false, false, false, false, false, false, false, false] rfl rfl (any_of HT_.out (by kernel_rfl)) (fun _ _ _ h => h) (Or.inl ⟨by rfl, ?_⟩) ?_ ?_
                      rotate_left
                      · intro w'
                        go_simp
                        with_reducible rfl
                      rotate_left
                      · simp only [Act.put, List.setIfInBounds_toArray, List.set_cons_zero, List.set_cons_succ, i64_w, i32_w]
                        rfl
                      refine pure_ (i := 12) (N := some 114) (v := ?_) (a' := ?_) #[true, true, true, true, false, true, true, true, true, false, false, true, true, false, false, false, false, false, false, false, false] rfl rfl (any_of HT_.out (by kernel_rfl)) (fun _ _ _ h => h) (Or.inl ⟨by rfl, ?_⟩) ?_ ?_
                      rotate_left
                      · intro w'
                        go_simp
                        with_reducible rfl
                      rotate_left
                      · simp only [Act.put, List.setIfInBounds_toArray, List.set_cons_zero, List.set_cons_succ, i64_w, i32_w]
                        rfl
                      refine take_ (i := 9) (N := some 111) (v := ?_) (a' := ?_) #[true, true, true, true, false, true, true, true, true, true, false, true, true, false, false, false, false, false, false, false, false] rfl rfl (take_ofW HT_.out HW_.out (by kernel_rfl)) (fun _ _ _ h => h) (Or.inl ⟨by rfl, ?_⟩) hHeld ?_ ?_
                      rotate_left
                      · rintro w' ⟨s0, s1⟩
                        go_simp
                        with_reducible rfl
                      rotate_left
                      · simp only [Act.put, List.setIfInBounds_toArray, List.set_cons_zero, List.set_cons_succ, i64_w, i32_w]
                        rfl
                      refine pure_ (i := 10) (N := some 112) (v := ?_) (a' := ?_) #[true, true, true, true, false, true, true, true, true, true, true, true, true, false, false, false, false, false, false, false, false] rfl rfl (any_of HT_.out (by kernel_rfl)) (fun _ _ _ h => h) (Or.inl ⟨by rfl, ?_⟩) ?_ ?_
                      rotate_left
                      · intro w'
                        go_simp
                        with_reducible rfl
                      rotate_left
                      · simp only [Act.put, List.setIfInBounds_toArray, List.set_cons_zero, List.set_cons_succ, i64_w, i32_w]
                        rfl
                      refine take_ (i := 13) (N := some 115) (v := ?_) (a' := ?_) #[true, true, true, true, false, true, true, true, true, true, true, true, true, true, false, false, false, false, false, false, false] rfl rfl (take_ofW HT_.out HW_.out (by kernel_rfl)) (fun _ _ _ h => h) (Or.inl ⟨by rfl, ?_⟩) hHeld ?_ ?_
                      rotate_left
                      · rintro w' ⟨s0, s1⟩
                        go_simp
                        with_reducible rfl
                      rotate_left
                      · simp only [Act.put, List.setIfInBounds_toArray, List.set_cons_zero, List.set_cons_succ, i64_w, i32_w]
                        rfl
                      refine pure_ (i := 14) (N := some 116) (v := ?_) (a' := ?_) #[true, true, true, true, false, true, true, true, true, true, true, true, true, true, true, false, false, false, false, false, false] rfl rfl (any_of HT_.out (by kernel_rfl)) (fun _ _ _ h => h) (Or.inl ⟨by rfl, ?_⟩) ?_ ?_
                      rotate_left
                      · intro w'
                        go_simp
                        with_reducible rfl
                      rotate_left
                      · simp only [Act.put, List.setIfInBounds_toArray, List.set_cons_zero, List.set_cons_succ, i64_w, i32_w]
                        rfl
                      refine one_ (i := 4) (N := some 106) #[true, true, true, true, true, true, true, true, true, true, true, true, true, true, true, false, false, false, false, false, false] rfl rfl (one_of HT_.out (by kernel_rfl)) (by decide) (fun K hK => ?_)
                      refine goes_ Try.func16 (by kernel_rfl) rfl #[.slice A0 l0.length c0, .int .i64 a1, .int .i64 a2, .int .i64 a3] (by rfl) rfl rfl (by (try simp only [List.map_toArray, List.map_cons, List.map_nil]); first | done | rfl | (simp only [List.length_drop, List.length_take]; rfl)) ?_
                      with_reducible refine (sweep_Wound.calls kj36 _ _ l0 a1 a2 a3 t211 _ ?side1 ?side2 A54.out).mono ?_
                      (case side1 => repeat (first | exact (Kd.C_below HR0.out HB.out) | (with_reducible refine Kd.C_alloc ?_ _) | (with_reducible refine Kd.C_drewN ?_ _) | (with_reducible refine Kd.C_drew ?_)))
                      (case side2 => exact HC0.out)
                      rintro e w59 ⟨rfl, hb⟩
                      refine ⟨_, rfl, ?_⟩
                      have n0_ := Aside0.mk (Kd.R_below (by (with_reducible repeat (first | apply Kd.R_alloc | apply Kd.R_drewN | apply Kd.R_drew)); exact HO_14.out) hb)
                      have n1_ := Aside0.mk (blk_below (g := gb201) (o := .cells #[.int .i64 (wrap64 (2 * (wrap64 (a4)))), .int .i64 (wrap64 (2 * (wrap64 (a5))))] 25 (0, 0)) (by (with_reducible repeat (first | refine blk_drewN ?_ _ | refine blk_drew ?_ | refine blk_alloc ?_ _)); exact BK201.out) hb)
                      have n2_ := Aside0.mk (below_step (by repeat (first | (with_reducible first | exact HB.out | apply below_alloc | apply pw_below_drewN | apply below_drew1 | refine below_set ?_ GE201.out) | exact HB.out)) hb)
                      clear HO_14
                      clear BK201
                      clear HB
                      have HO_14 := n0_
                      have BK201 := n1_
                      have HB := n2_
                      clear n0_ n1_ n2_
                      (try clear hb)
                      (try clear hb2)
                      (try clear hk)
                      (try clear hi)
                      obtain ⟨Ao60, co60, eo60⟩ := Kd.R_slice HO_14.out
                      (first | subst eo60 | (injection eo60 with f1_ f2_ f3_; have f4_ := f1_.symm; have f5_ := f3_.symm; clear f1_ f2_ f3_; subst f4_; subst f5_))
                      refine hK.out _ _ ⟨(blk_cell BK201.out 0).trans rfl, (blk_cell BK201.out 1).trans rfl⟩ (fun hHeld => ?_)
                      clear hK K
                      refine norm_ (a' := ?_) ?_ ?_
                      rotate_left
                      · show Act.put _ (some 106) _ = _
                        simp only [Act.put, List.setIfInBounds_toArray, List.set_cons_zero, List.set_cons_succ, i64_w, i32_w]
                        rfl
                      refine one_ (i := 15) (N := some 117) #[true, true, true, true, true, true, true, true, true, true, true, true, true, true, true, true, false, false, false, false, false] rfl rfl (one_of HT_.out (by kernel_rfl)) (by decide) (fun K hK => ?_)
                      refine goes_ Try.func16 (by kernel_rfl) rfl #[.slice Ao60 x14_2.length co60, .int .i64 a1, .int .i64 (wrap64 (a2 + (wrap64 (2 * (wrap64 (a4)))))), .int .i64 (wrap64 (a3 + (wrap64 (2 * (wrap64 (a5))))))] (by rfl) rfl rfl (by (try simp only [List.map_toArray, List.map_cons, List.map_nil]); first | done | rfl | (simp only [List.length_drop, List.length_take]; rfl)) ?_
                      with_reducible refine (sweep_Wound.calls kj36 _ _ x14_2 a1 (wrap64 (a2 + (wrap64 (2 * (wrap64 (a4)))))) (wrap64 (a3 + (wrap64 (2 * (wrap64 (a5)))))) t212 _ ?side1 ?side2 A55.out).mono ?_
                      (case side1 => repeat (first | exact (Kd.R_reads' HO_14.out).2.2 | (with_reducible refine Kd.C_alloc ?_ _) | (with_reducible refine Kd.C_drewN ?_ _) | (with_reducible refine Kd.C_drew ?_)))
                      (case side2 => exact (Kd.R_reads' HO_14.out).2.1)
                      rintro e w61 ⟨rfl, hb⟩
                      refine ⟨_, rfl, ?_⟩
                      have n0_ := Aside0.mk (Kd.R_below (by (with_reducible repeat (first | apply Kd.R_alloc | apply Kd.R_drewN | apply Kd.R_drew)); exact HO_14.out) hb)
                      have n1_ := Aside0.mk (blk_below (g := gb201) (o := .cells #[.int .i64 (wrap64 (2 * (wrap64 (a4)))), .int .i64 (wrap64 (2 * (wrap64 (a5))))] 25 (0, 0)) (by (with_reducible repeat (first | refine blk_drewN ?_ _ | refine blk_drew ?_ | refine blk_alloc ?_ _)); exact BK201.out) hb)
                      have n2_ := Aside0.mk (below_step (by repeat (first | (with_reducible first | exact HB.out | apply below_alloc | apply pw_below_drewN | apply below_drew1 | refine below_set ?_ GE201.out) | exact HB.out)) hb)
                      clear HO_14
                      clear BK201
                      clear HB
                      have HO_14 := n0_
                      have BK201 := n1_
                      have HB := n2_
                      clear n0_ n1_ n2_
                      (try clear hb)
                      (try clear hb2)
                      (try clear hk)
                      (try clear hi)
                      refine hK.out _ _ ⟨(blk_cell BK201.out 0).trans rfl, (blk_cell BK201.out 1).trans rfl⟩ (fun hHeld => ?_)
                      clear hK K
                      refine norm_ (a' := ?_) ?_ ?_
                      rotate_left
                      · show Act.put _ (some 117) _ = _
                        simp only [Act.put, List.setIfInBounds_toArray, List.set_cons_zero, List.set_cons_succ, i64_w, i32_w]
                        rfl
                      refine pure_ (i := 16) (N := some 118) (v := ?_) (a' := ?_) #[true, true, true, true, true, true, true, true, true, true, true, true, true, true, true, true, true, false, false, false, false] rfl rfl (any_of HT_.out (by kernel_rfl)) (fun _ _ _ h => h) (Or.inl ⟨by rfl, ?_⟩) ?_ ?_
                      rotate_left
                      · intro w'
                        go_simp
                        with_reducible rfl
                      rotate_left
                      · simp only [Act.put, List.setIfInBounds_toArray, List.set_cons_zero, List.set_cons_succ, i64_w, i32_w]
                        rfl
                      refine pure_ (i := 17) (N := some 119) (v := ?_) (a' := ?_) #[true, true, true, true, true, true, true, true, true, true, true, true, true, true, true, true, true, true, false, false, false] rfl rfl (any_of HT_.out (by kernel_rfl)) (fun _ _ _ h => h) (Or.inl ⟨by rfl, ?_⟩) ?_ ?_
                      rotate_left
                      · intro w'
                        go_simp
                        with_reducible rfl
                      rotate_left
                      · simp only [Act.put, List.setIfInBounds_toArray, List.set_cons_zero, List.set_cons_succ, i64_w, i32_w]
                        rfl
                      refine one_ (i := 18) (N := some 120) #[true, true, true, true, true, true, true, true, true, true, true, true, true, true, true, true, true, true, true, false, false] rfl rfl (one_of HT_.out (by kernel_rfl)) (by decide) (fun K hK => ?_)
                      refine goes_ Try.func10 (by kernel_rfl) rfl #[] (by rfl) rfl rfl (by (try simp only [List.map_toArray, List.map_cons, List.map_nil]); first | done | rfl | (simp only [List.length_drop, List.length_take]; rfl)) ?_
                      with_reducible refine (celluloidlaw17_awake.calls kj36  t213 _ A57.out).mono ?_
                      rintro e w62 ⟨rfl, hb⟩
                      refine ⟨_, rfl, ?_⟩
                      have n0_ := Aside0.mk (Kd.R_below (by (with_reducible repeat (first | apply Kd.R_alloc | apply Kd.R_drewN | apply Kd.R_drew)); exact HO_14.out) hb)
                      have n1_ := Aside0.mk (blk_below (g := gb201) (o := .cells #[.int .i64 (wrap64 (2 * (wrap64 (a4)))), .int .i64 (wrap64 (2 * (wrap64 (a5))))] 25 (0, 0)) (by (with_reducible repeat (first | refine blk_drewN ?_ _ | refine blk_drew ?_ | refine blk_alloc ?_ _)); exact BK201.out) hb)
                      have n2_ := Aside0.mk (below_step (by repeat (first | (with_reducible first | exact HB.out | apply below_alloc | apply pw_below_drewN | apply below_drew1 | refine below_set ?_ GE201.out) | exact HB.out)) hb)
                      clear HO_14
                      clear BK201
                      clear HB
                      have HO_14 := n0_
                      have BK201 := n1_
                      have HB := n2_
                      clear n0_ n1_ n2_
                      (try clear hb)
                      (try clear hb2)
                      (try clear hk)
                      (try clear hi)
                      refine hK.out _ _ ⟨(blk_cell BK201.out 0).trans rfl, (blk_cell BK201.out 1).trans rfl⟩ (fun hHeld => ?_)
                      clear hK K
                      refine norm_ (a' := ?_) ?_ ?_
                      rotate_left
                      · show Act.put _ (some 120) _ = _
                        simp only [Act.put, List.setIfInBounds_toArray, List.set_cons_zero, List.set_cons_succ, i64_w, i32_w]
                        rfl
                      refine pure_ (i := 19) (N := some 121) (v := ?_) (a' := ?_) #[true, true, true, true, true, true, true, true, true, true, true, true, true, true, true, true, true, true, true, true, false] rfl rfl (any_of HT_.out (by kernel_rfl)) (fun _ _ _ h => h) (Or.inl ⟨by rfl, ?_⟩) ?_ ?_
                      rotate_left
                      · intro w'
                        go_simp
                        with_reducible rfl
                      rotate_left
                      · simp only [Act.put, List.setIfInBounds_toArray, List.set_cons_zero, List.set_cons_succ, i64_w, i32_w]
                        rfl
                      refine pure_ (i := 20) (N := some 12) (v := ?_) (a' := ?_) #[true, true, true, true, true, true, true, true, true, true, true, true, true, true, true, true, true, true, true, true, true] rfl rfl (any_of HT_.out (by kernel_rfl)) (fun _ _ _ h => h) (Or.inl ⟨by rfl, ?_⟩) ?_ ?_
                      rotate_left
                      · intro w'
                        go_simp
                        with_reducible rfl
                      rotate_left
                      · simp only [Act.put, List.setIfInBounds_toArray, List.set_cons_zero, List.set_cons_succ, i64_w, i32_w]
                        rfl
                      refine done_ (done_of HT_.out (by kernel_rfl)) ?_
                      try go_wp2
                      go_ret
                      exact ⟨by first | rfl | (simp [errW_none, errW_some] <;> rfl) | (simp [*, errW_none, errW_some] <;> rfl), by repeat (first | (with_reducible first | exact HB.out | apply below_alloc | apply pw_below_drewN | apply below_drew1 | refine below_set ?_ GE201.out) | exact HB.out)⟩
                    · rw [if_neg c56] at H
                      have c56b0 : (t211 == t212) = false := beq_eq_false_iff_ne.mpr c56
                      have c56b1 : (t211 != t212) = true := bne_iff_ne.mpr c56
                      obtain rfl := Option.some.inj H
                      try go_wp2
                      have n0_ := Aside0.mk (Kd.R_drew HO_14.out)
                      have n1_ := Aside0.mk (blk_drew BK201.out)
                      have n2_ := Aside0.mk (below_drew1 HB.out)
                      clear HO_14
                      clear BK201
                      clear HB
                      have HO_14 := n0_
                      have BK201 := n1_
                      have HB := n2_
                      clear n0_ n1_ n2_
                      refine start_ (n := 21) (S := fun w' => w'.cell? ⟨gb201, 0, none⟩ = some (.int .i64 (wrap64 (2 * (wrap64 (a4))))) ∧ w'.cell? ⟨gb201, 1, none⟩ = some (.int .i64 (wrap64 (2 * (wrap64 (a5)))))) (ds := []) #[false, false, false, false, false, false, false, false, false, false, false, false, false, false, false, false, false, false, false, false, false] (by kernel_rfl) rfl rfl ⟨(blk_cell BK201.out 0).trans rfl, (blk_cell BK201.out 1).trans rfl⟩ (fun hHeld => ?_); refine with_tabW celluloidlaw17_SweepShifts.tab13 celluloidlaw17_SweepShifts.bits13 (fun HT_ HW_ => ?_)
                      generalize wc.drew = w63 at HO_14 BK201 HB hHeld ⊢
                      refine pure_ (i := 0) (N := some 102) (v := ?_) (a' := ?_) #[true, false, false, false, false, false, false, false, false, false, false, false, false, false, false, false, false, false, false, false, false] rfl rfl (any_of HT_.out (by kernel_rfl)) (fun _ _ _ h => h) (Or.inl ⟨by rfl, ?_⟩) ?_ ?_
                      rotate_left
                      · intro w'
                        go_simp
                        with_reducible rfl
                      rotate_left
                      · simp only [Act.put, List.setIfInBounds_toArray, List.set_cons_zero, List.set_cons_succ, i64_w, i32_w]
                        rfl
                      refine pure_ (i := 1) (N := some 103) (v := ?_) (a' := ?_) #[true, true, false, false, false, false, false, false, false, false, false, false, false, false, false, false, false, false, false, false, false] rfl rfl (any_of HT_.out (by kernel_rfl)) (fun _ _ _ h => h) (Or.inl ⟨by rfl, ?_⟩) ?_ ?_
                      rotate_left
                      · intro w'
                        go_simp
                        with_reducible rfl
                      rotate_left
                      · simp only [Act.put, List.setIfInBounds_toArray, List.set_cons_zero, List.set_cons_succ, i64_w, i32_w]
                        rfl
                      refine pure_ (i := 2) (N := some 104) (v := ?_) (a' := ?_) #[true, true, true, false, false, false, false, false, false, false, false, false, false, false, false, false, false, false, false, false, false] rfl rfl (any_of HT_.out (by kernel_rfl)) (fun _ _ _ h => h) (Or.inl ⟨by rfl, ?_⟩) ?_ ?_
                      rotate_left
                      · intro w'
                        go_simp
                        with_reducible rfl
                      rotate_left
                      · simp only [Act.put, List.setIfInBounds_toArray, List.set_cons_zero, List.set_cons_succ, i64_w, i32_w]
                        rfl
                      refine pure_ (i := 3) (N := some 105) (v := ?_) (a' := ?_) #[true, true, true, true, false, false, false, false, false, false, false, false, false, false, false, false, false, false, false, false, false] rfl rfl (any_of HT_.out (by kernel_rfl)) (fun _ _ _ h => h) (Or.inl ⟨by rfl, ?_⟩) ?_ ?_
                      rotate_left
                      · intro w'
                        go_simp
                        with_reducible rfl
                      rotate_left
                      · simp only [Act.put, List.setIfInBounds_toArray, List.set_cons_zero, List.set_cons_succ, i64_w, i32_w]
                        rfl
                      refine pure_ (i := 5) (N := some 107) (v := ?_) (a' := ?_) #[true, true, true, true, false, true, false, false, false, false, false, false, false, false, false, false, false, false, false, false, false] rfl rfl (any_of HT_.out (by kernel_rfl)) (fun _ _ _ h => h) (Or.inl ⟨by rfl, ?_⟩) ?_ ?_
                      rotate_left
                      · intro w'
                        go_simp
                        with_reducible rfl
                      rotate_left
                      · simp only [Act.put, List.setIfInBounds_toArray, List.set_cons_zero, List.set_cons_succ, i64_w, i32_w]
                        rfl
                      refine pure_ (i := 6) (N := some 108) (v := ?_) (a' := ?_) #[true, true, true, true, false, true, true, false, false, false, false, false, false, false, false, false, false, false, false, false, false] rfl rfl (any_of HT_.out (by kernel_rfl)) (fun _ _ _ h => h) (Or.inl ⟨by rfl, ?_⟩) ?_ ?_
                      rotate_left
                      · intro w'
                        go_simp
                        with_reducible rfl
                      rotate_left
                      · simp only [Act.put, List.setIfInBounds_toArray, List.set_cons_zero, List.set_cons_succ, i64_w, i32_w]
                        rfl
                      refine pure_ (i := 7) (N := some 109) (v := ?_) (a' := ?_) #[true, true, true, true, false, true, true, true, false, false, false, false, false, false, false, false, false, false, false, false, false] rfl rfl (any_of HT_.out (by kernel_rfl)) (fun _ _ _ h => h) (Or.inl ⟨by rfl, ?_⟩) ?_ ?_
                      rotate_left
                      · intro w'
                        go_simp
                        with_reducible rfl
                      rotate_left
                      · simp only [Act.put, List.setIfInBounds_toArray, List.set_cons_zero, List.set_cons_succ, i64_w, i32_w]
                        rfl
                      refine pure_ (i := 8) (N := some 110) (v := ?_) (a' := ?_) #[true, true, true, true, false, true, true, true, true, false, false, false, false, false, false, false, false, false, false, false, false] rfl rfl (any_of HT_.out (by kernel_rfl)) (fun _ _ _ h => h) (Or.inl ⟨by rfl, ?_⟩) ?_ ?_
                      rotate_left
                      · intro w'
                        go_simp
                        with_reducible rfl
                      rotate_left
                      · simp only [Act.put, List.setIfInBounds_toArray, List.set_cons_zero, List.set_cons_succ, i64_w, i32_w]
                        rfl
                      refine pure_ (i := 11) (N := some 113) (v := ?_) (a' := ?_) #[true, true, true, true, false, true, true, true, true, false, false, true, false, false, false, false, false, false, false, false, false] rfl rfl (any_of HT_.out (by kernel_rfl)) (fun _ _ _ h => h) (Or.inl ⟨by rfl, ?_⟩) ?_ ?_
                      rotate_left
                      · intro w'
                        go_simp
                        with_reducible rfl
                      rotate_left
                      · simp only [Act.put, List.setIfInBounds_toArray, List.set_cons_zero, List.set_cons_succ, i64_w, i32_w]
                        rfl
                      refine pure_ (i := 12) (N := some 114) (v := ?_) (a' := ?_) #[true, true, true, true, false, true, true, true, true, false, false, true, true, false, false, false, false, false, false, false, false] rfl rfl (any_of HT_.out (by kernel_rfl)) (fun _ _ _ h => h) (Or.inl ⟨by rfl, ?_⟩) ?_ ?_
                      rotate_left
                      · intro w'
                        go_simp
                        with_reducible rfl
                      rotate_left
                      · simp only [Act.put, List.setIfInBounds_toArray, List.set_cons_zero, List.set_cons_succ, i64_w, i32_w]
                        rfl
                      refine take_ (i := 9) (N := some 111) (v := ?_) (a' := ?_) #[true, true, true, true, false, true, true, true, true, true, false, true, true, false, false, false, false, false, false, false, false] rfl rfl (take_ofW HT_.out HW_.out (by kernel_rfl)) (fun _ _ _ h => h) (Or.inl ⟨by rfl, ?_⟩) hHeld ?_ ?_
                      rotate_left
                      · rintro w' ⟨s0, s1⟩
                        go_simp
                        with_reducible rfl
                      rotate_left
                      · simp only [Act.put, List.setIfInBounds_toArray, List.set_cons_zero, List.set_cons_succ, i64_w, i32_w]
                        rfl
                      refine pure_ (i := 10) (N := some 112) (v := ?_) (a' := ?_) #[true, true, true, true, false, true, true, true, true, true, true, true, true, false, false, false, false, false, false, false, false] rfl rfl (any_of HT_.out (by kernel_rfl)) (fun _ _ _ h => h) (Or.inl ⟨by rfl, ?_⟩) ?_ ?_
                      rotate_left
                      · intro w'
                        go_simp
                        with_reducible rfl
                      rotate_left
                      · simp only [Act.put, List.setIfInBounds_toArray, List.set_cons_zero, List.set_cons_succ, i64_w, i32_w]
                        rfl
                      refine take_ (i := 13) (N := some 115) (v := ?_) (a' := ?_) #[true, true, true, true, false, true, true, true, true, true, true, true, true, true, false, false, false, false, false, false, false] rfl rfl (take_ofW HT_.out HW_.out (by kernel_rfl)) (fun _ _ _ h => h) (Or.inl ⟨by rfl, ?_⟩) hHeld ?_ ?_
                      rotate_left
                      · rintro w' ⟨s0, s1⟩
                        go_simp
                        with_reducible rfl
                      rotate_left
                      · simp only [Act.put, List.setIfInBounds_toArray, List.set_cons_zero, List.set_cons_succ, i64_w, i32_w]
                        rfl
                      refine pure_ (i := 14) (N := some 116) (v := ?_) (a' := ?_) #[true, true, true, true, false, true, true, true, true, true, true, true, true, true, true, false, false, false, false, false, false] rfl rfl (any_of HT_.out (by kernel_rfl)) (fun _ _ _ h => h) (Or.inl ⟨by rfl, ?_⟩) ?_ ?_
                      rotate_left
                      · intro w'
                        go_simp
                        with_reducible rfl
                      rotate_left
                      · simp only [Act.put, List.setIfInBounds_toArray, List.set_cons_zero, List.set_cons_succ, i64_w, i32_w]
                        rfl
                      refine one_ (i := 4) (N := some 106) #[true, true, true, true, true, true, true, true, true, true, true, true, true, true, true, false, false, false, false, false, false] rfl rfl (one_of HT_.out (by kernel_rfl)) (by decide) (fun K hK => ?_)
                      refine goes_ Try.func16 (by kernel_rfl) rfl #[.slice A0 l0.length c0, .int .i64 a1, .int .i64 a2, .int .i64 a3] (by rfl) rfl rfl (by (try simp only [List.map_toArray, List.map_cons, List.map_nil]); first | done | rfl | (simp only [List.length_drop, List.length_take]; rfl)) ?_
                      with_reducible refine (sweep_Wound.calls kj36 _ _ l0 a1 a2 a3 t211 _ ?side1 ?side2 A54.out).mono ?_
                      (case side1 => repeat (first | exact (Kd.C_below HR0.out HB.out) | (with_reducible refine Kd.C_alloc ?_ _) | (with_reducible refine Kd.C_drewN ?_ _) | (with_reducible refine Kd.C_drew ?_)))
                      (case side2 => exact HC0.out)
                      rintro e w64 ⟨rfl, hb⟩
                      refine ⟨_, rfl, ?_⟩
                      have n0_ := Aside0.mk (Kd.R_below (by (with_reducible repeat (first | apply Kd.R_alloc | apply Kd.R_drewN | apply Kd.R_drew)); exact HO_14.out) hb)
                      have n1_ := Aside0.mk (blk_below (g := gb201) (o := .cells #[.int .i64 (wrap64 (2 * (wrap64 (a4)))), .int .i64 (wrap64 (2 * (wrap64 (a5))))] 25 (0, 0)) (by (with_reducible repeat (first | refine blk_drewN ?_ _ | refine blk_drew ?_ | refine blk_alloc ?_ _)); exact BK201.out) hb)
                      have n2_ := Aside0.mk (below_step (by repeat (first | (with_reducible first | exact HB.out | apply below_alloc | apply pw_below_drewN | apply below_drew1 | refine below_set ?_ GE201.out) | exact HB.out)) hb)
                      clear HO_14
                      clear BK201
                      clear HB
                      have HO_14 := n0_
                      have BK201 := n1_
                      have HB := n2_
                      clear n0_ n1_ n2_
                      (try clear hb)
                      (try clear hb2)
                      (try clear hk)
                      (try clear hi)
                      obtain ⟨Ao65, co65, eo65⟩ := Kd.R_slice HO_14.out
                      (first | subst eo65 | (injection eo65 with f1_ f2_ f3_; have f4_ := f1_.symm; have f5_ := f3_.symm; clear f1_ f2_ f3_; subst f4_; subst f5_))
                      refine hK.out _ _ ⟨(blk_cell BK201.out 0).trans rfl, (blk_cell BK201.out 1).trans rfl⟩ (fun hHeld => ?_)
                      clear hK K
                      refine norm_ (a' := ?_) ?_ ?_
                      rotate_left
                      · show Act.put _ (some 106) _ = _
                        simp only [Act.put, List.setIfInBounds_toArray, List.set_cons_zero, List.set_cons_succ, i64_w, i32_w]
                        rfl
                      refine one_ (i := 15) (N := some 117) #[true, true, true, true, true, true, true, true, true, true, true, true, true, true, true, true, false, false, false, false, false] rfl rfl (one_of HT_.out (by kernel_rfl)) (by decide) (fun K hK => ?_)
                      refine goes_ Try.func16 (by kernel_rfl) rfl #[.slice Ao65 x14_2.length co65, .int .i64 a1, .int .i64 (wrap64 (a2 + (wrap64 (2 * (wrap64 (a4)))))), .int .i64 (wrap64 (a3 + (wrap64 (2 * (wrap64 (a5))))))] (by rfl) rfl rfl (by (try simp only [List.map_toArray, List.map_cons, List.map_nil]); first | done | rfl | (simp only [List.length_drop, List.length_take]; rfl)) ?_
                      with_reducible refine (sweep_Wound.calls kj36 _ _ x14_2 a1 (wrap64 (a2 + (wrap64 (2 * (wrap64 (a4)))))) (wrap64 (a3 + (wrap64 (2 * (wrap64 (a5)))))) t212 _ ?side1 ?side2 A55.out).mono ?_
                      (case side1 => repeat (first | exact (Kd.R_reads' HO_14.out).2.2 | (with_reducible refine Kd.C_alloc ?_ _) | (with_reducible refine Kd.C_drewN ?_ _) | (with_reducible refine Kd.C_drew ?_)))
                      (case side2 => exact (Kd.R_reads' HO_14.out).2.1)
                      rintro e w66 ⟨rfl, hb⟩
                      refine ⟨_, rfl, ?_⟩
                      have n0_ := Aside0.mk (Kd.R_below (by (with_reducible repeat (first | apply Kd.R_alloc | apply Kd.R_drewN | apply Kd.R_drew)); exact HO_14.out) hb)
                      have n1_ := Aside0.mk (blk_below (g := gb201) (o := .cells #[.int .i64 (wrap64 (2 * (wrap64 (a4)))), .int .i64 (wrap64 (2 * (wrap64 (a5))))] 25 (0, 0)) (by (with_reducible repeat (first | refine blk_drewN ?_ _ | refine blk_drew ?_ | refine blk_alloc ?_ _)); exact BK201.out) hb)
                      have n2_ := Aside0.mk (below_step (by repeat (first | (with_reducible first | exact HB.out | apply below_alloc | apply pw_below_drewN | apply below_drew1 | refine below_set ?_ GE201.out) | exact HB.out)) hb)
                      clear HO_14
                      clear BK201
                      clear HB
                      have HO_14 := n0_
                      have BK201 := n1_
                      have HB := n2_
                      clear n0_ n1_ n2_
                      (try clear hb)
                      (try clear hb2)
                      (try clear hk)
                      (try clear hi)
                      refine hK.out _ _ ⟨(blk_cell BK201.out 0).trans rfl, (blk_cell BK201.out 1).trans rfl⟩ (fun hHeld => ?_)
                      clear hK K
                      refine norm_ (a' := ?_) ?_ ?_
                      rotate_left
                      · show Act.put _ (some 117) _ = _
                        simp only [Act.put, List.setIfInBounds_toArray, List.set_cons_zero, List.set_cons_succ, i64_w, i32_w]
                        rfl
                      refine pure_ (i := 16) (N := some 118) (v := ?_) (a' := ?_) #[true, true, true, true, true, true, true, true, true, true, true, true, true, true, true, true, true, false, false, false, false] rfl rfl (any_of HT_.out (by kernel_rfl)) (fun _ _ _ h => h) (Or.inl ⟨by rfl, ?_⟩) ?_ ?_
                      rotate_left
                      · intro w'
                        go_simp
                        with_reducible rfl
                      rotate_left
                      · simp only [Act.put, List.setIfInBounds_toArray, List.set_cons_zero, List.set_cons_succ, i64_w, i32_w]
                        rfl
                      refine pure_ (i := 17) (N := some 119) (v := ?_) (a' := ?_) #[true, true, true, true, true, true, true, true, true, true, true, true, true, true, true, true, true, true, false, false, false] rfl rfl (any_of HT_.out (by kernel_rfl)) (fun _ _ _ h => h) (Or.inl ⟨by rfl, ?_⟩) ?_ ?_
                      rotate_left
                      · intro w'
                        go_simp
                        with_reducible rfl
                      rotate_left
                      · simp only [Act.put, List.setIfInBounds_toArray, List.set_cons_zero, List.set_cons_succ, i64_w, i32_w]
                        rfl
                      refine pure_ (i := 18) (N := some 120) (v := undef) (a' := ?_) #[true, true, true, true, true, true, true, true, true, true, true, true, true, true, true, true, true, true, true, false, false] rfl rfl (any_of HT_.out (by kernel_rfl)) (fun _ _ _ h => h) (Or.inr ⟨by rfl, rfl⟩) ?_ ?_
                      rotate_left
                      · simp only [Act.put, List.setIfInBounds_toArray, List.set_cons_zero, List.set_cons_succ, i64_w, i32_w]
                        rfl
                      refine pure_ (i := 19) (N := some 121) (v := ?_) (a' := ?_) #[true, true, true, true, true, true, true, true, true, true, true, true, true, true, true, true, true, true, true, true, false] rfl rfl (any_of HT_.out (by kernel_rfl)) (fun _ _ _ h => h) (Or.inl ⟨by rfl, ?_⟩) ?_ ?_
                      rotate_left
                      · intro w'
                        go_simp
                        with_reducible rfl
                      rotate_left
                      · simp only [Act.put, List.setIfInBounds_toArray, List.set_cons_zero, List.set_cons_succ, i64_w, i32_w]
                        rfl
                      refine pure_ (i := 20) (N := some 12) (v := ?_) (a' := ?_) #[true, true, true, true, true, true, true, true, true, true, true, true, true, true, true, true, true, true, true, true, true] rfl rfl (any_of HT_.out (by kernel_rfl)) (fun _ _ _ h => h) (Or.inl ⟨by rfl, ?_⟩) ?_ ?_
                      rotate_left
                      · intro w'
                        go_simp
                        with_reducible rfl
                      rotate_left
                      · simp only [Act.put, List.setIfInBounds_toArray, List.set_cons_zero, List.set_cons_succ, i64_w, i32_w]
                        rfl
                      refine done_ (done_of HT_.out (by kernel_rfl)) ?_
                      try go_wp2
                      go_ret
                      exact ⟨by first | rfl | (simp [errW_none, errW_some] <;> rfl) | (simp [*, errW_none, errW_some] <;> rfl), by repeat (first | (with_reducible first | exact HB.out | apply below_alloc | apply pw_below_drewN | apply below_drew1 | refine below_set ?_ GE201.out) | exact HB.out)⟩

end Go.Proofs.Ytgmegmhioiljcaa.P
