/- Printed by printx.py (wip/tool) out of the translation: plain functions that tell what the program answers, and the proofs that the program comes to these answers, for all arguments of their kinds. Lean checks it. -/
import Derived.Test.YtgmegmhioiljcaaPx0
import Derived.Test.YtgmegmhioiljcaaPx2
import Derived.Test.YtgmegmhioiljcaaPx5
import Derived.Test.YtgmegmhioiljcaaPx6
namespace Go.Proofs.Ytgmegmhioiljcaa.P
open Go.RowKit Go.Proofs.YtgmegmhioiljcaaW.PrintWords Go.Proofs.YtgmegmhioiljcaaW.PrintLast Go.Proofs.YtgmegmhioiljcaaW.PrintMore
attribute [local go_sem] max2_int min2_int max_two min_two max_three min_three max_four min_four max_five min_five max_six min_six   -- for this text's walks alone
set_option linter.unusedVariables false
set_option linter.unusedSimpArgs false

/-! ### celluloidlaw17_SweepTurns: function 6 -/
mutual
def celluloidlaw17_SweepTurns.j0 : Nat → List (S27) → Int → Int → Int → Bool → Option (Bool)
  | 0, _, _, _, _, _ => none
  | k + 1, x0, x1, x2, x3, x27 => if x27 = true then ((celluloidlaw17_awake.f k).bind fun t248 => (some t248)) else (celluloidlaw17_SweepTurns.l0 k x0 x1 x2 x3 ([] : List (S27)) (x0.length : Int) 0)
def celluloidlaw17_SweepTurns.l0 : Nat → List (S27) → Int → Int → Int → List (S27) → Int → Int → Option (Bool)
  | 0, _, _, _, _, _, _, _ => none
  | k + 1, x0, x1, x2, x3, x9, x30, x31 => if x31 < x30 then (if 0 ≤ (wrap64 ((wrap64 ((x0.length : Int) - 1)) - x31)) then (if (wrap64 ((wrap64 ((x0.length : Int) - 1)) - x31)) < (x0.length : Int) then (if 0 ≤ x31 then (if (Go.bits .and .u64 (shr .u64 x1 x31) 1) = 1 then (if x9.length < 2932031007402 then (celluloidlaw17_SweepTurns.l0 k x0 x1 x2 x3 (x9 ++ [(⟨(⟨(rd_T27 x0 (wrap64 ((wrap64 ((x0.length : Int) - 1)) - x31))).f1.f0, (rd_T27 x0 (wrap64 ((wrap64 ((x0.length : Int) - 1)) - x31))).f1.f1⟩ : S25), (⟨(rd_T27 x0 (wrap64 ((wrap64 ((x0.length : Int) - 1)) - x31))).f0.f0, (rd_T27 x0 (wrap64 ((wrap64 ((x0.length : Int) - 1)) - x31))).f0.f1⟩ : S25), (rd_T27 x0 (wrap64 ((wrap64 ((x0.length : Int) - 1)) - x31))).f3, (rd_T27 x0 (wrap64 ((wrap64 ((x0.length : Int) - 1)) - x31))).f2⟩ : S27)]) x30 (wrap64 (x31 + 1))) else (none)) else (if x9.length < 2932031007402 then (celluloidlaw17_SweepTurns.l0 k x0 x1 x2 x3 (x9 ++ [(⟨(⟨(rd_T27 x0 (wrap64 ((wrap64 ((x0.length : Int) - 1)) - x31))).f0.f0, (rd_T27 x0 (wrap64 ((wrap64 ((x0.length : Int) - 1)) - x31))).f0.f1⟩ : S25), (⟨(rd_T27 x0 (wrap64 ((wrap64 ((x0.length : Int) - 1)) - x31))).f1.f0, (rd_T27 x0 (wrap64 ((wrap64 ((x0.length : Int) - 1)) - x31))).f1.f1⟩ : S25), (rd_T27 x0 (wrap64 ((wrap64 ((x0.length : Int) - 1)) - x31))).f2, (rd_T27 x0 (wrap64 ((wrap64 ((x0.length : Int) - 1)) - x31))).f3⟩ : S27)]) x30 (wrap64 (x31 + 1))) else (none))) else (none)) else (none)) else (none)) else ((sweep_Owners.f k x0 x2 x3).bind fun bt257 => ((sweep_Owners.f k x9 x2 x3).bind fun bt261 => (if bt257.2 = bt261.2 then (celluloidlaw17_SweepTurns.j2 k bt257.1 bt261.1 ((bt257.1.length : Int) != (bt261.1.length : Int))) else (celluloidlaw17_SweepTurns.j2 k bt257.1 bt261.1 true))))
def celluloidlaw17_SweepTurns.j2 : Nat → List Int → List Int → Bool → Option (Bool)
  | 0, _, _, _ => none
  | k + 1, x12, x14, x84 => if x84 = true then (some false) else (celluloidlaw17_SweepTurns.l1 k x12 x14 (x12.length : Int) 0)
def celluloidlaw17_SweepTurns.l1 : Nat → List Int → List Int → Int → Int → Option (Bool)
  | 0, _, _, _, _ => none
  | k + 1, x12, x14, x86, x87 => if x87 < x86 then (if 0 ≤ x87 then (if x87 < (x12.length : Int) then (if x87 < (x14.length : Int) then (if (rd x12 x87) = (rd x14 x87) then (celluloidlaw17_SweepTurns.l1 k x12 x14 x86 (wrap64 (x87 + 1))) else (some false)) else (none)) else (none)) else (none)) else ((celluloidlaw17_awake.f k).bind fun t267 => (some t267))
end
def celluloidlaw17_SweepTurns.f (k : Nat) (l0 : List (S27)) (a1 : Int) (a2 : Int) (a3 : Int) : Option (Bool) := if (l0.length : Int) > 40 then (celluloidlaw17_SweepTurns.j0 k l0 a1 a2 a3 true) else (if a2 > 8 then (celluloidlaw17_SweepTurns.j0 k l0 a1 a2 a3 true) else (celluloidlaw17_SweepTurns.j0 k l0 a1 a2 a3 (decide (a3 > 8))))
theorem celluloidlaw17_SweepTurns.mono_l : ∀ k, (∀ y0 y1 y2 y3 y4, LeO (celluloidlaw17_SweepTurns.j0 k y0 y1 y2 y3 y4) (celluloidlaw17_SweepTurns.j0 (k + 1) y0 y1 y2 y3 y4)) ∧ (∀ y0 y1 y2 y3 y4 y5 y6, LeO (celluloidlaw17_SweepTurns.l0 k y0 y1 y2 y3 y4 y5 y6) (celluloidlaw17_SweepTurns.l0 (k + 1) y0 y1 y2 y3 y4 y5 y6)) ∧ (∀ y0 y1 y2, LeO (celluloidlaw17_SweepTurns.j2 k y0 y1 y2) (celluloidlaw17_SweepTurns.j2 (k + 1) y0 y1 y2)) ∧ (∀ y0 y1 y2 y3, LeO (celluloidlaw17_SweepTurns.l1 k y0 y1 y2 y3) (celluloidlaw17_SweepTurns.l1 (k + 1) y0 y1 y2 y3))
  | 0 => ⟨fun _ _ _ _ _ r h => by simp [celluloidlaw17_SweepTurns.j0] at h, fun _ _ _ _ _ _ _ r h => by simp [celluloidlaw17_SweepTurns.l0] at h, fun _ _ _ r h => by simp [celluloidlaw17_SweepTurns.j2] at h, fun _ _ _ _ r h => by simp [celluloidlaw17_SweepTurns.l1] at h⟩
  | k + 1 => by
    obtain ⟨ih0, ih1, ih2, ih3⟩ := celluloidlaw17_SweepTurns.mono_l k
    refine ⟨?_, ?_, ?_, ?_⟩
    · intro y0 y1 y2 y3 y4
      unfold celluloidlaw17_SweepTurns.j0
      repeat' first
      | (with_reducible exact ih0 _ _ _ _ _)
      | (with_reducible exact ih1 _ _ _ _ _ _ _)
      | (with_reducible exact ih2 _ _ _)
      | (with_reducible exact ih3 _ _ _ _)
      | (with_reducible exact celluloidlaw17_awake.mono _)
      | (with_reducible exact sweep_Owners.mono _ _ _ _)
      | (with_reducible exact LeO.refl _)
      | (with_reducible exact LeO.none _)
      | (with_reducible refine LeO.ite ?_ ?_)
      | (with_reducible refine LeO.bind ?_ (fun _ => ?_))
      | exact ih0 _ _ _ _ _
      | exact ih1 _ _ _ _ _ _ _
      | exact ih2 _ _ _
      | exact ih3 _ _ _ _
      | exact celluloidlaw17_awake.mono _
      | exact sweep_Owners.mono _ _ _ _
      | exact LeO.none _
      | refine LeO.ite ?_ ?_
      | refine LeO.bind ?_ (fun _ => ?_)
    · intro y0 y1 y2 y3 y4 y5 y6
      unfold celluloidlaw17_SweepTurns.l0
      repeat' first
      | (with_reducible exact ih0 _ _ _ _ _)
      | (with_reducible exact ih1 _ _ _ _ _ _ _)
      | (with_reducible exact ih2 _ _ _)
      | (with_reducible exact ih3 _ _ _ _)
      | (with_reducible exact celluloidlaw17_awake.mono _)
      | (with_reducible exact sweep_Owners.mono _ _ _ _)
      | (with_reducible exact LeO.refl _)
      | (with_reducible exact LeO.none _)
      | (with_reducible refine LeO.ite ?_ ?_)
      | (with_reducible refine LeO.bind ?_ (fun _ => ?_))
      | exact ih0 _ _ _ _ _
      | exact ih1 _ _ _ _ _ _ _
      | exact ih2 _ _ _
      | exact ih3 _ _ _ _
      | exact celluloidlaw17_awake.mono _
      | exact sweep_Owners.mono _ _ _ _
      | exact LeO.none _
      | refine LeO.ite ?_ ?_
      | refine LeO.bind ?_ (fun _ => ?_)
    · intro y0 y1 y2
      unfold celluloidlaw17_SweepTurns.j2
      repeat' first
      | (with_reducible exact ih0 _ _ _ _ _)
      | (with_reducible exact ih1 _ _ _ _ _ _ _)
      | (with_reducible exact ih2 _ _ _)
      | (with_reducible exact ih3 _ _ _ _)
      | (with_reducible exact celluloidlaw17_awake.mono _)
      | (with_reducible exact sweep_Owners.mono _ _ _ _)
      | (with_reducible exact LeO.refl _)
      | (with_reducible exact LeO.none _)
      | (with_reducible refine LeO.ite ?_ ?_)
      | (with_reducible refine LeO.bind ?_ (fun _ => ?_))
      | exact ih0 _ _ _ _ _
      | exact ih1 _ _ _ _ _ _ _
      | exact ih2 _ _ _
      | exact ih3 _ _ _ _
      | exact celluloidlaw17_awake.mono _
      | exact sweep_Owners.mono _ _ _ _
      | exact LeO.none _
      | refine LeO.ite ?_ ?_
      | refine LeO.bind ?_ (fun _ => ?_)
    · intro y0 y1 y2 y3
      unfold celluloidlaw17_SweepTurns.l1
      repeat' first
      | (with_reducible exact ih0 _ _ _ _ _)
      | (with_reducible exact ih1 _ _ _ _ _ _ _)
      | (with_reducible exact ih2 _ _ _)
      | (with_reducible exact ih3 _ _ _ _)
      | (with_reducible exact celluloidlaw17_awake.mono _)
      | (with_reducible exact sweep_Owners.mono _ _ _ _)
      | (with_reducible exact LeO.refl _)
      | (with_reducible exact LeO.none _)
      | (with_reducible refine LeO.ite ?_ ?_)
      | (with_reducible refine LeO.bind ?_ (fun _ => ?_))
      | exact ih0 _ _ _ _ _
      | exact ih1 _ _ _ _ _ _ _
      | exact ih2 _ _ _
      | exact ih3 _ _ _ _
      | exact celluloidlaw17_awake.mono _
      | exact sweep_Owners.mono _ _ _ _
      | exact LeO.none _
      | refine LeO.ite ?_ ?_
      | refine LeO.bind ?_ (fun _ => ?_)
theorem celluloidlaw17_SweepTurns.mono : ∀ a0 a1 a2 a3 k, LeO (celluloidlaw17_SweepTurns.f k a0 a1 a2 a3) (celluloidlaw17_SweepTurns.f (k + 1) a0 a1 a2 a3) := by
  intro a0 a1 a2 a3 k
  obtain ⟨ih0, ih1, ih2, ih3⟩ := celluloidlaw17_SweepTurns.mono_l k
  unfold celluloidlaw17_SweepTurns.f
  repeat' first
      | (with_reducible exact ih0 _ _ _ _ _)
      | (with_reducible exact ih1 _ _ _ _ _ _ _)
      | (with_reducible exact ih2 _ _ _)
      | (with_reducible exact ih3 _ _ _ _)
      | (with_reducible exact celluloidlaw17_awake.mono _)
      | (with_reducible exact sweep_Owners.mono _ _ _ _)
      | (with_reducible exact LeO.refl _)
      | (with_reducible exact LeO.none _)
      | (with_reducible refine LeO.ite ?_ ?_)
      | (with_reducible refine LeO.bind ?_ (fun _ => ?_))
      | exact ih0 _ _ _ _ _
      | exact ih1 _ _ _ _ _ _ _
      | exact ih2 _ _ _
      | exact ih3 _ _ _ _
      | exact celluloidlaw17_awake.mono _
      | exact sweep_Owners.mono _ _ _ _
      | exact LeO.none _
      | refine LeO.ite ?_ ?_
      | refine LeO.bind ?_ (fun _ => ?_)
set_option maxHeartbeats 8000000 in
set_option maxRecDepth 100000 in
theorem celluloidlaw17_SweepTurns.calls (k : Nat) (A0 : Option Addr) (c0 : Nat) (l0 : List (S27)) (a1 : Int) (a2 : Int) (a3 : Int) (r : Bool) (w : World) (hr0 : Kd.C k27 w A0 l0.length l0) (hc0 : l0.length ≤ c0) (h : celluloidlaw17_SweepTurns.f k l0 a1 a2 a3 = some r) :
    Calls Try.prog 6 #[.slice A0 l0.length c0, .int .u64 a1, .int .i64 a2, .int .i64 a3] w fun e w' => e = .returned (.bool r) ∧ Below w.heap.size w w' := by
  have hu27 := Try.underlying27
  have hu25 := Try.underlying25
  have HR0 := Aside0.mk hr0
  have HC0 := Aside0.mk hc0
  clear hr0 hc0
  have HB := Aside0.mk (Below.refl w.heap.size w)
  have H : (if (l0.length : Int) > 40 then (celluloidlaw17_SweepTurns.j0 k l0 a1 a2 a3 true) else (if a2 > 8 then (celluloidlaw17_SweepTurns.j0 k l0 a1 a2 a3 true) else (celluloidlaw17_SweepTurns.j0 k l0 a1 a2 a3 (decide (a3 > 8))))) = some r := h
  clear h
  have HC5 := Aside0.mk H
  clear H
  go_enter Try.func6, Try.ntmps6
  go_upto_region 1 with (fail)
  repeat (go_quiet (fail); go_upto_region 1 with (fail))
  go_cut [27] (fun v27 wc => ∃ (kq : Nat) (x27_4 : Bool), v27 = .bool x27_4 ∧ Aside0 (celluloidlaw17_SweepTurns.j0 kq l0 a1 a2 a3 x27_4 = some r) ∧ Aside0 (kq ≤ k) ∧ Aside0 (Below w.heap.size w wc))
  case first =>
    have H := HC5.out
    clear HC5
    by_cases c6 : (l0.length : Int) > 40
    · rw [if_pos c6] at H
      have c6b0 : decide (40 < (l0.length : Int)) = true := decide_eq_true c6
      have c6b1 : decide (40 < l0.length) = true := decide_eq_true (by omega)
      clear c6
      (first | rw [c6b0] | (simp only [i64_w, i32_w]; rw [c6b0]) | skip)
      have H' := Aside0.mk H
      clear H
      go_wp2
      repeat (go_quiet (fail); try go_wp2)
      go_meet
      case rel => exact ⟨_, (true), (by first | rfl | (simp; done) | (simp [*]; done)), H', ⟨by first | omega | exact Nat.le_refl _⟩, ⟨by repeat (first | (with_reducible first | exact HB.out | apply below_alloc | apply pw_below_drewN | apply below_drew1) | exact HB.out)⟩⟩
    · rw [if_neg c6] at H
      have c6b0 : decide (40 < (l0.length : Int)) = false := decide_eq_false c6
      have c6b1 : decide (40 < l0.length) = false := decide_eq_false (by omega)
      clear c6
      (first | rw [c6b0] | (simp only [i64_w, i32_w]; rw [c6b0]) | skip)
      by_cases c7 : a2 > 8
      · rw [if_pos c7] at H
        have c7b0 : decide (8 < a2) = true := decide_eq_true c7
        clear c7
        have H' := Aside0.mk H
        clear H
        go_wp2
        repeat (go_quiet (fail); try go_wp2)
        go_meet
        case rel => exact ⟨_, (true), (by first | rfl | (simp; done) | (simp [*]; done)), H', ⟨by first | omega | exact Nat.le_refl _⟩, ⟨by repeat (first | (with_reducible first | exact HB.out | apply below_alloc | apply pw_below_drewN | apply below_drew1) | exact HB.out)⟩⟩
      · rw [if_neg c7] at H
        have c7b0 : decide (8 < a2) = false := decide_eq_false c7
        clear c7
        have H' := Aside0.mk H
        clear H
        go_wp2
        repeat (go_quiet (fail); try go_wp2)
        go_meet
        case rel => exact ⟨_, (decide (a3 > 8)), (by first | rfl | (simp; done) | (simp [*]; done)), H', ⟨by first | omega | exact Nat.le_refl _⟩, ⟨by repeat (first | (with_reducible first | exact HB.out | apply below_alloc | apply pw_below_drewN | apply below_drew1) | exact HB.out)⟩⟩
  case rest =>
    clear HC5
    try clear p2
    try clear c6
    try clear c6b0
    try clear c6b1
    try clear c7
    try clear c7b0
    obtain ⟨kq, x27_4, rfl, HA, HJ4, HB⟩ := hcut
    cases kq with
    | zero => exact absurd HA.out (by simp [celluloidlaw17_SweepTurns.j0])
    | succ kj4 =>
      have H := HA.out
      clear HA
      simp only [celluloidlaw17_SweepTurns.j0] at H
      by_cases c8 : x27_4 = true
      · subst c8
        have H1 : ((celluloidlaw17_awake.f kj4).bind fun t248 => (some t248)) = some r := by rw [if_pos rfl] at H; exact H
        clear H
        have H := H1
        clear H1
        replace H := Option.bind_eq_some_iff.mp H
        obtain ⟨t248, A90, H⟩ := H
        replace H : (some t248) = some r := H
        have A9 := Aside0.mk A90
        clear A90
        obtain rfl := Option.some.inj H
        go_wp2_with (first | (go_at_call 10; (with_reducible refine (celluloidlaw17_awake.calls kj4  t248 _ A9.out).mono ?_); rintro e w10 ⟨rfl, hb⟩; have n0_ := Aside0.mk (below_step (by repeat (first | (with_reducible first | exact HB.out | apply below_alloc | apply pw_below_drewN | apply below_drew1) | exact HB.out)) hb); clear HB; have HB := n0_; clear n0_; (try clear hb); (try clear hb2); (try clear hk); (try clear hi)))
        repeat (go_quiet (first | (go_at_call 10; (with_reducible refine (celluloidlaw17_awake.calls kj4  t248 _ A9.out).mono ?_); rintro e w10 ⟨rfl, hb⟩; have n0_ := Aside0.mk (below_step (by repeat (first | (with_reducible first | exact HB.out | apply below_alloc | apply pw_below_drewN | apply below_drew1) | exact HB.out)) hb); clear HB; have HB := n0_; clear n0_; (try clear hb); (try clear hb2); (try clear hk); (try clear hi))); try go_wp2_with (first | (go_at_call 10; (with_reducible refine (celluloidlaw17_awake.calls kj4  t248 _ A9.out).mono ?_); rintro e w10 ⟨rfl, hb⟩; have n0_ := Aside0.mk (below_step (by repeat (first | (with_reducible first | exact HB.out | apply below_alloc | apply pw_below_drewN | apply below_drew1) | exact HB.out)) hb); clear HB; have HB := n0_; clear n0_; (try clear hb); (try clear hb2); (try clear hk); (try clear hi))))
        go_ret
        exact ⟨by first | rfl | (simp [errW_none, errW_some] <;> rfl) | (simp [*, errW_none, errW_some] <;> rfl), by repeat (first | (with_reducible first | exact HB.out | apply below_alloc | apply pw_below_drewN | apply below_drew1) | exact HB.out)⟩
      · replace c8 := Bool.eq_false_iff.mpr c8
        subst c8
        have H1 : (celluloidlaw17_SweepTurns.l0 kj4 l0 a1 a2 a3 ([] : List (S27)) (l0.length : Int) 0) = some r := by rw [if_neg (show ¬ (false = true) by decide)] at H; exact H
        clear H
        have H := H1
        clear H1
        have H' := Aside0.mk H
        clear H
        go_wp2
        repeat (go_quiet (fail); try go_wp2)
        go_loopg [9, 31] kj4 (fun kq v9 v31 w' => ∃ (x9_2 : List (S27)) (x31_2 : Int), v31 = .int .i64 x31_2 ∧ Aside0 (celluloidlaw17_SweepTurns.l0 kq l0 a1 a2 a3 x9_2 (l0.length : Int) x31_2 = some r) ∧ Aside0 (kq ≤ kj4) ∧ Aside0 (Kd.R k27 27 w' w.heap.size (fun _ => True) v9 x9_2) ∧ Aside0 (Below w.heap.size w w'))
        case atStart => exact ⟨(([] : List (S27))), (0), (by first | rfl | (simp; done) | (simp [*]; done)), H', ⟨Nat.le_refl _⟩, ⟨by first | exact Kd.R_nil _ _ _ _ _ | exact Kd.N_nil _ _ _ _ _ | exact Kd.V_nil _ _ _ _ _ | exact Kd.Q_nil _ _ _ _ _ | exact Kd.S_nil _ _ _ _ _⟩, ⟨by repeat (first | (with_reducible first | exact HB.out | apply below_alloc | apply pw_below_drewN | apply below_drew1) | exact HB.out)⟩⟩
        case round =>
          clear H'
          try clear p2
          try clear c6
          try clear c6b0
          try clear c6b1
          try clear c7
          try clear c7b0
          try clear c8
          try clear p2
          obtain ⟨x9_2, x31_2, rfl, HA, HK2, HO_9, HB⟩ := hrel
          cases gk with
          | zero => exact absurd HA.out (by simp [celluloidlaw17_SweepTurns.l0])
          | succ k2 =>
            have H := HA.out
            clear HA
            simp only [celluloidlaw17_SweepTurns.l0] at H
            by_cases c11 : x31_2 < (l0.length : Int)
            · rw [if_pos c11] at H
              have c11b0 : decide (x31_2 < (l0.length : Int)) = true := decide_eq_true c11
              clear c11
              obtain ⟨ji12, hji12⟩ : ∃ j_ : Int, (wrap64 ((wrap64 ((l0.length : Int) - 1)) - x31_2)) = j_ := ⟨_, rfl⟩
              replace H : (if 0 ≤ (ji12) then (if (ji12) < (l0.length : Int) then (if 0 ≤ x31_2 then (if (Go.bits .and .u64 (shr .u64 a1 x31_2) 1) = 1 then (if x9_2.length < 2932031007402 then (celluloidlaw17_SweepTurns.l0 k2 l0 a1 a2 a3 (x9_2 ++ [(⟨(⟨(rd_T27 l0 (ji12)).f1.f0, (rd_T27 l0 (ji12)).f1.f1⟩ : S25), (⟨(rd_T27 l0 (ji12)).f0.f0, (rd_T27 l0 (ji12)).f0.f1⟩ : S25), (rd_T27 l0 (ji12)).f3, (rd_T27 l0 (ji12)).f2⟩ : S27)]) (l0.length : Int) (wrap64 (x31_2 + 1))) else (none)) else (if x9_2.length < 2932031007402 then (celluloidlaw17_SweepTurns.l0 k2 l0 a1 a2 a3 (x9_2 ++ [(⟨(⟨(rd_T27 l0 (ji12)).f0.f0, (rd_T27 l0 (ji12)).f0.f1⟩ : S25), (⟨(rd_T27 l0 (ji12)).f1.f0, (rd_T27 l0 (ji12)).f1.f1⟩ : S25), (rd_T27 l0 (ji12)).f2, (rd_T27 l0 (ji12)).f3⟩ : S27)]) (l0.length : Int) (wrap64 (x31_2 + 1))) else (none))) else (none)) else (none)) else (none)) = some r := by first | (rw [hji12] at H; exact H) | (simp only [hji12] at H ⊢; exact H)
              have hji12w : (IntKind.i64.wrap ((wrap64 ((l0.length : Int) - 1)) - x31_2)) = ji12 := (i64_w _).trans hji12
              by_cases c13 : 0 ≤ (ji12)
              · rw [if_pos c13] at H
                have c13b0 : decide (0 ≤ (ji12)) = true := decide_eq_true c13
                clear c13
                by_cases c14 : (ji12) < (l0.length : Int)
                · rw [if_pos c14] at H
                  have c14b0 : decide ((ji12) < (l0.length : Int)) = true := decide_eq_true c14
                  clear c14
                  by_cases c15 : 0 ≤ x31_2
                  · rw [if_pos c15] at H
                    have c15b0 := eq_true c15
                    have c15b1 : decide (0 ≤ x31_2) = true := decide_eq_true c15
                    clear c15
                    obtain ⟨ji16, hji16⟩ : ∃ j_ : Int, (shr .u64 a1 x31_2) = j_ := ⟨_, rfl⟩
                    replace H : (if (Go.bits .and .u64 (ji16) 1) = 1 then (if x9_2.length < 2932031007402 then (celluloidlaw17_SweepTurns.l0 k2 l0 a1 a2 a3 (x9_2 ++ [(⟨(⟨(rd_T27 l0 (ji12)).f1.f0, (rd_T27 l0 (ji12)).f1.f1⟩ : S25), (⟨(rd_T27 l0 (ji12)).f0.f0, (rd_T27 l0 (ji12)).f0.f1⟩ : S25), (rd_T27 l0 (ji12)).f3, (rd_T27 l0 (ji12)).f2⟩ : S27)]) (l0.length : Int) (wrap64 (x31_2 + 1))) else (none)) else (if x9_2.length < 2932031007402 then (celluloidlaw17_SweepTurns.l0 k2 l0 a1 a2 a3 (x9_2 ++ [(⟨(⟨(rd_T27 l0 (ji12)).f0.f0, (rd_T27 l0 (ji12)).f0.f1⟩ : S25), (⟨(rd_T27 l0 (ji12)).f1.f0, (rd_T27 l0 (ji12)).f1.f1⟩ : S25), (rd_T27 l0 (ji12)).f2, (rd_T27 l0 (ji12)).f3⟩ : S27)]) (l0.length : Int) (wrap64 (x31_2 + 1))) else (none))) = some r := by first | (rw [hji16] at H; exact H) | (simp only [hji16] at H ⊢; exact H)
                    have hji16_ : (a1 / 2 ^ min x31_2.toNat 64) = ji16 := hji16
                    have hji16z : x31_2 ≤ 64 → (a1 / 2 ^ x31_2.toNat) = ji16 := shr_small hji16
                    by_cases c17 : (Go.bits .and .u64 (ji16) 1) = 1
                    · rw [if_pos c17] at H
                      have c17b0 : ((Go.bits .and .u64 (ji16) 1) == 1) = true := beq_iff_eq.mpr c17
                      have c17b1 : ((Go.bits .and .u64 (ji16) 1) != 1) = false := bne_eq_false_iff_eq.mpr c17
                      clear c17
                      by_cases c18 : x9_2.length < 2932031007402
                      · rw [if_pos c18] at H
                        have LMc18 := Aside0.mk c18
                        clear c18
                        obtain ⟨y251, hy251⟩ : ∃ y_ : List (S27), y_ = (x9_2 ++ [(⟨(⟨(rd_T27 l0 (ji12)).f1.f0, (rd_T27 l0 (ji12)).f1.f1⟩ : S25), (⟨(rd_T27 l0 (ji12)).f0.f0, (rd_T27 l0 (ji12)).f0.f1⟩ : S25), (rd_T27 l0 (ji12)).f3, (rd_T27 l0 (ji12)).f2⟩ : S27)]) := ⟨_, rfl⟩
                        replace H : (celluloidlaw17_SweepTurns.l0 k2 l0 a1 a2 a3 y251 (l0.length : Int) (wrap64 (x31_2 + 1))) = some r := by first | (rw [hy251]; with_reducible exact H) | (have H2_ := (Option.bind_some _ _).symm.trans H; rw [hy251]; with_reducible exact H2_) | (have H2_ := (Option.bind_some _ _).symm.trans H; with_reducible exact H2_) | with_reducible exact H | (rw [hy251]; exact H) | exact H
                        have Ny251 := Aside0.mk hy251
                        clear hy251
                        have H' := Aside0.mk H
                        clear H
                        have p249 : 0 ≤ ((ji12) : Int) := of_decide_eq_true (by first | (with_reducible assumption) | assumption)
                        have q249 : (ji12) < (l0.length : Int) := of_decide_eq_true (by first | (with_reducible assumption) | assumption)
                        obtain ⟨ad249, e249, hx249_0, hx249_1, hx249_2, hx249_3, hx249_4, hx249_5⟩ := at_T27 HR0.out (ji12) p249 q249
                        cases e249
                        replace hx249_0 := (HB.out.cell (World.block_lt_of_cell? w _ hx249_0)).trans hx249_0
                        replace hx249_1 := (HB.out.cell (World.block_lt_of_cell? w _ hx249_1)).trans hx249_1
                        replace hx249_2 := (HB.out.cell (World.block_lt_of_cell? w _ hx249_2)).trans hx249_2
                        replace hx249_3 := (HB.out.cell (World.block_lt_of_cell? w _ hx249_3)).trans hx249_3
                        replace hx249_4 := (HB.out.cell (World.block_lt_of_cell? w _ hx249_4)).trans hx249_4
                        replace hx249_5 := (HB.out.cell (World.block_lt_of_cell? w _ hx249_5)).trans hx249_5
                        replace p249 := eq_true p249
                        replace q249 := eq_true q249
                        go_wp2_with (((with_reducible refine gate_builtin (b := .append) (xs := #[.tmp 56, .tmp 58]) rfl ?_); (try (refine gate_guard (by rfl) ?_; dsimp only)); at_builtin; refine Kd.R_append k27 (w0 := w) w.heap.size rfl (.tmp 56) (.tmp 58) 22 27 (.agg #[(.int .i64 0), (.int .i64 0), (.int .i64 0), (.int .i64 0), (.int .i64 0), (.int .i64 0)]) 48 rfl Try.underlying22 info27 rfl (by decide) (by omega) u9 x9_2 (⟨(⟨(rd_T27 l0 (ji12)).f1.f0, (rd_T27 l0 (ji12)).f1.f1⟩ : S25), (⟨(rd_T27 l0 (ji12)).f0.f0, (rd_T27 l0 (ji12)).f0.f1⟩ : S25), (rd_T27 l0 (ji12)).f3, (rd_T27 l0 (ji12)).f2⟩ : S27) [.int .i64 ((rd_T27 l0 (ji12)).f1.f0), .int .i64 ((rd_T27 l0 (ji12)).f1.f1), .int .i64 ((rd_T27 l0 (ji12)).f0.f0), .int .i64 ((rd_T27 l0 (ji12)).f0.f1), .int .i64 ((rd_T27 l0 (ji12)).f3), .int .i64 ((rd_T27 l0 (ji12)).f2)] (fun _ => True) (fun _ => False) rfl (by first | rfl | (go_simp; done) | (go_simp; rfl)) ?aP (fun _ hk => hk.elim) ?aF ?aO ?aB ?aS ?aL ?_; (case aP => exact k27_mkM _ _ _ (⟨(⟨(rd_T27 l0 (ji12)).f1.f0, (rd_T27 l0 (ji12)).f1.f1⟩ : S25), (⟨(rd_T27 l0 (ji12)).f0.f0, (rd_T27 l0 (ji12)).f0.f1⟩ : S25), (rd_T27 l0 (ji12)).f3, (rd_T27 l0 (ji12)).f2⟩ : S27)); (case aB => exact (by repeat (first | (with_reducible first | exact HB.out | apply below_alloc | apply pw_below_drewN | apply below_drew1) | exact HB.out))); (case aF => exact (fun _ _ => trivial)); (case aO => exact (by (with_reducible repeat (first | apply Kd.R_alloc | apply Kd.R_drewN | apply Kd.R_drew)); exact HO_9.out)); (case aS => exact (below_size (by repeat (first | (with_reducible first | exact HB.out | apply below_alloc | apply pw_below_drewN | apply below_drew1) | exact HB.out)))); (case aL => have := LMc18.out; omega); intro v252 w21 ho hb hg hat; rw [← Ny251.out] at ho; have n1_ := Aside0.mk hb; have n2_ := Aside0.mk ho; clear HB; clear HO_9; have HB := n1_; have HO253 := n2_; clear n1_ n2_; clear ho hb hg hat))
                        repeat (go_quiet (((with_reducible refine gate_builtin (b := .append) (xs := #[.tmp 56, .tmp 58]) rfl ?_); (try (refine gate_guard (by rfl) ?_; dsimp only)); at_builtin; refine Kd.R_append k27 (w0 := w) w.heap.size rfl (.tmp 56) (.tmp 58) 22 27 (.agg #[(.int .i64 0), (.int .i64 0), (.int .i64 0), (.int .i64 0), (.int .i64 0), (.int .i64 0)]) 48 rfl Try.underlying22 info27 rfl (by decide) (by omega) u9 x9_2 (⟨(⟨(rd_T27 l0 (ji12)).f1.f0, (rd_T27 l0 (ji12)).f1.f1⟩ : S25), (⟨(rd_T27 l0 (ji12)).f0.f0, (rd_T27 l0 (ji12)).f0.f1⟩ : S25), (rd_T27 l0 (ji12)).f3, (rd_T27 l0 (ji12)).f2⟩ : S27) [.int .i64 ((rd_T27 l0 (ji12)).f1.f0), .int .i64 ((rd_T27 l0 (ji12)).f1.f1), .int .i64 ((rd_T27 l0 (ji12)).f0.f0), .int .i64 ((rd_T27 l0 (ji12)).f0.f1), .int .i64 ((rd_T27 l0 (ji12)).f3), .int .i64 ((rd_T27 l0 (ji12)).f2)] (fun _ => True) (fun _ => False) rfl (by first | rfl | (go_simp; done) | (go_simp; rfl)) ?aP (fun _ hk => hk.elim) ?aF ?aO ?aB ?aS ?aL ?_; (case aP => exact k27_mkM _ _ _ (⟨(⟨(rd_T27 l0 (ji12)).f1.f0, (rd_T27 l0 (ji12)).f1.f1⟩ : S25), (⟨(rd_T27 l0 (ji12)).f0.f0, (rd_T27 l0 (ji12)).f0.f1⟩ : S25), (rd_T27 l0 (ji12)).f3, (rd_T27 l0 (ji12)).f2⟩ : S27)); (case aB => exact (by repeat (first | (with_reducible first | exact HB.out | apply below_alloc | apply pw_below_drewN | apply below_drew1) | exact HB.out))); (case aF => exact (fun _ _ => trivial)); (case aO => exact (by (with_reducible repeat (first | apply Kd.R_alloc | apply Kd.R_drewN | apply Kd.R_drew)); exact HO_9.out)); (case aS => exact (below_size (by repeat (first | (with_reducible first | exact HB.out | apply below_alloc | apply pw_below_drewN | apply below_drew1) | exact HB.out)))); (case aL => have := LMc18.out; omega); intro v252 w21 ho hb hg hat; rw [← Ny251.out] at ho; have n1_ := Aside0.mk hb; have n2_ := Aside0.mk ho; clear HB; clear HO_9; have HB := n1_; have HO253 := n2_; clear n1_ n2_; clear ho hb hg hat)); try go_wp2_with (((with_reducible refine gate_builtin (b := .append) (xs := #[.tmp 56, .tmp 58]) rfl ?_); (try (refine gate_guard (by rfl) ?_; dsimp only)); at_builtin; refine Kd.R_append k27 (w0 := w) w.heap.size rfl (.tmp 56) (.tmp 58) 22 27 (.agg #[(.int .i64 0), (.int .i64 0), (.int .i64 0), (.int .i64 0), (.int .i64 0), (.int .i64 0)]) 48 rfl Try.underlying22 info27 rfl (by decide) (by omega) u9 x9_2 (⟨(⟨(rd_T27 l0 (ji12)).f1.f0, (rd_T27 l0 (ji12)).f1.f1⟩ : S25), (⟨(rd_T27 l0 (ji12)).f0.f0, (rd_T27 l0 (ji12)).f0.f1⟩ : S25), (rd_T27 l0 (ji12)).f3, (rd_T27 l0 (ji12)).f2⟩ : S27) [.int .i64 ((rd_T27 l0 (ji12)).f1.f0), .int .i64 ((rd_T27 l0 (ji12)).f1.f1), .int .i64 ((rd_T27 l0 (ji12)).f0.f0), .int .i64 ((rd_T27 l0 (ji12)).f0.f1), .int .i64 ((rd_T27 l0 (ji12)).f3), .int .i64 ((rd_T27 l0 (ji12)).f2)] (fun _ => True) (fun _ => False) rfl (by first | rfl | (go_simp; done) | (go_simp; rfl)) ?aP (fun _ hk => hk.elim) ?aF ?aO ?aB ?aS ?aL ?_; (case aP => exact k27_mkM _ _ _ (⟨(⟨(rd_T27 l0 (ji12)).f1.f0, (rd_T27 l0 (ji12)).f1.f1⟩ : S25), (⟨(rd_T27 l0 (ji12)).f0.f0, (rd_T27 l0 (ji12)).f0.f1⟩ : S25), (rd_T27 l0 (ji12)).f3, (rd_T27 l0 (ji12)).f2⟩ : S27)); (case aB => exact (by repeat (first | (with_reducible first | exact HB.out | apply below_alloc | apply pw_below_drewN | apply below_drew1) | exact HB.out))); (case aF => exact (fun _ _ => trivial)); (case aO => exact (by (with_reducible repeat (first | apply Kd.R_alloc | apply Kd.R_drewN | apply Kd.R_drew)); exact HO_9.out)); (case aS => exact (below_size (by repeat (first | (with_reducible first | exact HB.out | apply below_alloc | apply pw_below_drewN | apply below_drew1) | exact HB.out)))); (case aL => have := LMc18.out; omega); intro v252 w21 ho hb hg hat; rw [← Ny251.out] at ho; have n1_ := Aside0.mk hb; have n2_ := Aside0.mk ho; clear HB; clear HO_9; have HB := n1_; have HO253 := n2_; clear n1_ n2_; clear ho hb hg hat)))
                        go_roundg k2
                        case measure => have := HJ4.out; have := HK2.out; omega
                        case rel => exact ⟨(y251), (wrap64 (x31_2 + 1)), (by first | rfl | (simp; done) | (simp [*]; done)), H', ⟨by have := HJ4.out; have := HK2.out; omega⟩, ⟨by (with_reducible repeat (first | apply Kd.R_alloc | apply Kd.R_drewN | apply Kd.R_drew)); exact HO253.out⟩, ⟨by repeat (first | (with_reducible first | exact HB.out | apply below_alloc | apply pw_below_drewN | apply below_drew1) | exact HB.out)⟩⟩
                      · rw [if_neg c18] at H
                        exact absurd H (by simp)
                    · rw [if_neg c17] at H
                      have c17b0 : ((Go.bits .and .u64 (ji16) 1) == 1) = false := beq_eq_false_iff_ne.mpr c17
                      have c17b1 : ((Go.bits .and .u64 (ji16) 1) != 1) = true := bne_iff_ne.mpr c17
                      by_cases c22 : x9_2.length < 2932031007402
                      · rw [if_pos c22] at H
                        have LMc22 := Aside0.mk c22
                        clear c22
                        obtain ⟨y254, hy254⟩ : ∃ y_ : List (S27), y_ = (x9_2 ++ [(⟨(⟨(rd_T27 l0 (ji12)).f0.f0, (rd_T27 l0 (ji12)).f0.f1⟩ : S25), (⟨(rd_T27 l0 (ji12)).f1.f0, (rd_T27 l0 (ji12)).f1.f1⟩ : S25), (rd_T27 l0 (ji12)).f2, (rd_T27 l0 (ji12)).f3⟩ : S27)]) := ⟨_, rfl⟩
                        replace H : (celluloidlaw17_SweepTurns.l0 k2 l0 a1 a2 a3 y254 (l0.length : Int) (wrap64 (x31_2 + 1))) = some r := by first | (rw [hy254]; with_reducible exact H) | (have H2_ := (Option.bind_some _ _).symm.trans H; rw [hy254]; with_reducible exact H2_) | (have H2_ := (Option.bind_some _ _).symm.trans H; with_reducible exact H2_) | with_reducible exact H | (rw [hy254]; exact H) | exact H
                        have Ny254 := Aside0.mk hy254
                        clear hy254
                        have H' := Aside0.mk H
                        clear H
                        have p249 : 0 ≤ ((ji12) : Int) := of_decide_eq_true (by first | (with_reducible assumption) | assumption)
                        have q249 : (ji12) < (l0.length : Int) := of_decide_eq_true (by first | (with_reducible assumption) | assumption)
                        obtain ⟨ad249, e249, hx249_0, hx249_1, hx249_2, hx249_3, hx249_4, hx249_5⟩ := at_T27 HR0.out (ji12) p249 q249
                        cases e249
                        replace hx249_0 := (HB.out.cell (World.block_lt_of_cell? w _ hx249_0)).trans hx249_0
                        replace hx249_1 := (HB.out.cell (World.block_lt_of_cell? w _ hx249_1)).trans hx249_1
                        replace hx249_2 := (HB.out.cell (World.block_lt_of_cell? w _ hx249_2)).trans hx249_2
                        replace hx249_3 := (HB.out.cell (World.block_lt_of_cell? w _ hx249_3)).trans hx249_3
                        replace hx249_4 := (HB.out.cell (World.block_lt_of_cell? w _ hx249_4)).trans hx249_4
                        replace hx249_5 := (HB.out.cell (World.block_lt_of_cell? w _ hx249_5)).trans hx249_5
                        replace p249 := eq_true p249
                        replace q249 := eq_true q249
                        go_wp2_with (((with_reducible refine gate_builtin (b := .append) (xs := #[.tmp 56, .tmp 58]) rfl ?_); (try (refine gate_guard (by rfl) ?_; dsimp only)); at_builtin; refine Kd.R_append k27 (w0 := w) w.heap.size rfl (.tmp 56) (.tmp 58) 22 27 (.agg #[(.int .i64 0), (.int .i64 0), (.int .i64 0), (.int .i64 0), (.int .i64 0), (.int .i64 0)]) 48 rfl Try.underlying22 info27 rfl (by decide) (by omega) u9 x9_2 (⟨(⟨(rd_T27 l0 (ji12)).f0.f0, (rd_T27 l0 (ji12)).f0.f1⟩ : S25), (⟨(rd_T27 l0 (ji12)).f1.f0, (rd_T27 l0 (ji12)).f1.f1⟩ : S25), (rd_T27 l0 (ji12)).f2, (rd_T27 l0 (ji12)).f3⟩ : S27) [.int .i64 ((rd_T27 l0 (ji12)).f0.f0), .int .i64 ((rd_T27 l0 (ji12)).f0.f1), .int .i64 ((rd_T27 l0 (ji12)).f1.f0), .int .i64 ((rd_T27 l0 (ji12)).f1.f1), .int .i64 ((rd_T27 l0 (ji12)).f2), .int .i64 ((rd_T27 l0 (ji12)).f3)] (fun _ => True) (fun _ => False) rfl (by first | rfl | (go_simp; done) | (go_simp; rfl)) ?aP (fun _ hk => hk.elim) ?aF ?aO ?aB ?aS ?aL ?_; (case aP => exact k27_mkM _ _ _ (⟨(⟨(rd_T27 l0 (ji12)).f0.f0, (rd_T27 l0 (ji12)).f0.f1⟩ : S25), (⟨(rd_T27 l0 (ji12)).f1.f0, (rd_T27 l0 (ji12)).f1.f1⟩ : S25), (rd_T27 l0 (ji12)).f2, (rd_T27 l0 (ji12)).f3⟩ : S27)); (case aB => exact (by repeat (first | (with_reducible first | exact HB.out | apply below_alloc | apply pw_below_drewN | apply below_drew1) | exact HB.out))); (case aF => exact (fun _ _ => trivial)); (case aO => exact (by (with_reducible repeat (first | apply Kd.R_alloc | apply Kd.R_drewN | apply Kd.R_drew)); exact HO_9.out)); (case aS => exact (below_size (by repeat (first | (with_reducible first | exact HB.out | apply below_alloc | apply pw_below_drewN | apply below_drew1) | exact HB.out)))); (case aL => have := LMc22.out; omega); intro v255 w25 ho hb hg hat; rw [← Ny254.out] at ho; have n1_ := Aside0.mk hb; have n2_ := Aside0.mk ho; clear HB; clear HO_9; have HB := n1_; have HO256 := n2_; clear n1_ n2_; clear ho hb hg hat))
                        repeat (go_quiet (((with_reducible refine gate_builtin (b := .append) (xs := #[.tmp 56, .tmp 58]) rfl ?_); (try (refine gate_guard (by rfl) ?_; dsimp only)); at_builtin; refine Kd.R_append k27 (w0 := w) w.heap.size rfl (.tmp 56) (.tmp 58) 22 27 (.agg #[(.int .i64 0), (.int .i64 0), (.int .i64 0), (.int .i64 0), (.int .i64 0), (.int .i64 0)]) 48 rfl Try.underlying22 info27 rfl (by decide) (by omega) u9 x9_2 (⟨(⟨(rd_T27 l0 (ji12)).f0.f0, (rd_T27 l0 (ji12)).f0.f1⟩ : S25), (⟨(rd_T27 l0 (ji12)).f1.f0, (rd_T27 l0 (ji12)).f1.f1⟩ : S25), (rd_T27 l0 (ji12)).f2, (rd_T27 l0 (ji12)).f3⟩ : S27) [.int .i64 ((rd_T27 l0 (ji12)).f0.f0), .int .i64 ((rd_T27 l0 (ji12)).f0.f1), .int .i64 ((rd_T27 l0 (ji12)).f1.f0), .int .i64 ((rd_T27 l0 (ji12)).f1.f1), .int .i64 ((rd_T27 l0 (ji12)).f2), .int .i64 ((rd_T27 l0 (ji12)).f3)] (fun _ => True) (fun _ => False) rfl (by first | rfl | (go_simp; done) | (go_simp; rfl)) ?aP (fun _ hk => hk.elim) ?aF ?aO ?aB ?aS ?aL ?_; (case aP => exact k27_mkM _ _ _ (⟨(⟨(rd_T27 l0 (ji12)).f0.f0, (rd_T27 l0 (ji12)).f0.f1⟩ : S25), (⟨(rd_T27 l0 (ji12)).f1.f0, (rd_T27 l0 (ji12)).f1.f1⟩ : S25), (rd_T27 l0 (ji12)).f2, (rd_T27 l0 (ji12)).f3⟩ : S27)); (case aB => exact (by repeat (first | (with_reducible first | exact HB.out | apply below_alloc | apply pw_below_drewN | apply below_drew1) | exact HB.out))); (case aF => exact (fun _ _ => trivial)); (case aO => exact (by (with_reducible repeat (first | apply Kd.R_alloc | apply Kd.R_drewN | apply Kd.R_drew)); exact HO_9.out)); (case aS => exact (below_size (by repeat (first | (with_reducible first | exact HB.out | apply below_alloc | apply pw_below_drewN | apply below_drew1) | exact HB.out)))); (case aL => have := LMc22.out; omega); intro v255 w25 ho hb hg hat; rw [← Ny254.out] at ho; have n1_ := Aside0.mk hb; have n2_ := Aside0.mk ho; clear HB; clear HO_9; have HB := n1_; have HO256 := n2_; clear n1_ n2_; clear ho hb hg hat)); try go_wp2_with (((with_reducible refine gate_builtin (b := .append) (xs := #[.tmp 56, .tmp 58]) rfl ?_); (try (refine gate_guard (by rfl) ?_; dsimp only)); at_builtin; refine Kd.R_append k27 (w0 := w) w.heap.size rfl (.tmp 56) (.tmp 58) 22 27 (.agg #[(.int .i64 0), (.int .i64 0), (.int .i64 0), (.int .i64 0), (.int .i64 0), (.int .i64 0)]) 48 rfl Try.underlying22 info27 rfl (by decide) (by omega) u9 x9_2 (⟨(⟨(rd_T27 l0 (ji12)).f0.f0, (rd_T27 l0 (ji12)).f0.f1⟩ : S25), (⟨(rd_T27 l0 (ji12)).f1.f0, (rd_T27 l0 (ji12)).f1.f1⟩ : S25), (rd_T27 l0 (ji12)).f2, (rd_T27 l0 (ji12)).f3⟩ : S27) [.int .i64 ((rd_T27 l0 (ji12)).f0.f0), .int .i64 ((rd_T27 l0 (ji12)).f0.f1), .int .i64 ((rd_T27 l0 (ji12)).f1.f0), .int .i64 ((rd_T27 l0 (ji12)).f1.f1), .int .i64 ((rd_T27 l0 (ji12)).f2), .int .i64 ((rd_T27 l0 (ji12)).f3)] (fun _ => True) (fun _ => False) rfl (by first | rfl | (go_simp; done) | (go_simp; rfl)) ?aP (fun _ hk => hk.elim) ?aF ?aO ?aB ?aS ?aL ?_; (case aP => exact k27_mkM _ _ _ (⟨(⟨(rd_T27 l0 (ji12)).f0.f0, (rd_T27 l0 (ji12)).f0.f1⟩ : S25), (⟨(rd_T27 l0 (ji12)).f1.f0, (rd_T27 l0 (ji12)).f1.f1⟩ : S25), (rd_T27 l0 (ji12)).f2, (rd_T27 l0 (ji12)).f3⟩ : S27)); (case aB => exact (by repeat (first | (with_reducible first | exact HB.out | apply below_alloc | apply pw_below_drewN | apply below_drew1) | exact HB.out))); (case aF => exact (fun _ _ => trivial)); (case aO => exact (by (with_reducible repeat (first | apply Kd.R_alloc | apply Kd.R_drewN | apply Kd.R_drew)); exact HO_9.out)); (case aS => exact (below_size (by repeat (first | (with_reducible first | exact HB.out | apply below_alloc | apply pw_below_drewN | apply below_drew1) | exact HB.out)))); (case aL => have := LMc22.out; omega); intro v255 w25 ho hb hg hat; rw [← Ny254.out] at ho; have n1_ := Aside0.mk hb; have n2_ := Aside0.mk ho; clear HB; clear HO_9; have HB := n1_; have HO256 := n2_; clear n1_ n2_; clear ho hb hg hat)))
                        go_roundg k2
                        case measure => have := HJ4.out; have := HK2.out; omega
                        case rel => exact ⟨(y254), (wrap64 (x31_2 + 1)), (by first | rfl | (simp; done) | (simp [*]; done)), H', ⟨by have := HJ4.out; have := HK2.out; omega⟩, ⟨by (with_reducible repeat (first | apply Kd.R_alloc | apply Kd.R_drewN | apply Kd.R_drew)); exact HO256.out⟩, ⟨by repeat (first | (with_reducible first | exact HB.out | apply below_alloc | apply pw_below_drewN | apply below_drew1) | exact HB.out)⟩⟩
                      · rw [if_neg c22] at H
                        exact absurd H (by simp)
                  · rw [if_neg c15] at H
                    exact absurd H (by simp)
                · rw [if_neg c14] at H
                  exact absurd H (by simp)
              · rw [if_neg c13] at H
                exact absurd H (by simp)
            · rw [if_neg c11] at H
              have c11b0 : decide (x31_2 < (l0.length : Int)) = false := decide_eq_false c11
              clear c11
              replace H := Option.bind_eq_some_iff.mp H
              obtain ⟨⟨t257, t258⟩, A260, H⟩ := H
              replace H : ((sweep_Owners.f k2 x9_2 a2 a3).bind fun bt261 => (if t258 = bt261.2 then (celluloidlaw17_SweepTurns.j2 k2 t257 bt261.1 ((t257.length : Int) != (bt261.1.length : Int))) else (celluloidlaw17_SweepTurns.j2 k2 t257 bt261.1 true))) = some r := H
              have A26 := Aside0.mk A260
              clear A260
              replace H := Option.bind_eq_some_iff.mp H
              obtain ⟨⟨t261, t262⟩, A270, H⟩ := H
              replace H : (if t258 = t262 then (celluloidlaw17_SweepTurns.j2 k2 t257 t261 ((t257.length : Int) != (t261.length : Int))) else (celluloidlaw17_SweepTurns.j2 k2 t257 t261 true)) = some r := H
              have A27 := Aside0.mk A270
              clear A270
              have HC28 := Aside0.mk H
              clear H
              go_upto_region 14 with (first | (go_at_call 17; (with_reducible refine (sweep_Owners.calls k2 _ _ l0 a2 a3 t257 t258 _ ?side1 ?side2 A26.out).mono ?_); (case side1 => repeat (first | exact (Kd.C_below HR0.out HB.out) | (with_reducible refine Kd.C_alloc ?_ _) | (with_reducible refine Kd.C_drewN ?_ _) | (with_reducible refine Kd.C_drew ?_))); (case side2 => exact HC0.out); rintro e w29 ⟨v259, rfl, ho0, hb⟩; have n0_ := Aside0.mk (Kd.R_below (by (with_reducible repeat (first | apply Kd.R_alloc | apply Kd.R_drewN | apply Kd.R_drew)); exact HO_9.out) hb); have n1_ := Aside0.mk (Kd.R_lower ho0 (below_size (by repeat (first | (with_reducible first | exact HB.out | apply below_alloc | apply pw_below_drewN | apply below_drew1) | exact HB.out)))); have n2_ := Aside0.mk (below_step (by repeat (first | (with_reducible first | exact HB.out | apply below_alloc | apply pw_below_drewN | apply below_drew1) | exact HB.out)) hb); clear HO_9; clear HB; have HO_9 := n0_; have HO260 := n1_; have HB := n2_; clear n0_ n1_ n2_; (try clear hb); (try clear hb2); (try clear hk); (try clear hi); (try clear ho0); obtain ⟨Ao30, co30, eo30⟩ := Kd.R_slice HO_9.out; subst eo30) | (go_at_call 17; (with_reducible refine (sweep_Owners.calls k2 _ _ x9_2 a2 a3 t261 t262 _ ?side1 ?side2 A27.out).mono ?_); (case side1 => repeat (first | exact (Kd.R_reads' HO_9.out).2.2 | (with_reducible refine Kd.C_alloc ?_ _) | (with_reducible refine Kd.C_drewN ?_ _) | (with_reducible refine Kd.C_drew ?_))); (case side2 => exact (Kd.R_reads' HO_9.out).2.1); rintro e w31 ⟨v263, rfl, ho0, hb⟩; have n0_ := Aside0.mk (Kd.R_below (by (with_reducible repeat (first | apply Kd.R_alloc | apply Kd.R_drewN | apply Kd.R_drew)); exact HO_9.out) hb); have n1_ := Aside0.mk (Kd.R_elder' (by (with_reducible repeat (first | apply Kd.R_alloc | apply Kd.R_drewN | apply Kd.R_drew)); exact HO260.out) (Kd.R_base ho0) hb); have n2_ := Aside0.mk (Kd.R_lower (Kd.R_new' ho0 (Kd.R_lt (by (with_reducible repeat (first | apply Kd.R_alloc | apply Kd.R_drewN | apply Kd.R_drew)); exact HO260.out))) (below_size (by repeat (first | (with_reducible first | exact HB.out | apply below_alloc | apply pw_below_drewN | apply below_drew1) | exact HB.out)))); have n3_ := Aside0.mk (below_step (by repeat (first | (with_reducible first | exact HB.out | apply below_alloc | apply pw_below_drewN | apply below_drew1) | exact HB.out)) hb); clear HO_9; clear HO260; clear HB; have HO_9 := n0_; have HO260 := n1_; have HO264 := n2_; have HB := n3_; clear n0_ n1_ n2_ n3_; (try clear hb); (try clear hb2); (try clear hk); (try clear hi); (try clear ho0)))
              repeat (go_quiet (first | (go_at_call 17; (with_reducible refine (sweep_Owners.calls k2 _ _ l0 a2 a3 t257 t258 _ ?side1 ?side2 A26.out).mono ?_); (case side1 => repeat (first | exact (Kd.C_below HR0.out HB.out) | (with_reducible refine Kd.C_alloc ?_ _) | (with_reducible refine Kd.C_drewN ?_ _) | (with_reducible refine Kd.C_drew ?_))); (case side2 => exact HC0.out); rintro e w29 ⟨v259, rfl, ho0, hb⟩; have n0_ := Aside0.mk (Kd.R_below (by (with_reducible repeat (first | apply Kd.R_alloc | apply Kd.R_drewN | apply Kd.R_drew)); exact HO_9.out) hb); have n1_ := Aside0.mk (Kd.R_lower ho0 (below_size (by repeat (first | (with_reducible first | exact HB.out | apply below_alloc | apply pw_below_drewN | apply below_drew1) | exact HB.out)))); have n2_ := Aside0.mk (below_step (by repeat (first | (with_reducible first | exact HB.out | apply below_alloc | apply pw_below_drewN | apply below_drew1) | exact HB.out)) hb); clear HO_9; clear HB; have HO_9 := n0_; have HO260 := n1_; have HB := n2_; clear n0_ n1_ n2_; (try clear hb); (try clear hb2); (try clear hk); (try clear hi); (try clear ho0); obtain ⟨Ao30, co30, eo30⟩ := Kd.R_slice HO_9.out; subst eo30) | (go_at_call 17; (with_reducible refine (sweep_Owners.calls k2 _ _ x9_2 a2 a3 t261 t262 _ ?side1 ?side2 A27.out).mono ?_); (case side1 => repeat (first | exact (Kd.R_reads' HO_9.out).2.2 | (with_reducible refine Kd.C_alloc ?_ _) | (with_reducible refine Kd.C_drewN ?_ _) | (with_reducible refine Kd.C_drew ?_))); (case side2 => exact (Kd.R_reads' HO_9.out).2.1); rintro e w31 ⟨v263, rfl, ho0, hb⟩; have n0_ := Aside0.mk (Kd.R_below (by (with_reducible repeat (first | apply Kd.R_alloc | apply Kd.R_drewN | apply Kd.R_drew)); exact HO_9.out) hb); have n1_ := Aside0.mk (Kd.R_elder' (by (with_reducible repeat (first | apply Kd.R_alloc | apply Kd.R_drewN | apply Kd.R_drew)); exact HO260.out) (Kd.R_base ho0) hb); have n2_ := Aside0.mk (Kd.R_lower (Kd.R_new' ho0 (Kd.R_lt (by (with_reducible repeat (first | apply Kd.R_alloc | apply Kd.R_drewN | apply Kd.R_drew)); exact HO260.out))) (below_size (by repeat (first | (with_reducible first | exact HB.out | apply below_alloc | apply pw_below_drewN | apply below_drew1) | exact HB.out)))); have n3_ := Aside0.mk (below_step (by repeat (first | (with_reducible first | exact HB.out | apply below_alloc | apply pw_below_drewN | apply below_drew1) | exact HB.out)) hb); clear HO_9; clear HO260; clear HB; have HO_9 := n0_; have HO260 := n1_; have HO264 := n2_; have HB := n3_; clear n0_ n1_ n2_ n3_; (try clear hb); (try clear hb2); (try clear hk); (try clear hi); (try clear ho0))); go_upto_region 14 with (first | (go_at_call 17; (with_reducible refine (sweep_Owners.calls k2 _ _ l0 a2 a3 t257 t258 _ ?side1 ?side2 A26.out).mono ?_); (case side1 => repeat (first | exact (Kd.C_below HR0.out HB.out) | (with_reducible refine Kd.C_alloc ?_ _) | (with_reducible refine Kd.C_drewN ?_ _) | (with_reducible refine Kd.C_drew ?_))); (case side2 => exact HC0.out); rintro e w29 ⟨v259, rfl, ho0, hb⟩; have n0_ := Aside0.mk (Kd.R_below (by (with_reducible repeat (first | apply Kd.R_alloc | apply Kd.R_drewN | apply Kd.R_drew)); exact HO_9.out) hb); have n1_ := Aside0.mk (Kd.R_lower ho0 (below_size (by repeat (first | (with_reducible first | exact HB.out | apply below_alloc | apply pw_below_drewN | apply below_drew1) | exact HB.out)))); have n2_ := Aside0.mk (below_step (by repeat (first | (with_reducible first | exact HB.out | apply below_alloc | apply pw_below_drewN | apply below_drew1) | exact HB.out)) hb); clear HO_9; clear HB; have HO_9 := n0_; have HO260 := n1_; have HB := n2_; clear n0_ n1_ n2_; (try clear hb); (try clear hb2); (try clear hk); (try clear hi); (try clear ho0); obtain ⟨Ao30, co30, eo30⟩ := Kd.R_slice HO_9.out; subst eo30) | (go_at_call 17; (with_reducible refine (sweep_Owners.calls k2 _ _ x9_2 a2 a3 t261 t262 _ ?side1 ?side2 A27.out).mono ?_); (case side1 => repeat (first | exact (Kd.R_reads' HO_9.out).2.2 | (with_reducible refine Kd.C_alloc ?_ _) | (with_reducible refine Kd.C_drewN ?_ _) | (with_reducible refine Kd.C_drew ?_))); (case side2 => exact (Kd.R_reads' HO_9.out).2.1); rintro e w31 ⟨v263, rfl, ho0, hb⟩; have n0_ := Aside0.mk (Kd.R_below (by (with_reducible repeat (first | apply Kd.R_alloc | apply Kd.R_drewN | apply Kd.R_drew)); exact HO_9.out) hb); have n1_ := Aside0.mk (Kd.R_elder' (by (with_reducible repeat (first | apply Kd.R_alloc | apply Kd.R_drewN | apply Kd.R_drew)); exact HO260.out) (Kd.R_base ho0) hb); have n2_ := Aside0.mk (Kd.R_lower (Kd.R_new' ho0 (Kd.R_lt (by (with_reducible repeat (first | apply Kd.R_alloc | apply Kd.R_drewN | apply Kd.R_drew)); exact HO260.out))) (below_size (by repeat (first | (with_reducible first | exact HB.out | apply below_alloc | apply pw_below_drewN | apply below_drew1) | exact HB.out)))); have n3_ := Aside0.mk (below_step (by repeat (first | (with_reducible first | exact HB.out | apply below_alloc | apply pw_below_drewN | apply below_drew1) | exact HB.out)) hb); clear HO_9; clear HO260; clear HB; have HO_9 := n0_; have HO260 := n1_; have HO264 := n2_; have HB := n3_; clear n0_ n1_ n2_ n3_; (try clear hb); (try clear hb2); (try clear hk); (try clear hi); (try clear ho0))))
              (try simp only [Act.put, List.setIfInBounds_toArray, List.set_cons_zero, List.set_cons_succ])
              go_cut [84] (fun v84 wc => ∃ (kq : Nat) (x84_27 : Bool), v84 = .bool x84_27 ∧ Aside0 (celluloidlaw17_SweepTurns.j2 kq t257 t261 x84_27 = some r) ∧ Aside0 (kq ≤ k2) ∧ Aside0 (Kd.R (Kd.int .i64) 3 wc w.heap.size (fun k_ => some k_ ≠ (v263 : Value).ownBlock) v259 t257) ∧ Aside0 (Kd.R (Kd.int .i64) 3 wc w.heap.size (fun k_ => some k_ ≠ (v259 : Value).ownBlock) v263 t261) ∧ Aside0 (Below w.heap.size w wc))
              case first =>
                have H := HC28.out
                clear HC28
                by_cases c32 : t258 = t262
                · rw [if_pos c32] at H
                  have c32b0 : (t258 == t262) = true := beq_iff_eq.mpr c32
                  have c32b1 : (t258 != t262) = false := bne_eq_false_iff_eq.mpr c32
                  clear c32
                  (first | rw [c32b0] | (simp only [i64_w, i32_w]; rw [c32b0]) | skip)
                  have H' := Aside0.mk H
                  clear H
                  obtain ⟨Ao33, co33, eo33⟩ := Kd.R_slice HO260.out
                  subst eo33
                  obtain ⟨Ao34, co34, eo34⟩ := Kd.R_slice HO264.out
                  subst eo34
                  go_wp2
                  repeat (go_quiet (fail); try go_wp2)
                  go_meet
                  case rel => exact ⟨_, (((t257.length : Int) != (t261.length : Int))), (by first | rfl | (simp; done) | (simp [*]; done)), H', ⟨by have := HJ4.out; have := HK2.out; first | omega | exact Nat.le_refl _⟩, ⟨by (with_reducible repeat (first | apply Kd.R_alloc | apply Kd.R_drewN | apply Kd.R_drew)); exact Kd.R_mono HO260.out (fun _ hk => hk.2)⟩, ⟨by (with_reducible repeat (first | apply Kd.R_alloc | apply Kd.R_drewN | apply Kd.R_drew)); exact Kd.R_mono HO264.out (fun _ hk => hk.2)⟩, ⟨by repeat (first | (with_reducible first | exact HB.out | apply below_alloc | apply pw_below_drewN | apply below_drew1) | exact HB.out)⟩⟩
                · rw [if_neg c32] at H
                  have c32b0 : (t258 == t262) = false := beq_eq_false_iff_ne.mpr c32
                  have c32b1 : (t258 != t262) = true := bne_iff_ne.mpr c32
                  (first | rw [c32b0] | (simp only [i64_w, i32_w]; rw [c32b0]) | skip)
                  have H' := Aside0.mk H
                  clear H
                  go_wp2
                  repeat (go_quiet (fail); try go_wp2)
                  go_meet
                  case rel => exact ⟨_, (true), (by first | rfl | (simp; done) | (simp [*]; done)), H', ⟨by have := HJ4.out; have := HK2.out; first | omega | exact Nat.le_refl _⟩, ⟨by (with_reducible repeat (first | apply Kd.R_alloc | apply Kd.R_drewN | apply Kd.R_drew)); exact Kd.R_mono HO260.out (fun _ hk => hk.2)⟩, ⟨by (with_reducible repeat (first | apply Kd.R_alloc | apply Kd.R_drewN | apply Kd.R_drew)); exact Kd.R_mono HO264.out (fun _ hk => hk.2)⟩, ⟨by repeat (first | (with_reducible first | exact HB.out | apply below_alloc | apply pw_below_drewN | apply below_drew1) | exact HB.out)⟩⟩
              case rest =>
                clear HC28
                try clear c1
                try clear c2
                try clear p2
                try clear q2
                try clear hx2
                try clear c3
                try clear c6
                try clear c6b0
                try clear c6b1
                try clear p6
                try clear c7
                try clear c7b0
                try clear c8
                try clear c11
                try clear c11b0
                try clear c13
                try clear c13b0
                try clear c14
                try clear c14b0
                try clear c15
                try clear c15b0
                try clear c15b1
                try clear c17
                try clear c17b0
                try clear c17b1
                try clear c18
                try clear c22
                try clear p24
                try clear q24
                try clear hx24
                try clear c32
                try clear c32b0
                try clear c32b1
                try clear hcz20_0
                try clear hcz20_1
                try clear hcz20_2
                try clear hcz20_3
                try clear hcz20_4
                try clear hcz20_5
                try clear hcz24_0
                try clear hcz24_1
                try clear hcz24_2
                try clear hcz24_3
                try clear hcz24_4
                try clear hcz24_5
                try clear hfz20_0
                try clear hfz20_1
                try clear hfz20_2
                try clear hfz20_3
                try clear hfz20_4
                try clear hfz20_5
                try clear hfz24_0
                try clear hfz24_1
                try clear hfz24_2
                try clear hfz24_3
                try clear hfz24_4
                try clear hfz24_5
                try clear hx249_0
                try clear hx249_1
                try clear hx249_2
                try clear hx249_3
                try clear hx249_4
                try clear hx249_5
                try clear p2
                try clear p249
                try clear q249
                obtain ⟨kq, x84_27, rfl, HA, HJ27, HO_12, HO_14, HB⟩ := hcut
                cases kq with
                | zero => exact absurd HA.out (by simp [celluloidlaw17_SweepTurns.j2])
                | succ kj27 =>
                  have H := HA.out
                  clear HA
                  simp only [celluloidlaw17_SweepTurns.j2] at H
                  by_cases c35 : x84_27 = true
                  · subst c35
                    have H1 : (some false) = some r := by rw [if_pos rfl] at H; exact H
                    clear H
                    have H := H1
                    clear H1
                    obtain rfl := Option.some.inj H
                    go_wp2
                    repeat (go_quiet (fail); try go_wp2)
                    go_ret
                    exact ⟨by first | rfl | (simp [errW_none, errW_some] <;> rfl) | (simp [*, errW_none, errW_some] <;> rfl), by repeat (first | (with_reducible first | exact HB.out | apply below_alloc | apply pw_below_drewN | apply below_drew1) | exact HB.out)⟩
                  · replace c35 := Bool.eq_false_iff.mpr c35
                    subst c35
                    have H1 : (celluloidlaw17_SweepTurns.l1 kj27 t257 t261 (t257.length : Int) 0) = some r := by rw [if_neg (show ¬ (false = true) by decide)] at H; exact H
                    clear H
                    have H := H1
                    clear H1
                    have H' := Aside0.mk H
                    clear H
                    obtain ⟨Ao36, co36, eo36⟩ := Kd.R_slice HO_12.out
                    subst eo36
                    go_wp2
                    repeat (go_quiet (fail); try go_wp2)
                    go_loopg [87] kj27 (fun kq v87 w' => ∃ (x87_4 : Int), v87 = .int .i64 x87_4 ∧ Aside0 (celluloidlaw17_SweepTurns.l1 kq t257 t261 (t257.length : Int) x87_4 = some r) ∧ Aside0 (kq ≤ kj27) ∧ Aside0 (Kd.R (Kd.int .i64) 3 w' w.heap.size (fun k_ => some k_ ≠ (v263 : Value).ownBlock) (.slice Ao36 t257.length co36) t257) ∧ Aside0 (Kd.R (Kd.int .i64) 3 w' w.heap.size (fun k_ => some k_ ≠ ((.slice Ao36 t257.length co36) : Value).ownBlock) v263 t261) ∧ Aside0 (Below w.heap.size w w'))
                    case atStart => exact ⟨(0), (by first | rfl | (simp; done) | (simp [*]; done)), H', ⟨Nat.le_refl _⟩, ⟨by (with_reducible repeat (first | apply Kd.R_alloc | apply Kd.R_drewN | apply Kd.R_drew)); exact HO_12.out⟩, ⟨by (with_reducible repeat (first | apply Kd.R_alloc | apply Kd.R_drewN | apply Kd.R_drew)); exact HO_14.out⟩, ⟨by repeat (first | (with_reducible first | exact HB.out | apply below_alloc | apply pw_below_drewN | apply below_drew1) | exact HB.out)⟩⟩
                    case round =>
                      clear H'
                      try clear c1
                      try clear c2
                      try clear p2
                      try clear q2
                      try clear hx2
                      try clear c3
                      try clear c6
                      try clear c6b0
                      try clear c6b1
                      try clear p6
                      try clear c7
                      try clear c7b0
                      try clear c8
                      try clear c11
                      try clear c11b0
                      try clear c13
                      try clear c13b0
                      try clear c14
                      try clear c14b0
                      try clear c15
                      try clear c15b0
                      try clear c15b1
                      try clear c17
                      try clear c17b0
                      try clear c17b1
                      try clear c18
                      try clear c22
                      try clear p24
                      try clear q24
                      try clear hx24
                      try clear c32
                      try clear c32b0
                      try clear c32b1
                      try clear c35
                      try clear hcz20_0
                      try clear hcz20_1
                      try clear hcz20_2
                      try clear hcz20_3
                      try clear hcz20_4
                      try clear hcz20_5
                      try clear hcz24_0
                      try clear hcz24_1
                      try clear hcz24_2
                      try clear hcz24_3
                      try clear hcz24_4
                      try clear hcz24_5
                      try clear hfz20_0
                      try clear hfz20_1
                      try clear hfz20_2
                      try clear hfz20_3
                      try clear hfz20_4
                      try clear hfz20_5
                      try clear hfz24_0
                      try clear hfz24_1
                      try clear hfz24_2
                      try clear hfz24_3
                      try clear hfz24_4
                      try clear hfz24_5
                      try clear hx249_0
                      try clear hx249_1
                      try clear hx249_2
                      try clear hx249_3
                      try clear hx249_4
                      try clear hx249_5
                      try clear p2
                      try clear p24
                      try clear p249
                      try clear p6
                      try clear q2
                      try clear q24
                      try clear q249
                      obtain ⟨x87_4, rfl, HA, HK4, HO_12, HO_14, HB⟩ := hrel
                      cases gk with
                      | zero => exact absurd HA.out (by simp [celluloidlaw17_SweepTurns.l1])
                      | succ k4 =>
                        have H := HA.out
                        clear HA
                        simp only [celluloidlaw17_SweepTurns.l1] at H
                        by_cases c37 : x87_4 < (t257.length : Int)
                        · rw [if_pos c37] at H
                          have c37b0 : decide (x87_4 < (t257.length : Int)) = true := decide_eq_true c37
                          clear c37
                          by_cases c38 : 0 ≤ x87_4
                          · rw [if_pos c38] at H
                            have c38b0 : decide (0 ≤ x87_4) = true := decide_eq_true c38
                            clear c38
                            by_cases c39 : x87_4 < (t257.length : Int)
                            · rw [if_pos c39] at H
                              have c39b0 : decide (x87_4 < (t257.length : Int)) = true := decide_eq_true c39
                              clear c39
                              by_cases c40 : x87_4 < (t261.length : Int)
                              · rw [if_pos c40] at H
                                have c40b0 : decide (x87_4 < (t261.length : Int)) = true := decide_eq_true c40
                                clear c40
                                by_cases c41 : (rd t257 x87_4) = (rd t261 x87_4)
                                · rw [if_pos c41] at H
                                  have c41b0 : ((rd t257 x87_4) == (rd t261 x87_4)) = true := beq_iff_eq.mpr c41
                                  have c41b1 : ((rd t257 x87_4) != (rd t261 x87_4)) = false := bne_eq_false_iff_eq.mpr c41
                                  clear c41
                                  have H' := Aside0.mk H
                                  clear H
                                  have p265 : 0 ≤ (x87_4 : Int) := of_decide_eq_true (by first | (with_reducible assumption) | assumption)
                                  have q265 : x87_4 < (t257.length : Int) := of_decide_eq_true (by first | (with_reducible assumption) | assumption)
                                  obtain ⟨ad265, e265, hx265_0⟩ := Kd.at_int (Kd.R_reads' HO_12.out).2.2 x87_4 p265 q265
                                  cases e265
                                  replace p265 := eq_true p265
                                  replace q265 := eq_true q265
                                  obtain ⟨Ao42, co42, eo42⟩ := Kd.R_slice HO_14.out
                                  subst eo42
                                  have p266 : 0 ≤ (x87_4 : Int) := of_decide_eq_true (by first | (with_reducible assumption) | assumption)
                                  have q266 : x87_4 < (t261.length : Int) := of_decide_eq_true (by first | (with_reducible assumption) | assumption)
                                  obtain ⟨ad266, e266, hx266_0⟩ := Kd.at_int (Kd.R_reads' HO_14.out).2.2 x87_4 p266 q266
                                  cases e266
                                  replace p266 := eq_true p266
                                  replace q266 := eq_true q266
                                  go_wp2
                                  repeat (go_quiet (fail); try go_wp2)
                                  go_roundg k4
                                  case measure => have := HJ4.out; have := HK2.out; have := HJ27.out; have := HK4.out; omega
                                  case rel => exact ⟨(wrap64 (x87_4 + 1)), (by first | rfl | (simp; done) | (simp [*]; done)), H', ⟨by have := HJ4.out; have := HK2.out; have := HJ27.out; have := HK4.out; omega⟩, ⟨by (with_reducible repeat (first | apply Kd.R_alloc | apply Kd.R_drewN | apply Kd.R_drew)); exact HO_12.out⟩, ⟨by (with_reducible repeat (first | apply Kd.R_alloc | apply Kd.R_drewN | apply Kd.R_drew)); exact HO_14.out⟩, ⟨by repeat (first | (with_reducible first | exact HB.out | apply below_alloc | apply pw_below_drewN | apply below_drew1) | exact HB.out)⟩⟩
                                · rw [if_neg c41] at H
                                  have c41b0 : ((rd t257 x87_4) == (rd t261 x87_4)) = false := beq_eq_false_iff_ne.mpr c41
                                  have c41b1 : ((rd t257 x87_4) != (rd t261 x87_4)) = true := bne_iff_ne.mpr c41
                                  obtain rfl := Option.some.inj H
                                  have p265 : 0 ≤ (x87_4 : Int) := of_decide_eq_true (by first | (with_reducible assumption) | assumption)
                                  have q265 : x87_4 < (t257.length : Int) := of_decide_eq_true (by first | (with_reducible assumption) | assumption)
                                  obtain ⟨ad265, e265, hx265_0⟩ := Kd.at_int (Kd.R_reads' HO_12.out).2.2 x87_4 p265 q265
                                  cases e265
                                  replace p265 := eq_true p265
                                  replace q265 := eq_true q265
                                  obtain ⟨Ao43, co43, eo43⟩ := Kd.R_slice HO_14.out
                                  subst eo43
                                  have p266 : 0 ≤ (x87_4 : Int) := of_decide_eq_true (by first | (with_reducible assumption) | assumption)
                                  have q266 : x87_4 < (t261.length : Int) := of_decide_eq_true (by first | (with_reducible assumption) | assumption)
                                  obtain ⟨ad266, e266, hx266_0⟩ := Kd.at_int (Kd.R_reads' HO_14.out).2.2 x87_4 p266 q266
                                  cases e266
                                  replace p266 := eq_true p266
                                  replace q266 := eq_true q266
                                  go_wp2
                                  repeat (go_quiet (fail); try go_wp2)
                                  go_ret
                                  exact ⟨by first | rfl | (simp [errW_none, errW_some] <;> rfl) | (simp [*, errW_none, errW_some] <;> rfl), by repeat (first | (with_reducible first | exact HB.out | apply below_alloc | apply pw_below_drewN | apply below_drew1) | exact HB.out)⟩
                              · rw [if_neg c40] at H
                                exact absurd H (by simp)
                            · rw [if_neg c39] at H
                              exact absurd H (by simp)
                          · rw [if_neg c38] at H
                            exact absurd H (by simp)
                        · rw [if_neg c37] at H
                          have c37b0 : decide (x87_4 < (t257.length : Int)) = false := decide_eq_false c37
                          clear c37
                          replace H := Option.bind_eq_some_iff.mp H
                          obtain ⟨t267, A440, H⟩ := H
                          replace H : (some t267) = some r := H
                          have A44 := Aside0.mk A440
                          clear A440
                          obtain rfl := Option.some.inj H
                          go_wp2_with (first | (go_at_call 10; (with_reducible refine (celluloidlaw17_awake.calls k4  t267 _ A44.out).mono ?_); rintro e w45 ⟨rfl, hb⟩; have n0_ := Aside0.mk (Kd.R_below (by (with_reducible repeat (first | apply Kd.R_alloc | apply Kd.R_drewN | apply Kd.R_drew)); exact HO_12.out) hb); have n1_ := Aside0.mk (Kd.R_below (by (with_reducible repeat (first | apply Kd.R_alloc | apply Kd.R_drewN | apply Kd.R_drew)); exact HO_14.out) hb); have n2_ := Aside0.mk (below_step (by repeat (first | (with_reducible first | exact HB.out | apply below_alloc | apply pw_below_drewN | apply below_drew1) | exact HB.out)) hb); clear HO_12; clear HO_14; clear HB; have HO_12 := n0_; have HO_14 := n1_; have HB := n2_; clear n0_ n1_ n2_; (try clear hb); (try clear hb2); (try clear hk); (try clear hi)))
                          repeat (go_quiet (first | (go_at_call 10; (with_reducible refine (celluloidlaw17_awake.calls k4  t267 _ A44.out).mono ?_); rintro e w45 ⟨rfl, hb⟩; have n0_ := Aside0.mk (Kd.R_below (by (with_reducible repeat (first | apply Kd.R_alloc | apply Kd.R_drewN | apply Kd.R_drew)); exact HO_12.out) hb); have n1_ := Aside0.mk (Kd.R_below (by (with_reducible repeat (first | apply Kd.R_alloc | apply Kd.R_drewN | apply Kd.R_drew)); exact HO_14.out) hb); have n2_ := Aside0.mk (below_step (by repeat (first | (with_reducible first | exact HB.out | apply below_alloc | apply pw_below_drewN | apply below_drew1) | exact HB.out)) hb); clear HO_12; clear HO_14; clear HB; have HO_12 := n0_; have HO_14 := n1_; have HB := n2_; clear n0_ n1_ n2_; (try clear hb); (try clear hb2); (try clear hk); (try clear hi))); try go_wp2_with (first | (go_at_call 10; (with_reducible refine (celluloidlaw17_awake.calls k4  t267 _ A44.out).mono ?_); rintro e w45 ⟨rfl, hb⟩; have n0_ := Aside0.mk (Kd.R_below (by (with_reducible repeat (first | apply Kd.R_alloc | apply Kd.R_drewN | apply Kd.R_drew)); exact HO_12.out) hb); have n1_ := Aside0.mk (Kd.R_below (by (with_reducible repeat (first | apply Kd.R_alloc | apply Kd.R_drewN | apply Kd.R_drew)); exact HO_14.out) hb); have n2_ := Aside0.mk (below_step (by repeat (first | (with_reducible first | exact HB.out | apply below_alloc | apply pw_below_drewN | apply below_drew1) | exact HB.out)) hb); clear HO_12; clear HO_14; clear HB; have HO_12 := n0_; have HO_14 := n1_; have HB := n2_; clear n0_ n1_ n2_; (try clear hb); (try clear hb2); (try clear hk); (try clear hi))))
                          go_ret
                          exact ⟨by first | rfl | (simp [errW_none, errW_some] <;> rfl) | (simp [*, errW_none, errW_some] <;> rfl), by repeat (first | (with_reducible first | exact HB.out | apply below_alloc | apply pw_below_drewN | apply below_drew1) | exact HB.out)⟩
end Go.Proofs.Ytgmegmhioiljcaa.P
