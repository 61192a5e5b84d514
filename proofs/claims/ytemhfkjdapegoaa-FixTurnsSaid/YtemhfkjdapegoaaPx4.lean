/- Printed by printx.py (wip/tool) out of the translation: plain functions that tell what the program answers, and the proofs that the program comes to these answers, for all arguments of their kinds. Lean checks it. -/
import Derived.Test.YtemhfkjdapegoaaPx0
import Derived.Test.YtemhfkjdapegoaaPx2
import Derived.Test.YtemhfkjdapegoaaPx3
namespace Go.Proofs.Ytemhfkjdapegoaa.P
open Go.RowKit Go.Proofs.YtemhfkjdapegoaaW.PrintWords Go.Proofs.YtemhfkjdapegoaaW.PrintLast Go.Proofs.YtemhfkjdapegoaaW.PrintMore
attribute [local go_sem] max2_int min2_int max_two min_two max_three min_three max_four min_four   -- for this text's walks alone
set_option linter.unusedVariables false
set_option linter.unusedSimpArgs false

/-! ### celluloidref01_divide: function 27 -/
mutual
def celluloidref01_divide.l0 : Nat → List Int → List Int → List Int → List Int → List Int → Int → Option (List Int × Bool)
  | 0, _, _, _, _, _, _ => none
  | k + 1, x0, x1, x6, x7, x8, x9 => if x9 < (x1.length : Int) then (if 0 ≤ x9 then (if x9 < (x8.length : Int) then (celluloidref01_divide.l0 k x0 x1 x6 x7 (x8.set (x9 : Int).toNat (rd x1 x9)) (wrap64 (x9 + 1))) else (none)) else (none)) else (celluloidref01_divide.l1 k x0 x6 x7 x8 (wrap64 ((x0.length : Int) - 1)))
def celluloidref01_divide.l1 : Nat → List Int → List Int → List Int → List Int → Int → Option (List Int × Bool)
  | 0, _, _, _, _, _ => none
  | k + 1, x0, x6, x7, x8, x10 => if x10 ≥ 0 then (celluloidref01_divide.l2 k x0 x6 x7 x8 x10 32768) else ((celluloidref01_nought.f k x7).bind fun t171 => (some (x6, t171)))
def celluloidref01_divide.l2 : Nat → List Int → List Int → List Int → List Int → Int → Int → Option (List Int × Bool)
  | 0, _, _, _, _, _, _ => none
  | k + 1, x0, x6, x7, x8, x10, x11 => if x11 > 0 then ((celluloidref01_times.f k x7 (([2] : List Int))).bind fun t175 => (if 0 ≤ (x7.length : Int) then (if (x7.length : Int) ≤ (t175.length : Int) then ((some (t175.take ((x7.length : Int) : Int).toNat : List Int)).bind fun y178 => (if 0 ≤ x10 then (if x10 < (x0.length : Int) then (if x11 = 0 then (none) else (if (Int.tmod (wrap64 (Int.tdiv (rd x0 x10) x11)) 2) = 1 then (if 0 < (y178.length : Int) then (celluloidref01_divide.j3 k x0 x6 (y178.set (0 : Int).toNat (wrap64 ((rd y178 0) + 1))) x8 x10 x11) else (none)) else (celluloidref01_divide.j3 k x0 x6 y178 x8 x10 x11))) else (none)) else (none))) else (none)) else (none))) else (celluloidref01_divide.l1 k x0 x6 x7 x8 (wrap64 (x10 - 1)))
def celluloidref01_divide.j3 : Nat → List Int → List Int → List Int → List Int → Int → Int → Option (List Int × Bool)
  | 0, _, _, _, _, _, _ => none
  | k + 1, x0, x6, x7, x8, x10, x11 => (celluloidref01_order.f k x7 x8).bind fun t184 => (if t184 ≥ 0 then ((celluloidref01_minus.f k x7 x8).bind fun t185 => (if 0 ≤ x10 then (if x10 < (x6.length : Int) then (celluloidref01_divide.l2 k x0 (x6.set (x10 : Int).toNat (wrap64 ((rd x6 x10) + x11))) t185 x8 x10 (wrap64 (Int.tdiv x11 2))) else (none)) else (none))) else (celluloidref01_divide.l2 k x0 x6 x7 x8 x10 (wrap64 (Int.tdiv x11 2))))
end
def celluloidref01_divide.f (k : Nat) (l0 : List Int) (l1 : List Int) : Option (List Int × Bool) := if 0 ≤ (l0.length : Int) then (if ((l0.length : Int) : Int).toNat ≤ 35184372088832 then (if 0 ≤ (wrap64 ((l0.length : Int) + 1)) then (if (wrap64 ((l0.length : Int) + 1) : Int).toNat ≤ 35184372088832 then (celluloidref01_divide.l0 k l0 l1 (List.replicate ((l0.length : Int) : Int).toNat 0) (List.replicate (wrap64 ((l0.length : Int) + 1) : Int).toNat 0) (List.replicate (wrap64 ((l0.length : Int) + 1) : Int).toNat 0) 0) else (none)) else (none)) else (none)) else (none)
theorem celluloidref01_divide.mono_l : ∀ k, (∀ y0 y1 y2 y3 y4 y5, LeO (celluloidref01_divide.l0 k y0 y1 y2 y3 y4 y5) (celluloidref01_divide.l0 (k + 1) y0 y1 y2 y3 y4 y5)) ∧ (∀ y0 y1 y2 y3 y4, LeO (celluloidref01_divide.l1 k y0 y1 y2 y3 y4) (celluloidref01_divide.l1 (k + 1) y0 y1 y2 y3 y4)) ∧ (∀ y0 y1 y2 y3 y4 y5, LeO (celluloidref01_divide.l2 k y0 y1 y2 y3 y4 y5) (celluloidref01_divide.l2 (k + 1) y0 y1 y2 y3 y4 y5)) ∧ (∀ y0 y1 y2 y3 y4 y5, LeO (celluloidref01_divide.j3 k y0 y1 y2 y3 y4 y5) (celluloidref01_divide.j3 (k + 1) y0 y1 y2 y3 y4 y5))
  | 0 => ⟨fun _ _ _ _ _ _ r h => by simp [celluloidref01_divide.l0] at h, fun _ _ _ _ _ r h => by simp [celluloidref01_divide.l1] at h, fun _ _ _ _ _ _ r h => by simp [celluloidref01_divide.l2] at h, fun _ _ _ _ _ _ r h => by simp [celluloidref01_divide.j3] at h⟩
  | k + 1 => by
    obtain ⟨ih0, ih1, ih2, ih3⟩ := celluloidref01_divide.mono_l k
    refine ⟨?_, ?_, ?_, ?_⟩
    · intro y0 y1 y2 y3 y4 y5
      unfold celluloidref01_divide.l0
      repeat' first
      | (with_reducible exact ih0 _ _ _ _ _ _)
      | (with_reducible exact ih1 _ _ _ _ _)
      | (with_reducible exact ih2 _ _ _ _ _ _)
      | (with_reducible exact ih3 _ _ _ _ _ _)
      | (with_reducible exact celluloidref01_minus.mono _ _ _)
      | (with_reducible exact celluloidref01_nought.mono _ _)
      | (with_reducible exact celluloidref01_order.mono _ _ _)
      | (with_reducible exact celluloidref01_times.mono _ _ _)
      | (with_reducible exact LeO.refl _)
      | (with_reducible exact LeO.none _)
      | (with_reducible refine LeO.ite ?_ ?_)
      | (with_reducible refine LeO.bind ?_ (fun _ => ?_))
      | exact ih0 _ _ _ _ _ _
      | exact ih1 _ _ _ _ _
      | exact ih2 _ _ _ _ _ _
      | exact ih3 _ _ _ _ _ _
      | exact celluloidref01_minus.mono _ _ _
      | exact celluloidref01_nought.mono _ _
      | exact celluloidref01_order.mono _ _ _
      | exact celluloidref01_times.mono _ _ _
      | exact LeO.none _
      | refine LeO.ite ?_ ?_
      | refine LeO.bind ?_ (fun _ => ?_)
    · intro y0 y1 y2 y3 y4
      unfold celluloidref01_divide.l1
      repeat' first
      | (with_reducible exact ih0 _ _ _ _ _ _)
      | (with_reducible exact ih1 _ _ _ _ _)
      | (with_reducible exact ih2 _ _ _ _ _ _)
      | (with_reducible exact ih3 _ _ _ _ _ _)
      | (with_reducible exact celluloidref01_minus.mono _ _ _)
      | (with_reducible exact celluloidref01_nought.mono _ _)
      | (with_reducible exact celluloidref01_order.mono _ _ _)
      | (with_reducible exact celluloidref01_times.mono _ _ _)
      | (with_reducible exact LeO.refl _)
      | (with_reducible exact LeO.none _)
      | (with_reducible refine LeO.ite ?_ ?_)
      | (with_reducible refine LeO.bind ?_ (fun _ => ?_))
      | exact ih0 _ _ _ _ _ _
      | exact ih1 _ _ _ _ _
      | exact ih2 _ _ _ _ _ _
      | exact ih3 _ _ _ _ _ _
      | exact celluloidref01_minus.mono _ _ _
      | exact celluloidref01_nought.mono _ _
      | exact celluloidref01_order.mono _ _ _
      | exact celluloidref01_times.mono _ _ _
      | exact LeO.none _
      | refine LeO.ite ?_ ?_
      | refine LeO.bind ?_ (fun _ => ?_)
    · intro y0 y1 y2 y3 y4 y5
      unfold celluloidref01_divide.l2
      repeat' first
      | (with_reducible exact ih0 _ _ _ _ _ _)
      | (with_reducible exact ih1 _ _ _ _ _)
      | (with_reducible exact ih2 _ _ _ _ _ _)
      | (with_reducible exact ih3 _ _ _ _ _ _)
      | (with_reducible exact celluloidref01_minus.mono _ _ _)
      | (with_reducible exact celluloidref01_nought.mono _ _)
      | (with_reducible exact celluloidref01_order.mono _ _ _)
      | (with_reducible exact celluloidref01_times.mono _ _ _)
      | (with_reducible exact LeO.refl _)
      | (with_reducible exact LeO.none _)
      | (with_reducible refine LeO.ite ?_ ?_)
      | (with_reducible refine LeO.bind ?_ (fun _ => ?_))
      | exact ih0 _ _ _ _ _ _
      | exact ih1 _ _ _ _ _
      | exact ih2 _ _ _ _ _ _
      | exact ih3 _ _ _ _ _ _
      | exact celluloidref01_minus.mono _ _ _
      | exact celluloidref01_nought.mono _ _
      | exact celluloidref01_order.mono _ _ _
      | exact celluloidref01_times.mono _ _ _
      | exact LeO.none _
      | refine LeO.ite ?_ ?_
      | refine LeO.bind ?_ (fun _ => ?_)
    · intro y0 y1 y2 y3 y4 y5
      unfold celluloidref01_divide.j3
      repeat' first
      | (with_reducible exact ih0 _ _ _ _ _ _)
      | (with_reducible exact ih1 _ _ _ _ _)
      | (with_reducible exact ih2 _ _ _ _ _ _)
      | (with_reducible exact ih3 _ _ _ _ _ _)
      | (with_reducible exact celluloidref01_minus.mono _ _ _)
      | (with_reducible exact celluloidref01_nought.mono _ _)
      | (with_reducible exact celluloidref01_order.mono _ _ _)
      | (with_reducible exact celluloidref01_times.mono _ _ _)
      | (with_reducible exact LeO.refl _)
      | (with_reducible exact LeO.none _)
      | (with_reducible refine LeO.ite ?_ ?_)
      | (with_reducible refine LeO.bind ?_ (fun _ => ?_))
      | exact ih0 _ _ _ _ _ _
      | exact ih1 _ _ _ _ _
      | exact ih2 _ _ _ _ _ _
      | exact ih3 _ _ _ _ _ _
      | exact celluloidref01_minus.mono _ _ _
      | exact celluloidref01_nought.mono _ _
      | exact celluloidref01_order.mono _ _ _
      | exact celluloidref01_times.mono _ _ _
      | exact LeO.none _
      | refine LeO.ite ?_ ?_
      | refine LeO.bind ?_ (fun _ => ?_)
theorem celluloidref01_divide.mono : ∀ a0 a1 k, LeO (celluloidref01_divide.f k a0 a1) (celluloidref01_divide.f (k + 1) a0 a1) := by
  intro a0 a1 k
  obtain ⟨ih0, ih1, ih2, ih3⟩ := celluloidref01_divide.mono_l k
  unfold celluloidref01_divide.f
  repeat' first
      | (with_reducible exact ih0 _ _ _ _ _ _)
      | (with_reducible exact ih1 _ _ _ _ _)
      | (with_reducible exact ih2 _ _ _ _ _ _)
      | (with_reducible exact ih3 _ _ _ _ _ _)
      | (with_reducible exact celluloidref01_minus.mono _ _ _)
      | (with_reducible exact celluloidref01_nought.mono _ _)
      | (with_reducible exact celluloidref01_order.mono _ _ _)
      | (with_reducible exact celluloidref01_times.mono _ _ _)
      | (with_reducible exact LeO.refl _)
      | (with_reducible exact LeO.none _)
      | (with_reducible refine LeO.ite ?_ ?_)
      | (with_reducible refine LeO.bind ?_ (fun _ => ?_))
      | exact ih0 _ _ _ _ _ _
      | exact ih1 _ _ _ _ _
      | exact ih2 _ _ _ _ _ _
      | exact ih3 _ _ _ _ _ _
      | exact celluloidref01_minus.mono _ _ _
      | exact celluloidref01_nought.mono _ _
      | exact celluloidref01_order.mono _ _ _
      | exact celluloidref01_times.mono _ _ _
      | exact LeO.none _
      | refine LeO.ite ?_ ?_
      | refine LeO.bind ?_ (fun _ => ?_)
set_option maxHeartbeats 8000000 in
set_option maxRecDepth 100000 in
theorem celluloidref01_divide.calls (k : Nat) (A0 : Option Addr) (c0 : Nat) (l0 : List Int) (A1 : Option Addr) (c1 : Nat) (l1 : List Int) (r1 : List Int) (r2 : Bool) (w : World) (hr0 : Kd.C (Kd.int .i64) w A0 l0.length l0) (hc0 : l0.length ≤ c0) (hr1 : Kd.C (Kd.int .i64) w A1 l1.length l1) (hc1 : l1.length ≤ c1) (h : celluloidref01_divide.f k l0 l1 = some (r1, r2)) :
    Calls Try.prog 27 #[.slice A0 l0.length c0, .slice A1 l1.length c1] w fun e w' => ∃ v0_ : Value, e = .returned (.tuple #[v0_, .bool r2]) ∧ Kd.R (Kd.int .i64) 3 w' w.heap.size (fun _ => True) v0_ r1 ∧ Below w.heap.size w w' := by
  have HR0 := Aside0.mk hr0
  have HC0 := Aside0.mk hc0
  clear hr0 hc0
  have HR1 := Aside0.mk hr1
  have HC1 := Aside0.mk hc1
  clear hr1 hc1
  have HB := Aside0.mk (Below.refl w.heap.size w)
  have H : (if 0 ≤ (l0.length : Int) then (if ((l0.length : Int) : Int).toNat ≤ 35184372088832 then (if 0 ≤ (wrap64 ((l0.length : Int) + 1)) then (if (wrap64 ((l0.length : Int) + 1) : Int).toNat ≤ 35184372088832 then (celluloidref01_divide.l0 k l0 l1 (List.replicate ((l0.length : Int) : Int).toNat 0) (List.replicate (wrap64 ((l0.length : Int) + 1) : Int).toNat 0) (List.replicate (wrap64 ((l0.length : Int) + 1) : Int).toNat 0) 0) else (none)) else (none)) else (none)) else (none)) = some (r1, r2) := h
  clear h
  by_cases c3 : 0 ≤ (l0.length : Int)
  · rw [if_pos c3] at H
    have c3b0 := eq_true c3
    have c3b1 : decide (0 ≤ (l0.length : Int)) = true := decide_eq_true c3
    clear c3
    by_cases c4 : ((l0.length : Int) : Int).toNat ≤ 35184372088832
    · rw [if_pos c4] at H
      have c4b0 := eq_true c4
      have c4b1 : decide (((l0.length : Int) : Int).toNat ≤ 35184372088832) = true := decide_eq_true c4
      clear c4
      obtain ⟨y160, hy160⟩ : ∃ y_ : List Int, y_ = (List.replicate ((l0.length : Int) : Int).toNat 0) := ⟨_, rfl⟩
      replace H : (if 0 ≤ (wrap64 ((l0.length : Int) + 1)) then (if (wrap64 ((l0.length : Int) + 1) : Int).toNat ≤ 35184372088832 then (celluloidref01_divide.l0 k l0 l1 y160 (List.replicate (wrap64 ((l0.length : Int) + 1) : Int).toNat 0) (List.replicate (wrap64 ((l0.length : Int) + 1) : Int).toNat 0) 0) else (none)) else (none)) = some (r1, r2) := by first | (rw [hy160]; with_reducible exact H) | (have H2_ := (Option.bind_some _ _).symm.trans H; rw [hy160]; with_reducible exact H2_) | (have H2_ := (Option.bind_some _ _).symm.trans H; with_reducible exact H2_) | with_reducible exact H | (rw [hy160]; exact H) | exact H
      have Ny160 := Aside0.mk hy160
      clear hy160
      obtain ⟨ji5, hji5⟩ : ∃ j_ : Int, (wrap64 ((l0.length : Int) + 1)) = j_ := ⟨_, rfl⟩
      replace H : (if 0 ≤ (ji5) then (if (ji5 : Int).toNat ≤ 35184372088832 then (celluloidref01_divide.l0 k l0 l1 y160 (List.replicate (ji5 : Int).toNat 0) (List.replicate (ji5 : Int).toNat 0) 0) else (none)) else (none)) = some (r1, r2) := by first | (rw [hji5] at H; exact H) | (simp only [hji5] at H ⊢; exact H)
      have hji5w : (IntKind.i64.wrap ((l0.length : Int) + 1)) = ji5 := (i64_w _).trans hji5
      by_cases c6 : 0 ≤ (ji5)
      · rw [if_pos c6] at H
        have c6b0 := eq_true c6
        have c6b1 : decide (0 ≤ (ji5)) = true := decide_eq_true c6
        clear c6
        by_cases c7 : (ji5 : Int).toNat ≤ 35184372088832
        · rw [if_pos c7] at H
          have c7b0 := eq_true c7
          have c7b1 : decide ((ji5 : Int).toNat ≤ 35184372088832) = true := decide_eq_true c7
          clear c7
          obtain ⟨y163, hy163⟩ : ∃ y_ : List Int, y_ = (List.replicate (ji5 : Int).toNat 0) := ⟨_, rfl⟩
          replace H : (celluloidref01_divide.l0 k l0 l1 y160 y163 (List.replicate (ji5 : Int).toNat 0) 0) = some (r1, r2) := by first | (rw [hy163]; with_reducible exact H) | (have H2_ := (Option.bind_some _ _).symm.trans H; rw [hy163]; with_reducible exact H2_) | (have H2_ := (Option.bind_some _ _).symm.trans H; with_reducible exact H2_) | with_reducible exact H | (rw [hy163]; exact H) | exact H
          have Ny163 := Aside0.mk hy163
          clear hy163
          obtain ⟨y166, hy166⟩ : ∃ y_ : List Int, y_ = (List.replicate (ji5 : Int).toNat 0) := ⟨_, rfl⟩
          replace H : (celluloidref01_divide.l0 k l0 l1 y160 y163 y166 0) = some (r1, r2) := by first | (rw [hy166]; with_reducible exact H) | (have H2_ := (Option.bind_some _ _).symm.trans H; rw [hy166]; with_reducible exact H2_) | (have H2_ := (Option.bind_some _ _).symm.trans H; with_reducible exact H2_) | with_reducible exact H | (rw [hy166]; exact H) | exact H
          have Ny166 := Aside0.mk hy166
          clear hy166
          have H' := Aside0.mk H
          clear H
          go_enter Try.func27, Try.ntmps27
          go_wp2_with (first | ((with_reducible refine gate_dst (N := 14) rfl ?_); refine Kd.R_make (Kd.int .i64) _ 3 rfl (N := 14) rfl 34 _ _ rfl (l0.length : Int) rfl rfl Try.underlying34 (.int .i64 0) 8 info3 rfl (by decide) (by omega) 0 (ok := fun _ => True) (okp := fun _ => True) rfl (fun _ hk => hk) trivial (of_decide_eq_true (by first | (with_reducible assumption) | assumption)) (Nat.le_trans (Nat.mul_le_mul_right _ (of_decide_eq_true (by first | (with_reducible assumption) | assumption) : (l0.length : Int).toNat ≤ 35184372088832)) (by omega)) (Below.refl _ _) (Nat.le_refl _) ?_; intro v161 w8 ho9 hb hg_ hnew_; clear hg_ hnew_; (first | rw [← Ny160.out] at ho9 | (simp only [Int.reduceToNat] at ho9; rw [← Ny160.out] at ho9)); have n0_ := Aside0.mk (Kd.R_lower ho9 (below_size (by repeat (first | (with_reducible first | exact HB.out | apply below_alloc | apply pw_below_drewN | apply below_drew1) | exact HB.out)))); have n1_ := Aside0.mk (below_step (by repeat (first | (with_reducible first | exact HB.out | apply below_alloc | apply pw_below_drewN | apply below_drew1) | exact HB.out)) hb); clear HB; have HO162 := n0_; have HB := n1_; clear n0_ n1_; clear hb ho9) | ((with_reducible refine gate_dst (N := 18) rfl ?_); refine Kd.R_make (Kd.int .i64) _ 3 rfl (N := 18) rfl 34 _ _ rfl ji5 rfl rfl Try.underlying34 (.int .i64 0) 8 info3 rfl (by decide) (by omega) 0 (ok := fun _ => True) (okp := fun _ => True) rfl (fun _ hk => hk) trivial (of_decide_eq_true (by first | (with_reducible assumption) | assumption)) (Nat.le_trans (Nat.mul_le_mul_right _ (of_decide_eq_true (by first | (with_reducible assumption) | assumption) : ji5.toNat ≤ 35184372088832)) (by omega)) (Below.refl _ _) (Nat.le_refl _) ?_; intro v164 w10 ho11 hb hg_ hnew_; clear hg_ hnew_; (first | rw [← Ny163.out] at ho11 | (simp only [Int.reduceToNat] at ho11; rw [← Ny163.out] at ho11)); have n0_ := Aside0.mk (Kd.R_elder' (by (with_reducible repeat (first | apply Kd.R_alloc | apply Kd.R_drewN | apply Kd.R_drew)); exact HO162.out) (Kd.R_base ho11) hb); have n1_ := Aside0.mk (Kd.R_lower (Kd.R_new' ho11 (Kd.R_lt (by (with_reducible repeat (first | apply Kd.R_alloc | apply Kd.R_drewN | apply Kd.R_drew)); exact HO162.out))) (below_size (by repeat (first | (with_reducible first | exact HB.out | apply below_alloc | apply pw_below_drewN | apply below_drew1) | exact HB.out)))); have n2_ := Aside0.mk (below_step (by repeat (first | (with_reducible first | exact HB.out | apply below_alloc | apply pw_below_drewN | apply below_drew1) | exact HB.out)) hb); clear HO162; clear HB; have HO162 := n0_; have HO165 := n1_; have HB := n2_; clear n0_ n1_ n2_; clear hb ho11) | ((with_reducible refine gate_dst (N := 22) rfl ?_); refine Kd.R_make (Kd.int .i64) _ 3 rfl (N := 22) rfl 34 _ _ rfl ji5 rfl rfl Try.underlying34 (.int .i64 0) 8 info3 rfl (by decide) (by omega) 0 (ok := fun _ => True) (okp := fun _ => True) rfl (fun _ hk => hk) trivial (of_decide_eq_true (by first | (with_reducible assumption) | assumption)) (Nat.le_trans (Nat.mul_le_mul_right _ (of_decide_eq_true (by first | (with_reducible assumption) | assumption) : ji5.toNat ≤ 35184372088832)) (by omega)) (Below.refl _ _) (Nat.le_refl _) ?_; intro v167 w12 ho13 hb hg_ hnew_; clear hg_ hnew_; (first | rw [← Ny166.out] at ho13 | (simp only [Int.reduceToNat] at ho13; rw [← Ny166.out] at ho13)); have n0_ := Aside0.mk (Kd.R_elder' (by (with_reducible repeat (first | apply Kd.R_alloc | apply Kd.R_drewN | apply Kd.R_drew)); exact HO162.out) (Kd.R_base ho13) hb); have n1_ := Aside0.mk (Kd.R_elder' (by (with_reducible repeat (first | apply Kd.R_alloc | apply Kd.R_drewN | apply Kd.R_drew)); exact HO165.out) (Kd.R_base ho13) hb); have n2_ := Aside0.mk (Kd.R_lower (Kd.R_new' (Kd.R_new' ho13 (Kd.R_lt (by (with_reducible repeat (first | apply Kd.R_alloc | apply Kd.R_drewN | apply Kd.R_drew)); exact HO162.out))) (Kd.R_lt (by (with_reducible repeat (first | apply Kd.R_alloc | apply Kd.R_drewN | apply Kd.R_drew)); exact HO165.out))) (below_size (by repeat (first | (with_reducible first | exact HB.out | apply below_alloc | apply pw_below_drewN | apply below_drew1) | exact HB.out)))); have n3_ := Aside0.mk (below_step (by repeat (first | (with_reducible first | exact HB.out | apply below_alloc | apply pw_below_drewN | apply below_drew1) | exact HB.out)) hb); clear HO162; clear HO165; clear HB; have HO162 := n0_; have HO165 := n1_; have HO168 := n2_; have HB := n3_; clear n0_ n1_ n2_ n3_; clear hb ho13))
          go_loopg [9] k (fun kq v9 w' => ∃ (x8_1 : List Int) (x9_1 : Int), v9 = .int .i64 x9_1 ∧ Aside0 (celluloidref01_divide.l0 kq l0 l1 y160 y163 x8_1 x9_1 = some (r1, r2)) ∧ Aside0 (kq ≤ k) ∧ Aside0 (Kd.R (Kd.int .i64) 3 w' w.heap.size (fun k_ => some k_ ≠ (v164 : Value).ownBlock ∧ some k_ ≠ (v167 : Value).ownBlock) v161 y160) ∧ Aside0 (Kd.R (Kd.int .i64) 3 w' w.heap.size (fun k_ => some k_ ≠ (v161 : Value).ownBlock ∧ some k_ ≠ (v167 : Value).ownBlock) v164 y163) ∧ Aside0 (Kd.R (Kd.int .i64) 3 w' w.heap.size (fun k_ => some k_ ≠ (v161 : Value).ownBlock ∧ some k_ ≠ (v164 : Value).ownBlock) v167 x8_1) ∧ Aside0 (Below w.heap.size w w'))
          case atStart => exact ⟨(y166), (0), (by first | rfl | (simp; done) | (simp [*]; done)), H', ⟨Nat.le_refl _⟩, ⟨by (with_reducible repeat (first | apply Kd.R_alloc | apply Kd.R_drewN | apply Kd.R_drew)); exact Kd.R_mono HO162.out (fun _ hk => ⟨hk.1.2, hk.2⟩)⟩, ⟨by (with_reducible repeat (first | apply Kd.R_alloc | apply Kd.R_drewN | apply Kd.R_drew)); exact Kd.R_mono HO165.out (fun _ hk => ⟨hk.1.2, hk.2⟩)⟩, ⟨by (with_reducible repeat (first | apply Kd.R_alloc | apply Kd.R_drewN | apply Kd.R_drew)); exact Kd.R_mono HO168.out (fun _ hk => ⟨hk.1.2, hk.2⟩)⟩, ⟨by repeat (first | (with_reducible first | exact HB.out | apply below_alloc | apply pw_below_drewN | apply below_drew1) | exact HB.out)⟩⟩
          case round =>
            clear H'
            try clear c1
            try clear c2
            try clear p2
            try clear c3
            try clear c3b0
            try clear c3b1
            try clear c4
            try clear c4b0
            try clear c4b1
            try clear c6
            try clear c6b0
            try clear c6b1
            try clear p6
            try clear c7
            try clear c7b0
            try clear c7b1
            obtain ⟨x8_1, x9_1, rfl, HA, HK1, HO_6, HO_7, HO_8, HB⟩ := hrel
            cases gk with
            | zero => exact absurd HA.out (by simp [celluloidref01_divide.l0])
            | succ k1 =>
              have H := HA.out
              clear HA
              simp only [celluloidref01_divide.l0] at H
              by_cases c14 : x9_1 < (l1.length : Int)
              · rw [if_pos c14] at H
                have c14b0 : decide (x9_1 < (l1.length : Int)) = true := decide_eq_true c14
                clear c14
                by_cases c15 : 0 ≤ x9_1
                · rw [if_pos c15] at H
                  have c15b0 : decide (0 ≤ x9_1) = true := decide_eq_true c15
                  clear c15
                  by_cases c16 : x9_1 < (x8_1.length : Int)
                  · rw [if_pos c16] at H
                    have c16b0 : decide (x9_1 < (x8_1.length : Int)) = true := decide_eq_true c16
                    clear c16
                    obtain ⟨y170, hy170⟩ : ∃ y_ : List Int, y_ = (x8_1.set (x9_1 : Int).toNat (rd l1 x9_1)) := ⟨_, rfl⟩
                    replace H : (celluloidref01_divide.l0 k1 l0 l1 y160 y163 y170 (wrap64 (x9_1 + 1))) = some (r1, r2) := by first | (rw [hy170]; with_reducible exact H) | (have H2_ := (Option.bind_some _ _).symm.trans H; rw [hy170]; with_reducible exact H2_) | (have H2_ := (Option.bind_some _ _).symm.trans H; with_reducible exact H2_) | with_reducible exact H | (rw [hy170]; exact H) | exact H
                    have Ny170 := Aside0.mk hy170
                    clear hy170
                    have H' := Aside0.mk H
                    clear H
                    have p169 : 0 ≤ (x9_1 : Int) := of_decide_eq_true (by first | (with_reducible assumption) | assumption)
                    have q169 : x9_1 < (l1.length : Int) := of_decide_eq_true (by first | (with_reducible assumption) | assumption)
                    obtain ⟨ad169, e169, hx169_0⟩ := Kd.at_int HR1.out x9_1 p169 q169
                    cases e169
                    replace hx169_0 := (HB.out.cell (World.block_lt_of_cell? w _ hx169_0)).trans hx169_0
                    replace p169 := eq_true p169
                    replace q169 := eq_true q169
                    have p17 : 0 ≤ (x9_1 : Int) := of_decide_eq_true (by first | (with_reducible assumption) | assumption)
                    have q17 : (x9_1 : Int) < ((x8_1.length : Int) : Int) := of_decide_eq_true (by first | (with_reducible assumption) | assumption)
                    obtain ⟨go17, co17, eo17, gb17, gl17, cl17, HG17⟩ := Kd.R_form HO_8.out (by omega)
                    (first | cases eo17 | (injection eo17 with ea_ en_ ec_; (first | subst ea_ | (injection ea_ with ea_; subst ea_)); subst ec_; clear en_))
                    have GB17 := Aside0.mk gb17
                    have GG17 := Aside0.mk HG17
                    clear gb17 gl17 HG17
                    obtain ⟨hx17_0, hf17_0⟩ := Kd.R_celln 0 HO_8.out (x9_1 : Int) p17 q17
                    replace p17 := eq_true p17
                    replace q17 := eq_true q17
                    have HP18 := Kd.R_putg HO_8.out (x9_1 : Int) (rd l1 x9_1)
                    go_wp2_with (first | ((with_reducible refine gate_store (t := 3) (p := 35) rfl ?_); refine store_event (t := 3) (p := 35) (v := ?vo_w19) (w1 := (wr.setCell ⟨go17, (x9_1 : Int).toNat, none⟩ (.int .i64 (rd l1 x9_1)))) ?hg ?ho ?hn ?hr ?_; (case ho => rfl); (case hg => rfl); (case hn => rfl); (case hr => first | (go_simp; done) | (go_simp; rfl)); intro w19 hw; have hg : wr.grownBy w19 (some go17) := (by rw [hw]; exact HP18.2); have hp_ : Kd.R (Kd.int .i64) 3 w19 w.heap.size (fun k_ => some k_ ≠ (v161 : Value).ownBlock ∧ some k_ ≠ (v164 : Value).ownBlock) (.slice (some ⟨go17, 0, none⟩) x8_1.length co17) y170 := (by rw [hw, Ny170.out]; exact HP18.1); clear HP18; have n0_ := Aside0.mk (Kd.R_after (v := (.slice (some ⟨go17, 0, none⟩) x8_1.length co17)) (v1 := (.slice (some ⟨go17, 0, none⟩) x8_1.length co17)) (ok := (fun k_ => some k_ ≠ (v164 : Value).ownBlock)) (by (with_reducible repeat (first | apply Kd.R_alloc | apply Kd.R_drewN | apply Kd.R_drew)); exact HO_6.out) hg (.inl rfl)); have n1_ := Aside0.mk (Kd.R_after (v := (.slice (some ⟨go17, 0, none⟩) x8_1.length co17)) (v1 := (.slice (some ⟨go17, 0, none⟩) x8_1.length co17)) (ok := (fun k_ => some k_ ≠ (v161 : Value).ownBlock)) (by (with_reducible repeat (first | apply Kd.R_alloc | apply Kd.R_drewN | apply Kd.R_drew)); exact HO_7.out) hg (.inl rfl)); have n2_ := Aside0.mk (hp_); have n3_ := Aside0.mk ((by rw [hw]; exact below_set (HB.out) GB17.out : Below w.heap.size w w19)); clear HO_6; clear HO_7; clear HO_8; clear HB; have HO_6 := n0_; have HO_7 := n1_; have HO_8 := n2_; have HB := n3_; clear n0_ n1_ n2_ n3_; clear hg hw hp_))
                    go_roundg k1
                    case measure => have := HK1.out; omega
                    case rel => exact ⟨(y170), (wrap64 (x9_1 + 1)), (by first | rfl | (simp; done) | (simp [*]; done)), H', ⟨by have := HK1.out; omega⟩, ⟨by (with_reducible repeat (first | apply Kd.R_alloc | apply Kd.R_drewN | apply Kd.R_drew)); exact HO_6.out⟩, ⟨by (with_reducible repeat (first | apply Kd.R_alloc | apply Kd.R_drewN | apply Kd.R_drew)); exact HO_7.out⟩, ⟨by (with_reducible repeat (first | apply Kd.R_alloc | apply Kd.R_drewN | apply Kd.R_drew)); exact HO_8.out⟩, ⟨by repeat (first | (with_reducible first | exact HB.out | apply below_alloc | apply pw_below_drewN | apply below_drew1) | exact HB.out)⟩⟩
                  · rw [if_neg c16] at H
                    exact absurd H (by simp)
                · rw [if_neg c15] at H
                  exact absurd H (by simp)
              · rw [if_neg c14] at H
                have c14b0 : decide (x9_1 < (l1.length : Int)) = false := decide_eq_false c14
                clear c14
                have H' := Aside0.mk H
                clear H
                go_wp2
                go_loopg [7, 10] k1 (fun kq v7 v10 w' => ∃ (x6_2 : List Int) (x7_2 : List Int) (x8_2 : List Int) (x10_2 : Int), v10 = .int .i64 x10_2 ∧ Aside0 (celluloidref01_divide.l1 kq l0 x6_2 x7_2 x8_2 x10_2 = some (r1, r2)) ∧ Aside0 (kq ≤ k1) ∧ Aside0 (Kd.R (Kd.int .i64) 3 w' w.heap.size (fun k_ => some k_ ≠ (v7 : Value).ownBlock ∧ some k_ ≠ (v167 : Value).ownBlock) v161 x6_2) ∧ Aside0 (Kd.R (Kd.int .i64) 3 w' w.heap.size (fun k_ => some k_ ≠ (v161 : Value).ownBlock ∧ some k_ ≠ (v167 : Value).ownBlock) v7 x7_2) ∧ Aside0 (Kd.R (Kd.int .i64) 3 w' w.heap.size (fun k_ => some k_ ≠ (v161 : Value).ownBlock ∧ some k_ ≠ (v7 : Value).ownBlock) v167 x8_2) ∧ Aside0 (Below w.heap.size w w'))
                case atStart => exact ⟨(y160), (y163), (x8_1), (wrap64 ((l0.length : Int) - 1)), (by first | rfl | (simp; done) | (simp [*]; done)), H', ⟨Nat.le_refl _⟩, ⟨by (with_reducible repeat (first | apply Kd.R_alloc | apply Kd.R_drewN | apply Kd.R_drew)); exact HO_6.out⟩, ⟨by (with_reducible repeat (first | apply Kd.R_alloc | apply Kd.R_drewN | apply Kd.R_drew)); exact HO_7.out⟩, ⟨by (with_reducible repeat (first | apply Kd.R_alloc | apply Kd.R_drewN | apply Kd.R_drew)); exact HO_8.out⟩, ⟨by repeat (first | (with_reducible first | exact HB.out | apply below_alloc | apply pw_below_drewN | apply below_drew1) | exact HB.out)⟩⟩
                case round =>
                  clear H'
                  try clear c1
                  try clear p1
                  try clear q1
                  try clear hx1
                  try clear c2
                  try clear p2
                  try clear c3
                  try clear c3b0
                  try clear c3b1
                  try clear c4
                  try clear c4b0
                  try clear c4b1
                  try clear c6
                  try clear c6b0
                  try clear c6b1
                  try clear p6
                  try clear c7
                  try clear c7b0
                  try clear c7b1
                  try clear c14
                  try clear c14b0
                  try clear c15
                  try clear c15b0
                  try clear c16
                  try clear c16b0
                  try clear p16
                  try clear q16
                  try clear hx16
                  try clear p17
                  try clear q17
                  try clear hx17
                  try clear hf17
                  try clear hx169_0
                  try clear hx17_0
                  try clear p169
                  try clear p17
                  try clear p2
                  try clear p6
                  try clear q169
                  try clear q17
                  obtain ⟨x6_2, x7_2, x8_2, x10_2, rfl, HA, HK2, HO_6, HO_7, HO_8, HB⟩ := hrel
                  cases gk with
                  | zero => exact absurd HA.out (by simp [celluloidref01_divide.l1])
                  | succ k2 =>
                    have H := HA.out
                    clear HA
                    simp only [celluloidref01_divide.l1] at H
                    by_cases c20 : x10_2 ≥ 0
                    · rw [if_pos c20] at H
                      have c20b0 : decide (0 ≤ x10_2) = true := decide_eq_true c20
                      clear c20
                      have H' := Aside0.mk H
                      clear H
                      go_wp2
                      go_loopg [7, 11] k2 (fun kq v7 v11 w' => ∃ (x6_3 : List Int) (x7_3 : List Int) (x8_3 : List Int) (x11_3 : Int), v11 = .int .i64 x11_3 ∧ Aside0 (celluloidref01_divide.l2 kq l0 x6_3 x7_3 x8_3 x10_2 x11_3 = some (r1, r2)) ∧ Aside0 (kq ≤ k2) ∧ Aside0 (Kd.R (Kd.int .i64) 3 w' w.heap.size (fun k_ => some k_ ≠ (v7 : Value).ownBlock ∧ some k_ ≠ (v167 : Value).ownBlock) v161 x6_3) ∧ Aside0 (Kd.R (Kd.int .i64) 3 w' w.heap.size (fun k_ => some k_ ≠ (v161 : Value).ownBlock ∧ some k_ ≠ (v167 : Value).ownBlock) v7 x7_3) ∧ Aside0 (Kd.R (Kd.int .i64) 3 w' w.heap.size (fun k_ => some k_ ≠ (v161 : Value).ownBlock ∧ some k_ ≠ (v7 : Value).ownBlock) v167 x8_3) ∧ Aside0 (Below w.heap.size w w'))
                      case atStart => exact ⟨(x6_2), (x7_2), (x8_2), (32768), (by first | rfl | (simp; done) | (simp [*]; done)), H', ⟨Nat.le_refl _⟩, ⟨by (with_reducible repeat (first | apply Kd.R_alloc | apply Kd.R_drewN | apply Kd.R_drew)); exact HO_6.out⟩, ⟨by (with_reducible repeat (first | apply Kd.R_alloc | apply Kd.R_drewN | apply Kd.R_drew)); exact HO_7.out⟩, ⟨by (with_reducible repeat (first | apply Kd.R_alloc | apply Kd.R_drewN | apply Kd.R_drew)); exact HO_8.out⟩, ⟨by repeat (first | (with_reducible first | exact HB.out | apply below_alloc | apply pw_below_drewN | apply below_drew1) | exact HB.out)⟩⟩
                      case round =>
                        clear H'
                        try clear c1
                        try clear p1
                        try clear q1
                        try clear hx1
                        try clear c2
                        try clear p2
                        try clear c3
                        try clear c3b0
                        try clear c3b1
                        try clear c4
                        try clear c4b0
                        try clear c4b1
                        try clear c6
                        try clear c6b0
                        try clear c6b1
                        try clear p6
                        try clear c7
                        try clear c7b0
                        try clear c7b1
                        try clear c14
                        try clear c14b0
                        try clear c15
                        try clear c15b0
                        try clear c16
                        try clear c16b0
                        try clear p16
                        try clear q16
                        try clear hx16
                        try clear p17
                        try clear q17
                        try clear hx17
                        try clear hf17
                        try clear c20
                        try clear c20b0
                        try clear hx169_0
                        try clear hx17_0
                        try clear p1
                        try clear p16
                        try clear p169
                        try clear p17
                        try clear p2
                        try clear p6
                        try clear q1
                        try clear q16
                        try clear q169
                        try clear q17
                        obtain ⟨x6_3, x7_3, x8_3, x11_3, rfl, HA, HK3, HO_6, HO_7, HO_8, HB⟩ := hrel
                        cases gk with
                        | zero => exact absurd HA.out (by simp [celluloidref01_divide.l2])
                        | succ k3 =>
                          have H := HA.out
                          clear HA
                          simp only [celluloidref01_divide.l2] at H
                          by_cases c21 : x11_3 > 0
                          · rw [if_pos c21] at H
                            have c21b0 : decide (0 < x11_3) = true := decide_eq_true c21
                            clear c21
                            obtain ⟨y172, hy172⟩ : ∃ y_ : List Int, y_ = (([2] : List Int)) := ⟨_, rfl⟩
                            replace H : ((celluloidref01_times.f k3 x7_3 y172).bind fun t175 => (if 0 ≤ (x7_3.length : Int) then (if (x7_3.length : Int) ≤ (t175.length : Int) then ((some (t175.take ((x7_3.length : Int) : Int).toNat : List Int)).bind fun y178 => (if 0 ≤ x10_2 then (if x10_2 < (l0.length : Int) then (if x11_3 = 0 then (none) else (if (Int.tmod (wrap64 (Int.tdiv (rd l0 x10_2) x11_3)) 2) = 1 then (if 0 < (y178.length : Int) then (celluloidref01_divide.j3 k3 l0 x6_3 (y178.set (0 : Int).toNat (wrap64 ((rd y178 0) + 1))) x8_3 x10_2 x11_3) else (none)) else (celluloidref01_divide.j3 k3 l0 x6_3 y178 x8_3 x10_2 x11_3))) else (none)) else (none))) else (none)) else (none))) = some (r1, r2) := by first | (rw [hy172]; with_reducible exact H) | (have H2_ := (Option.bind_some _ _).symm.trans H; rw [hy172]; with_reducible exact H2_) | (have H2_ := (Option.bind_some _ _).symm.trans H; with_reducible exact H2_) | with_reducible exact H | (rw [hy172]; exact H) | exact H
                            have Ny172 := Aside0.mk hy172
                            clear hy172
                            replace H := Option.bind_eq_some_iff.mp H
                            obtain ⟨t175, A220, H⟩ := H
                            replace H : (if 0 ≤ (x7_3.length : Int) then (if (x7_3.length : Int) ≤ (t175.length : Int) then ((some (t175.take ((x7_3.length : Int) : Int).toNat : List Int)).bind fun y178 => (if 0 ≤ x10_2 then (if x10_2 < (l0.length : Int) then (if x11_3 = 0 then (none) else (if (Int.tmod (wrap64 (Int.tdiv (rd l0 x10_2) x11_3)) 2) = 1 then (if 0 < (y178.length : Int) then (celluloidref01_divide.j3 k3 l0 x6_3 (y178.set (0 : Int).toNat (wrap64 ((rd y178 0) + 1))) x8_3 x10_2 x11_3) else (none)) else (celluloidref01_divide.j3 k3 l0 x6_3 y178 x8_3 x10_2 x11_3))) else (none)) else (none))) else (none)) else (none)) = some (r1, r2) := H
                            have A22 := Aside0.mk A220
                            clear A220
                            by_cases c23 : 0 ≤ (x7_3.length : Int)
                            · rw [if_pos c23] at H
                              have c23b0 := eq_true c23
                              have c23b1 : decide (0 ≤ (x7_3.length : Int)) = true := decide_eq_true c23
                              clear c23
                              by_cases c24 : (x7_3.length : Int) ≤ (t175.length : Int)
                              · rw [if_pos c24] at H
                                have c24b0 := eq_true c24
                                have c24b1 : decide ((x7_3.length : Int) ≤ (t175.length : Int)) = true := decide_eq_true c24
                                clear c24
                                obtain ⟨y178, hy178⟩ : ∃ y_ : List Int, y_ = (t175.take ((x7_3.length : Int) : Int).toNat) := ⟨_, rfl⟩
                                replace H : (if 0 ≤ x10_2 then (if x10_2 < (l0.length : Int) then (if x11_3 = 0 then (none) else (if (Int.tmod (wrap64 (Int.tdiv (rd l0 x10_2) x11_3)) 2) = 1 then (if 0 < (y178.length : Int) then (celluloidref01_divide.j3 k3 l0 x6_3 (y178.set (0 : Int).toNat (wrap64 ((rd y178 0) + 1))) x8_3 x10_2 x11_3) else (none)) else (celluloidref01_divide.j3 k3 l0 x6_3 y178 x8_3 x10_2 x11_3))) else (none)) else (none)) = some (r1, r2) := by first | (rw [hy178]; with_reducible exact H) | (have H2_ := (Option.bind_some _ _).symm.trans H; rw [hy178]; with_reducible exact H2_) | (have H2_ := (Option.bind_some _ _).symm.trans H; with_reducible exact H2_) | with_reducible exact H | (rw [hy178]; exact H) | exact H
                                have Ny178 := Aside0.mk hy178
                                clear hy178
                                by_cases c25 : 0 ≤ x10_2
                                · rw [if_pos c25] at H
                                  have c25b0 : decide (0 ≤ x10_2) = true := decide_eq_true c25
                                  clear c25
                                  by_cases c26 : x10_2 < (l0.length : Int)
                                  · rw [if_pos c26] at H
                                    have c26b0 : decide (x10_2 < (l0.length : Int)) = true := decide_eq_true c26
                                    clear c26
                                    by_cases c27 : x11_3 = 0
                                    · rw [if_pos c27] at H
                                      exact absurd H (by simp)
                                    · rw [if_neg c27] at H
                                      have c27b0 : (x11_3 == 0) = false := beq_eq_false_iff_ne.mpr c27
                                      have c27b1 : (x11_3 != 0) = true := bne_iff_ne.mpr c27
                                      have HC28 := Aside0.mk H
                                      clear H
                                      go_upto_if 60 with (first | ((with_reducible refine gate_dst (N := 48) rfl ?_); refine Kd.R_lit (Kd.int .i64) _ 3 ?hg (N := 48) ?hd (xs := ([2] : List Int)) (inner := [.int .i64 2]) (ok := fun _ => True) (okp := fun _ => True) ?hr ?hp (fun _ hk => hk) trivial (Below.refl _ _) (Nat.le_refl _) (by simp) ?_; (case hd => rfl); (case hg => rfl); (case hr => first | (go_simp; done) | (go_simp; rfl)); (case hp => exact (Reps.one (show Kd.M (Kd.int .i64) _ _ _ 2 [.int .i64 2] from rfl) (Reps.none _ _))); intro v173 w29 ho30 hb hg_ hnew_; clear hg_ hnew_; (first | rw [← Ny172.out] at ho30 | (simp only [Int.reduceToNat] at ho30; rw [← Ny172.out] at ho30)); have n0_ := Aside0.mk (Kd.R_elder' (by (with_reducible repeat (first | apply Kd.R_alloc | apply Kd.R_drewN | apply Kd.R_drew)); exact HO_6.out) (Kd.R_base ho30) hb); have n1_ := Aside0.mk (Kd.R_elder' (by (with_reducible repeat (first | apply Kd.R_alloc | apply Kd.R_drewN | apply Kd.R_drew)); exact HO_7.out) (Kd.R_base ho30) hb); have n2_ := Aside0.mk (Kd.R_elder' (by (with_reducible repeat (first | apply Kd.R_alloc | apply Kd.R_drewN | apply Kd.R_drew)); exact HO_8.out) (Kd.R_base ho30) hb); have n3_ := Aside0.mk (Kd.R_lower (Kd.R_new' (Kd.R_new' (Kd.R_new' ho30 (Kd.R_lt (by (with_reducible repeat (first | apply Kd.R_alloc | apply Kd.R_drewN | apply Kd.R_drew)); exact HO_6.out))) (Kd.R_lt (by (with_reducible repeat (first | apply Kd.R_alloc | apply Kd.R_drewN | apply Kd.R_drew)); exact HO_7.out))) (Kd.R_lt (by (with_reducible repeat (first | apply Kd.R_alloc | apply Kd.R_drewN | apply Kd.R_drew)); exact HO_8.out))) (below_size (by repeat (first | (with_reducible first | exact HB.out | apply below_alloc | apply pw_below_drewN | apply below_drew1) | exact HB.out)))); have n4_ := Aside0.mk (below_step (by repeat (first | (with_reducible first | exact HB.out | apply below_alloc | apply pw_below_drewN | apply below_drew1) | exact HB.out)) hb); clear HO_6; clear HO_7; clear HO_8; clear HB; have HO_6 := n0_; have HO_7 := n1_; have HO_8 := n2_; have HO174 := n3_; have HB := n4_; clear n0_ n1_ n2_ n3_ n4_; clear hb ho30; obtain ⟨Ao31, co31, eo31⟩ := Kd.R_slice HO_7.out; subst eo31; obtain ⟨Ao32, co32, eo32⟩ := Kd.R_slice HO174.out; subst eo32) | ((with_reducible refine gate_callee (f := 40) rfl ?_); refine goesL_ (some 49) rfl rfl Try.func40 (by kernel_rfl) rfl #[.slice Ao31 x7_3.length co31, .slice Ao32 y172.length co32] rfl (by (try simp only [List.map_toArray, List.map_cons, List.map_nil]); first | done | rfl | (simp only [List.length_drop, List.length_take]; rfl)) ?_; (with_reducible refine (celluloidref01_times.calls k3 _ _ x7_3 _ _ y172 t175 _ ?side1 ?side2 ?side3 ?side4 A22.out).mono ?_); (case side1 => repeat (first | exact (Kd.R_reads' HO_7.out).2.2 | (with_reducible refine Kd.C_alloc ?_ _) | (with_reducible refine Kd.C_drewN ?_ _) | (with_reducible refine Kd.C_drew ?_))); (case side2 => exact (Kd.R_reads' HO_7.out).2.1); (case side3 => repeat (first | exact (Kd.R_reads' HO174.out).2.2 | (with_reducible refine Kd.C_alloc ?_ _) | (with_reducible refine Kd.C_drewN ?_ _) | (with_reducible refine Kd.C_drew ?_))); (case side4 => exact (Kd.R_reads' HO174.out).2.1); rintro e w33 ⟨v176, rfl, ho0, hb⟩; refine ⟨_, rfl, ?_⟩; have n0_ := Aside0.mk (Kd.R_elder' (by (with_reducible repeat (first | apply Kd.R_alloc | apply Kd.R_drewN | apply Kd.R_drew)); exact HO_6.out) (Kd.R_base ho0) hb); have n1_ := Aside0.mk (Kd.R_elder' (by (with_reducible repeat (first | apply Kd.R_alloc | apply Kd.R_drewN | apply Kd.R_drew)); exact HO_7.out) (Kd.R_base ho0) hb); have n2_ := Aside0.mk (Kd.R_elder' (by (with_reducible repeat (first | apply Kd.R_alloc | apply Kd.R_drewN | apply Kd.R_drew)); exact HO_8.out) (Kd.R_base ho0) hb); have n3_ := Aside0.mk (Kd.R_elder' (by (with_reducible repeat (first | apply Kd.R_alloc | apply Kd.R_drewN | apply Kd.R_drew)); exact HO174.out) (Kd.R_base ho0) hb); have n4_ := Aside0.mk (Kd.R_lower (Kd.R_new' (Kd.R_new' (Kd.R_new' (Kd.R_new' ho0 (Kd.R_lt (by (with_reducible repeat (first | apply Kd.R_alloc | apply Kd.R_drewN | apply Kd.R_drew)); exact HO_6.out))) (Kd.R_lt (by (with_reducible repeat (first | apply Kd.R_alloc | apply Kd.R_drewN | apply Kd.R_drew)); exact HO_7.out))) (Kd.R_lt (by (with_reducible repeat (first | apply Kd.R_alloc | apply Kd.R_drewN | apply Kd.R_drew)); exact HO_8.out))) (Kd.R_lt (by (with_reducible repeat (first | apply Kd.R_alloc | apply Kd.R_drewN | apply Kd.R_drew)); exact HO174.out))) (below_size (by repeat (first | (with_reducible first | exact HB.out | apply below_alloc | apply pw_below_drewN | apply below_drew1) | exact HB.out)))); have n5_ := Aside0.mk (below_step (by repeat (first | (with_reducible first | exact HB.out | apply below_alloc | apply pw_below_drewN | apply below_drew1) | exact HB.out)) hb); clear HO_6; clear HO_7; clear HO_8; clear HO174; clear HB; have HO_6 := n0_; have HO_7 := n1_; have HO_8 := n2_; have HO174 := n3_; have HO177 := n4_; have HB := n5_; clear n0_ n1_ n2_ n3_ n4_ n5_; (try clear hb); (try clear hb2); (try clear hk); (try clear hi); (try clear ho0); obtain ⟨Ao34, co34, eo34⟩ := Kd.R_slice HO177.out; subst eo34; have q35 : ((x7_3.length : Int) : Int) ≤ ((t175.length : Int) : Int) := of_decide_eq_true (by first | (with_reducible assumption) | assumption); obtain ⟨i035, hi035, _, hsz35, _⟩ := info_parts info3; have hcut35 := cut_to (P := Try.prog) 34 3 .i64 Try.underlying34 hi035 Ao34 t175.length co34 (x7_3.length : Int) (of_decide_eq_true (by first | (with_reducible assumption) | assumption)) q35 (Kd.R_reads' HO177.out).2.1; have hr35 := Kd.R_take (m := ((x7_3.length : Int) : Int).toNat) HO177.out (by omega); have hy35 : y178.length = ((x7_3.length : Int) : Int).toNat := (by rw [Ny178.out, List.length_take]; omega); rw [← Ny178.out] at hr35; rw [← hy35] at hr35 hcut35; clear hy35 hi035 hsz35 HO177; have HO180 := Aside0.mk hr35; clear hr35; replace q35 := eq_true q35; (try rw [ownBlock_len Ao34 co34 t175.length y178.length] at HO_6); (try rw [ownBlock_len Ao34 co34 t175.length y178.length] at HO_7); (try rw [ownBlock_len Ao34 co34 t175.length y178.length] at HO_8); (try rw [ownBlock_len Ao34 co34 t175.length y178.length] at HO174); have p181 : 0 ≤ (x10_2 : Int) := of_decide_eq_true (by first | (with_reducible assumption) | assumption); have q181 : x10_2 < (l0.length : Int) := of_decide_eq_true (by first | (with_reducible assumption) | assumption); obtain ⟨ad181, e181, hx181_0⟩ := Kd.at_int HR0.out x10_2 p181 q181; cases e181; replace hx181_0 := (HB.out.cell (World.block_lt_of_cell? w _ hx181_0)).trans hx181_0; replace p181 := eq_true p181; replace q181 := eq_true q181))
                                      (try simp only [Act.put, List.setIfInBounds_toArray, List.set_cons_zero, List.set_cons_succ])
                                      go_cut [] (fun wc => ∃ (kq : Nat) (x7_27 : List Int), Aside0 (celluloidref01_divide.j3 kq l0 x6_3 x7_27 x8_3 x10_2 x11_3 = some (r1, r2)) ∧ Aside0 (kq ≤ k3) ∧ Aside0 (Kd.R (Kd.int .i64) 3 wc w.heap.size (fun k_ => some k_ ≠ ((.slice Ao34 y178.length co34) : Value).ownBlock ∧ some k_ ≠ (v167 : Value).ownBlock) v161 x6_3) ∧ Aside0 (Kd.R (Kd.int .i64) 3 wc w.heap.size (fun k_ => some k_ ≠ (v161 : Value).ownBlock ∧ some k_ ≠ (v167 : Value).ownBlock) (.slice Ao34 y178.length co34) x7_27) ∧ Aside0 (Kd.R (Kd.int .i64) 3 wc w.heap.size (fun k_ => some k_ ≠ (v161 : Value).ownBlock ∧ some k_ ≠ ((.slice Ao34 y178.length co34) : Value).ownBlock) v167 x8_3) ∧ Aside0 (Below w.heap.size w wc))
                                      case first =>
                                        have H := HC28.out
                                        clear HC28
                                        by_cases c36 : (Int.tmod (wrap64 (Int.tdiv (rd l0 x10_2) x11_3)) 2) = 1
                                        · rw [if_pos c36] at H
                                          have c36b0 : ((Int.tmod (wrap64 (Int.tdiv (rd l0 x10_2) x11_3)) 2) == 1) = true := beq_iff_eq.mpr c36
                                          have c36b1 : ((Int.tmod (wrap64 (Int.tdiv (rd l0 x10_2) x11_3)) 2) != 1) = false := bne_eq_false_iff_eq.mpr c36
                                          clear c36
                                          (first | rw [c36b0] | (simp only [i64_w, i32_w]; rw [c36b0]) | skip)
                                          by_cases c37 : 0 < (y178.length : Int)
                                          · rw [if_pos c37] at H
                                            have c37b0 : decide (0 < (y178.length : Int)) = true := decide_eq_true c37
                                            have c37b1 : decide (0 < y178.length) = true := decide_eq_true (by omega)
                                            clear c37
                                            obtain ⟨y183, hy183⟩ : ∃ y_ : List Int, y_ = (y178.set (0 : Int).toNat (wrap64 ((rd y178 0) + 1))) := ⟨_, rfl⟩
                                            replace H : (celluloidref01_divide.j3 k3 l0 x6_3 y183 x8_3 x10_2 x11_3) = some (r1, r2) := by first | (rw [hy183]; with_reducible exact H) | (have H2_ := (Option.bind_some _ _).symm.trans H; rw [hy183]; with_reducible exact H2_) | (have H2_ := (Option.bind_some _ _).symm.trans H; with_reducible exact H2_) | with_reducible exact H | (rw [hy183]; exact H) | exact H
                                            have Ny183 := Aside0.mk hy183
                                            clear hy183
                                            have H' := Aside0.mk H
                                            clear H
                                            have p182 : 0 ≤ (0 : Int) := (by omega)
                                            have q182 : 0 < (y178.length : Int) := of_decide_eq_true (by first | (with_reducible assumption) | assumption)
                                            obtain ⟨ad182, e182, hx182_0⟩ := Kd.at_int (Kd.R_reads' HO180.out).2.2 0 p182 q182
                                            cases e182
                                            have qi182 : (0 < y178.length) = True := eq_true (by omega)
                                            (try rw [show ((0 : Int)).toNat = 0 from rfl] at hx182_0)
                                            (try rw [Addr.add_zero'] at hx182_0)
                                            replace p182 := eq_true p182
                                            replace q182 := eq_true q182
                                            have p38 : 0 ≤ (0 : Int) := (by omega)
                                            have q38 : (0 : Int) < ((y178.length : Int) : Int) := of_decide_eq_true (by first | (with_reducible assumption) | assumption)
                                            have qi38 : (0 < y178.length) = True := eq_true (by omega)
                                            obtain ⟨go38, co38, eo38, gb38, gl38, cl38, HG38⟩ := Kd.R_form HO180.out (by omega)
                                            (first | cases eo38 | (injection eo38 with ea_ en_ ec_; (first | subst ea_ | (injection ea_ with ea_; subst ea_)); subst ec_; clear en_))
                                            have GB38 := Aside0.mk gb38
                                            have GG38 := Aside0.mk HG38
                                            clear gb38 gl38 HG38
                                            (first | simp only [add_plain] at hx182_0 | skip)
                                            obtain ⟨hx38_0, hf38_0⟩ := Kd.R_celln 0 HO180.out (0 : Int) p38 q38
                                            (try rw [show ((0 : Int)).toNat = 0 from rfl] at hx38_0)
                                            (try simp only [Nat.reduceMul, Nat.zero_mul, Nat.zero_add, Nat.reduceAdd] at hx38_0)
                                            (try rw [show ((0 : Int)).toNat = 0 from rfl] at hf38_0)
                                            (try simp only [Nat.reduceMul, Nat.zero_mul, Nat.zero_add, Nat.reduceAdd] at hf38_0)
                                            replace p38 := eq_true p38
                                            replace q38 := eq_true q38
                                            have n_ := Aside0.mk (Kd.R_mono (ok' := (fun k_ => some k_ ≠ (v161 : Value).ownBlock ∧ some k_ ≠ (.slice Ao31 x7_3.length co31 : Value).ownBlock ∧ some k_ ≠ (v167 : Value).ownBlock ∧ some k_ ≠ (.slice Ao32 y172.length co32 : Value).ownBlock)) HO180.out (fun k_ hk => ⟨hk.1.1.1.2, ⟨hk.1.1.2, ⟨hk.1.2, hk.2⟩⟩⟩))
                                            clear HO180
                                            have HO180 := n_
                                            clear n_
                                            have HP39 := Kd.R_putg HO180.out (0 : Int) (wrap64 ((rd y178 0) + 1))
                                            go_wp2_with (first | ((with_reducible refine gate_store (t := 3) (p := 65) rfl ?_); refine store_event (t := 3) (p := 65) (v := ?vo_w40) (w1 := (w33.setCell ⟨go38, (0 : Int).toNat, none⟩ (.int .i64 (wrap64 ((rd y178 0) + 1))))) ?hg ?ho ?hn ?hr ?_; (case ho => rfl); (case hg => rfl); (case hn => rfl); (case hr => first | (go_simp; done) | (go_simp; rfl)); intro w40 hw; have hg : w33.grownBy w40 (some go38) := (by rw [hw]; exact HP39.2); have hp_ : Kd.R (Kd.int .i64) 3 w40 w.heap.size (fun k_ => some k_ ≠ (v161 : Value).ownBlock ∧ some k_ ≠ (.slice Ao31 x7_3.length co31 : Value).ownBlock ∧ some k_ ≠ (v167 : Value).ownBlock ∧ some k_ ≠ (.slice Ao32 y172.length co32 : Value).ownBlock) (.slice (some ⟨go38, 0, none⟩) y178.length co34) y183 := (by rw [hw, Ny183.out]; exact HP39.1); clear HP39; have n0_ := Aside0.mk (Kd.R_after (v := (.slice (some ⟨go38, 0, none⟩) y178.length co34)) (v1 := (.slice (some ⟨go38, 0, none⟩) y178.length co34)) (ok := (fun k_ => some k_ ≠ (.slice Ao31 x7_3.length co31 : Value).ownBlock ∧ some k_ ≠ (v167 : Value).ownBlock ∧ some k_ ≠ (.slice Ao32 y172.length co32 : Value).ownBlock)) (by (with_reducible repeat (first | apply Kd.R_alloc | apply Kd.R_drewN | apply Kd.R_drew)); exact Kd.R_mono HO_6.out (fun _ hk => ⟨⟨hk.1.1.1, ⟨hk.1.1.2, hk.1.2⟩⟩, hk.2⟩)) hg (.inl rfl)); have n1_ := Aside0.mk (Kd.R_after (v := (.slice (some ⟨go38, 0, none⟩) y178.length co34)) (v1 := (.slice (some ⟨go38, 0, none⟩) y178.length co34)) (ok := (fun k_ => some k_ ≠ (v161 : Value).ownBlock ∧ some k_ ≠ (v167 : Value).ownBlock ∧ some k_ ≠ (.slice Ao32 y172.length co32 : Value).ownBlock)) (by (with_reducible repeat (first | apply Kd.R_alloc | apply Kd.R_drewN | apply Kd.R_drew)); exact Kd.R_mono HO_7.out (fun _ hk => ⟨⟨hk.1.1.1, ⟨hk.1.1.2, hk.1.2⟩⟩, hk.2⟩)) hg (.inl rfl)); have n2_ := Aside0.mk (Kd.R_after (v := (.slice (some ⟨go38, 0, none⟩) y178.length co34)) (v1 := (.slice (some ⟨go38, 0, none⟩) y178.length co34)) (ok := (fun k_ => some k_ ≠ (v161 : Value).ownBlock ∧ some k_ ≠ (.slice Ao31 x7_3.length co31 : Value).ownBlock ∧ some k_ ≠ (.slice Ao32 y172.length co32 : Value).ownBlock)) (by (with_reducible repeat (first | apply Kd.R_alloc | apply Kd.R_drewN | apply Kd.R_drew)); exact Kd.R_mono HO_8.out (fun _ hk => ⟨⟨hk.1.1.1, ⟨hk.1.1.2, hk.1.2⟩⟩, hk.2⟩)) hg (.inl rfl)); have n3_ := Aside0.mk (Kd.R_after (v := (.slice (some ⟨go38, 0, none⟩) y178.length co34)) (v1 := (.slice (some ⟨go38, 0, none⟩) y178.length co34)) (ok := (fun k_ => some k_ ≠ (v161 : Value).ownBlock ∧ some k_ ≠ (.slice Ao31 x7_3.length co31 : Value).ownBlock ∧ some k_ ≠ (v167 : Value).ownBlock)) (by (with_reducible repeat (first | apply Kd.R_alloc | apply Kd.R_drewN | apply Kd.R_drew)); exact Kd.R_mono HO174.out (fun _ hk => ⟨⟨hk.1.1.1.2, ⟨hk.1.1.2, hk.1.2⟩⟩, hk.2⟩)) hg (.inl rfl)); have n4_ := Aside0.mk (hp_); have n5_ := Aside0.mk ((by rw [hw]; exact below_set (HB.out) GB38.out : Below w.heap.size w w40)); clear HO_6; clear HO_7; clear HO_8; clear HO174; clear HO180; clear HB; have HO_6 := n0_; have HO_7 := n1_; have HO_8 := n2_; have HO174 := n3_; have HO180 := n4_; have HB := n5_; clear n0_ n1_ n2_ n3_ n4_ n5_; clear hg hw hp_))
                                            go_meet
                                            case rel => exact ⟨_, (y183), H', ⟨by have := HK1.out; have := HK2.out; have := HK3.out; first | omega | exact Nat.le_refl _⟩, ⟨by (with_reducible repeat (first | apply Kd.R_alloc | apply Kd.R_drewN | apply Kd.R_drew)); exact Kd.R_mono HO_6.out (fun _ hk => ⟨hk.2, hk.1.2.1⟩)⟩, ⟨by (with_reducible repeat (first | apply Kd.R_alloc | apply Kd.R_drewN | apply Kd.R_drew)); exact Kd.R_mono HO180.out (fun _ hk => ⟨hk.1, hk.2.2.1⟩)⟩, ⟨by (with_reducible repeat (first | apply Kd.R_alloc | apply Kd.R_drewN | apply Kd.R_drew)); exact Kd.R_mono HO_8.out (fun _ hk => ⟨hk.1.1, hk.2⟩)⟩, ⟨by repeat (first | (with_reducible first | exact HB.out | apply below_alloc | apply pw_below_drewN | apply below_drew1) | exact HB.out)⟩⟩
                                          · rw [if_neg c37] at H
                                            exact absurd H (by simp)
                                        · rw [if_neg c36] at H
                                          have c36b0 : ((Int.tmod (wrap64 (Int.tdiv (rd l0 x10_2) x11_3)) 2) == 1) = false := beq_eq_false_iff_ne.mpr c36
                                          have c36b1 : ((Int.tmod (wrap64 (Int.tdiv (rd l0 x10_2) x11_3)) 2) != 1) = true := bne_iff_ne.mpr c36
                                          (first | rw [c36b0] | (simp only [i64_w, i32_w]; rw [c36b0]) | skip)
                                          have H' := Aside0.mk H
                                          clear H
                                          go_wp2
                                          go_meet
                                          case rel => exact ⟨_, (y178), H', ⟨by have := HK1.out; have := HK2.out; have := HK3.out; first | omega | exact Nat.le_refl _⟩, ⟨by (with_reducible repeat (first | apply Kd.R_alloc | apply Kd.R_drewN | apply Kd.R_drew)); exact Kd.R_mono HO_6.out (fun _ hk => ⟨hk.2, hk.1.1.2⟩)⟩, ⟨by (with_reducible repeat (first | apply Kd.R_alloc | apply Kd.R_drewN | apply Kd.R_drew)); exact Kd.R_mono HO180.out (fun _ hk => ⟨hk.1.1.1.2, hk.1.2⟩)⟩, ⟨by (with_reducible repeat (first | apply Kd.R_alloc | apply Kd.R_drewN | apply Kd.R_drew)); exact Kd.R_mono HO_8.out (fun _ hk => ⟨hk.1.1.1, hk.2⟩)⟩, ⟨by repeat (first | (with_reducible first | exact HB.out | apply below_alloc | apply pw_below_drewN | apply below_drew1) | exact HB.out)⟩⟩
                                      case rest =>
                                        clear HC28
                                        try clear c1
                                        try clear p1
                                        try clear q1
                                        try clear hx1
                                        try clear qi1
                                        try clear c2
                                        try clear p2
                                        try clear c3
                                        try clear c3b0
                                        try clear c3b1
                                        try clear p3
                                        try clear q3
                                        try clear hx3
                                        try clear qi3
                                        try clear hf3
                                        try clear c4
                                        try clear c4b0
                                        try clear c4b1
                                        try clear c6
                                        try clear c6b0
                                        try clear c6b1
                                        try clear p6
                                        try clear c7
                                        try clear c7b0
                                        try clear c7b1
                                        try clear c14
                                        try clear c14b0
                                        try clear c15
                                        try clear c15b0
                                        try clear c16
                                        try clear c16b0
                                        try clear p16
                                        try clear q16
                                        try clear hx16
                                        try clear p17
                                        try clear q17
                                        try clear hx17
                                        try clear hf17
                                        try clear p18
                                        try clear q18
                                        try clear hx18
                                        try clear qi18
                                        try clear c20
                                        try clear c20b0
                                        try clear c21
                                        try clear c21b0
                                        try clear c23
                                        try clear c23b0
                                        try clear c23b1
                                        try clear c24
                                        try clear c24b0
                                        try clear c24b1
                                        try clear c25
                                        try clear c25b0
                                        try clear c26
                                        try clear c26b0
                                        try clear c27
                                        try clear c27b0
                                        try clear c27b1
                                        try clear q35
                                        try clear c36
                                        try clear c36b0
                                        try clear c36b1
                                        try clear c37
                                        try clear c37b0
                                        try clear c37b1
                                        try clear p38
                                        try clear q38
                                        try clear hx38
                                        try clear qi38
                                        try clear hf38
                                        try clear c40
                                        try clear hx169_0
                                        try clear hx17_0
                                        try clear hx181_0
                                        try clear hx182_0
                                        try clear hx38_0
                                        try clear p1
                                        try clear p16
                                        try clear p169
                                        try clear p17
                                        try clear p181
                                        try clear p182
                                        try clear p2
                                        try clear p38
                                        try clear p6
                                        try clear q1
                                        try clear q16
                                        try clear q169
                                        try clear q17
                                        try clear q181
                                        try clear q182
                                        try clear q35
                                        try clear q38
                                        obtain ⟨kq, x7_27, HA, HJ27, HO_6, HO_7, HO_8, HB⟩ := hcut
                                        have hl7_27 := (Kd.R_reads' HO_7.out).1
                                        rw [hl7_27] at HO_7
                                        (try simp only [hl7_27])
                                        (try simp only [hl7_27] at HO_6)
                                        (try simp only [hl7_27] at HO_8)
                                        cases kq with
                                        | zero => exact absurd HA.out (by simp [celluloidref01_divide.j3])
                                        | succ kj27 =>
                                          have H := HA.out
                                          clear HA
                                          simp only [celluloidref01_divide.j3] at H
                                          replace H := Option.bind_eq_some_iff.mp H
                                          obtain ⟨t184, A410, H⟩ := H
                                          replace H : (if t184 ≥ 0 then ((celluloidref01_minus.f kj27 x7_27 x8_3).bind fun t185 => (if 0 ≤ x10_2 then (if x10_2 < (x6_3.length : Int) then (celluloidref01_divide.l2 kj27 l0 (x6_3.set (x10_2 : Int).toNat (wrap64 ((rd x6_3 x10_2) + x11_3))) t185 x8_3 x10_2 (wrap64 (Int.tdiv x11_3 2))) else (none)) else (none))) else (celluloidref01_divide.l2 kj27 l0 x6_3 x7_27 x8_3 x10_2 (wrap64 (Int.tdiv x11_3 2)))) = some (r1, r2) := H
                                          have A41 := Aside0.mk A410
                                          clear A410
                                          by_cases c42 : t184 ≥ 0
                                          · rw [if_pos c42] at H
                                            have c42b0 : decide (0 ≤ t184) = true := decide_eq_true c42
                                            clear c42
                                            replace H := Option.bind_eq_some_iff.mp H
                                            obtain ⟨t185, A430, H⟩ := H
                                            replace H : (if 0 ≤ x10_2 then (if x10_2 < (x6_3.length : Int) then (celluloidref01_divide.l2 kj27 l0 (x6_3.set (x10_2 : Int).toNat (wrap64 ((rd x6_3 x10_2) + x11_3))) t185 x8_3 x10_2 (wrap64 (Int.tdiv x11_3 2))) else (none)) else (none)) = some (r1, r2) := H
                                            have A43 := Aside0.mk A430
                                            clear A430
                                            by_cases c44 : 0 ≤ x10_2
                                            · rw [if_pos c44] at H
                                              have c44b0 : decide (0 ≤ x10_2) = true := decide_eq_true c44
                                              clear c44
                                              by_cases c45 : x10_2 < (x6_3.length : Int)
                                              · rw [if_pos c45] at H
                                                have c45b0 : decide (x10_2 < (x6_3.length : Int)) = true := decide_eq_true c45
                                                clear c45
                                                obtain ⟨y189, hy189⟩ : ∃ y_ : List Int, y_ = (x6_3.set (x10_2 : Int).toNat (wrap64 ((rd x6_3 x10_2) + x11_3))) := ⟨_, rfl⟩
                                                replace H : (celluloidref01_divide.l2 kj27 l0 y189 t185 x8_3 x10_2 (wrap64 (Int.tdiv x11_3 2))) = some (r1, r2) := by first | (rw [hy189]; with_reducible exact H) | (have H2_ := (Option.bind_some _ _).symm.trans H; rw [hy189]; with_reducible exact H2_) | (have H2_ := (Option.bind_some _ _).symm.trans H; with_reducible exact H2_) | with_reducible exact H | (rw [hy189]; exact H) | exact H
                                                have Ny189 := Aside0.mk hy189
                                                clear hy189
                                                have H' := Aside0.mk H
                                                clear H
                                                obtain ⟨Ao47, co47, eo47⟩ := Kd.R_slice HO_8.out
                                                subst eo47
                                                go_wp2_with (first | ((with_reducible refine gate_callee (f := 38) rfl ?_); refine goesL_ (some 68) rfl rfl Try.func38 (by kernel_rfl) rfl #[.slice Ao34 x7_27.length co34, .slice Ao47 x8_3.length co47] rfl (by (try simp only [List.map_toArray, List.map_cons, List.map_nil]); first | done | rfl | (simp only [List.length_drop, List.length_take]; rfl)) ?_; (with_reducible refine (celluloidref01_order.calls kj27 _ _ x7_27 _ _ x8_3 t184 _ ?side1 ?side2 ?side3 ?side4 A41.out).mono ?_); (case side1 => repeat (first | exact (Kd.R_reads' HO_7.out).2.2 | (with_reducible refine Kd.C_alloc ?_ _) | (with_reducible refine Kd.C_drewN ?_ _) | (with_reducible refine Kd.C_drew ?_))); (case side2 => exact (Kd.R_reads' HO_7.out).2.1); (case side3 => repeat (first | exact (Kd.R_reads' HO_8.out).2.2 | (with_reducible refine Kd.C_alloc ?_ _) | (with_reducible refine Kd.C_drewN ?_ _) | (with_reducible refine Kd.C_drew ?_))); (case side4 => exact (Kd.R_reads' HO_8.out).2.1); rintro e w' ⟨rfl, ⟨nd, rfl⟩⟩; refine ⟨_, rfl, ?_⟩; (try (rw [drewN_self wc]; generalize hq_ : World.drewN wc _ = wc; have n0_ : Aside0 (Kd.R (Kd.int .i64) 3 wc w.heap.size (fun k_ => some k_ ≠ (.slice Ao34 x7_27.length co34 : Value).ownBlock ∧ some k_ ≠ (.slice Ao47 x8_3.length co47 : Value).ownBlock) v161 x6_3) := ⟨by rw [← hq_]; exact (by (with_reducible repeat (first | apply Kd.R_alloc | apply Kd.R_drewN | apply Kd.R_drew)); exact HO_6.out)⟩; have n1_ : Aside0 (Kd.R (Kd.int .i64) 3 wc w.heap.size (fun k_ => some k_ ≠ (v161 : Value).ownBlock ∧ some k_ ≠ (.slice Ao47 x8_3.length co47 : Value).ownBlock) (.slice Ao34 x7_27.length co34) x7_27) := ⟨by rw [← hq_]; exact (by (with_reducible repeat (first | apply Kd.R_alloc | apply Kd.R_drewN | apply Kd.R_drew)); exact HO_7.out)⟩; have n2_ : Aside0 (Kd.R (Kd.int .i64) 3 wc w.heap.size (fun k_ => some k_ ≠ (v161 : Value).ownBlock ∧ some k_ ≠ (.slice Ao34 x7_27.length co34 : Value).ownBlock) (.slice Ao47 x8_3.length co47) x8_3) := ⟨by rw [← hq_]; exact (by (with_reducible repeat (first | apply Kd.R_alloc | apply Kd.R_drewN | apply Kd.R_drew)); exact HO_8.out)⟩; have n3_ : Aside0 (Below w.heap.size w wc) := ⟨by rw [← hq_]; exact (by repeat (first | (with_reducible first | exact HB.out | apply below_alloc | apply pw_below_drewN | apply below_drew1) | exact HB.out))⟩; clear HO_6 HO_7 HO_8 HB hq_; have HO_6 := n0_; have HO_7 := n1_; have HO_8 := n2_; have HB := n3_; clear n0_ n1_ n2_ n3_))) | ((with_reducible refine gate_callee (f := 41) rfl ?_); refine goesL_ (some 72) rfl rfl Try.func41 (by kernel_rfl) rfl #[.slice Ao34 x7_27.length co34, .slice Ao47 x8_3.length co47] rfl (by (try simp only [List.map_toArray, List.map_cons, List.map_nil]); first | done | rfl | (simp only [List.length_drop, List.length_take]; rfl)) ?_; (with_reducible refine (celluloidref01_minus.calls kj27 _ _ x7_27 _ _ x8_3 t185 _ ?side1 ?side2 ?side3 ?side4 A43.out).mono ?_); (case side1 => repeat (first | exact (Kd.R_reads' HO_7.out).2.2 | (with_reducible refine Kd.C_alloc ?_ _) | (with_reducible refine Kd.C_drewN ?_ _) | (with_reducible refine Kd.C_drew ?_))); (case side2 => exact (Kd.R_reads' HO_7.out).2.1); (case side3 => repeat (first | exact (Kd.R_reads' HO_8.out).2.2 | (with_reducible refine Kd.C_alloc ?_ _) | (with_reducible refine Kd.C_drewN ?_ _) | (with_reducible refine Kd.C_drew ?_))); (case side4 => exact (Kd.R_reads' HO_8.out).2.1); rintro e w48 ⟨v186, rfl, ho0, hb⟩; refine ⟨_, rfl, ?_⟩; have n0_ := Aside0.mk (Kd.R_elder' (by (with_reducible repeat (first | apply Kd.R_alloc | apply Kd.R_drewN | apply Kd.R_drew)); exact HO_6.out) (Kd.R_base ho0) hb); have n1_ := Aside0.mk (Kd.R_elder' (by (with_reducible repeat (first | apply Kd.R_alloc | apply Kd.R_drewN | apply Kd.R_drew)); exact HO_7.out) (Kd.R_base ho0) hb); have n2_ := Aside0.mk (Kd.R_elder' (by (with_reducible repeat (first | apply Kd.R_alloc | apply Kd.R_drewN | apply Kd.R_drew)); exact HO_8.out) (Kd.R_base ho0) hb); have n3_ := Aside0.mk (Kd.R_lower (Kd.R_new' (Kd.R_new' (Kd.R_new' ho0 (Kd.R_lt (by (with_reducible repeat (first | apply Kd.R_alloc | apply Kd.R_drewN | apply Kd.R_drew)); exact HO_6.out))) (Kd.R_lt (by (with_reducible repeat (first | apply Kd.R_alloc | apply Kd.R_drewN | apply Kd.R_drew)); exact HO_7.out))) (Kd.R_lt (by (with_reducible repeat (first | apply Kd.R_alloc | apply Kd.R_drewN | apply Kd.R_drew)); exact HO_8.out))) (below_size (by repeat (first | (with_reducible first | exact HB.out | apply below_alloc | apply pw_below_drewN | apply below_drew1) | exact HB.out)))); have n4_ := Aside0.mk (below_step (by repeat (first | (with_reducible first | exact HB.out | apply below_alloc | apply pw_below_drewN | apply below_drew1) | exact HB.out)) hb); clear HO_6; clear HO_7; clear HO_8; clear HB; have HO_6 := n0_; have HO_7 := n1_; have HO_8 := n2_; have HO187 := n3_; have HB := n4_; clear n0_ n1_ n2_ n3_ n4_; (try clear hb); (try clear hb2); (try clear hk); (try clear hi); (try clear ho0); obtain ⟨Ao49, co49, eo49⟩ := Kd.R_slice HO_6.out; subst eo49; have p188 : 0 ≤ (x10_2 : Int) := of_decide_eq_true (by first | (with_reducible assumption) | assumption); have q188 : x10_2 < (x6_3.length : Int) := of_decide_eq_true (by first | (with_reducible assumption) | assumption); obtain ⟨ad188, e188, hx188_0⟩ := Kd.at_int (Kd.R_reads' HO_6.out).2.2 x10_2 p188 q188; cases e188; replace p188 := eq_true p188; replace q188 := eq_true q188; have p46 : 0 ≤ (x10_2 : Int) := of_decide_eq_true (by first | (with_reducible assumption) | assumption); have q46 : (x10_2 : Int) < ((x6_3.length : Int) : Int) := of_decide_eq_true (by first | (with_reducible assumption) | assumption); obtain ⟨go46, co46, eo46, gb46, gl46, cl46, HG46⟩ := Kd.R_form HO_6.out (by omega); (first | cases eo46 | (injection eo46 with ea_ en_ ec_; (first | subst ea_ | (injection ea_ with ea_; subst ea_)); subst ec_; clear en_)); have GB46 := Aside0.mk gb46; have GG46 := Aside0.mk HG46; clear gb46 gl46 HG46; (first | simp only [add_plain] at hx188_0 | skip); obtain ⟨hx46_0, hf46_0⟩ := Kd.R_celln 0 HO_6.out (x10_2 : Int) p46 q46; replace p46 := eq_true p46; replace q46 := eq_true q46; have n_ := Aside0.mk (Kd.R_mono (ok' := (fun k_ => some k_ ≠ (.slice Ao34 x7_27.length co34 : Value).ownBlock ∧ some k_ ≠ (.slice Ao47 x8_3.length co47 : Value).ownBlock ∧ some k_ ≠ (v186 : Value).ownBlock)) HO_6.out (fun k_ hk => ⟨hk.1.1, ⟨hk.1.2, hk.2⟩⟩)); clear HO_6; have HO_6 := n_; clear n_; obtain ⟨hy50_, hz50_⟩ := Kd.R_celln 0 HO_6.out (x10_2 : Int) (of_decide_eq_true (by first | (with_reducible assumption) | assumption)) (of_decide_eq_true (by first | (with_reducible assumption) | assumption)); have HP50 := Kd.R_putg HO_6.out (x10_2 : Int) (wrap64 ((rd x6_3 x10_2) + x11_3))) | ((with_reducible refine gate_store (t := 3) (p := 79) rfl ?_); refine store_event (t := 3) (p := 79) (v := ?vo_w51) (w1 := (w48.setCell ⟨go46, (x10_2 : Int).toNat, none⟩ (.int .i64 (wrap64 ((rd x6_3 x10_2) + x11_3))))) ?hg ?ho ?hn ?hr ?_; (case ho => rfl); (case hg => rfl); (case hn => rfl); (case hr => first | (go_simp; done) | (go_simp; rfl)); intro w51 hw; have hg : w48.grownBy w51 (some go46) := (by rw [hw]; exact HP50.2); have hp_ : Kd.R (Kd.int .i64) 3 w51 w.heap.size (fun k_ => some k_ ≠ (.slice Ao34 x7_27.length co34 : Value).ownBlock ∧ some k_ ≠ (.slice Ao47 x8_3.length co47 : Value).ownBlock ∧ some k_ ≠ (v186 : Value).ownBlock) (.slice (some ⟨go46, 0, none⟩) x6_3.length co49) y189 := (by rw [hw, Ny189.out]; exact HP50.1); clear HP50; have n0_ := Aside0.mk (hp_); have n1_ := Aside0.mk (Kd.R_after (v := (.slice (some ⟨go46, 0, none⟩) x6_3.length co49)) (v1 := (.slice (some ⟨go46, 0, none⟩) x6_3.length co49)) (ok := (fun k_ => some k_ ≠ (.slice Ao47 x8_3.length co47 : Value).ownBlock ∧ some k_ ≠ (v186 : Value).ownBlock)) (by (with_reducible repeat (first | apply Kd.R_alloc | apply Kd.R_drewN | apply Kd.R_drew)); exact Kd.R_mono HO_7.out (fun _ hk => ⟨⟨hk.1.2, hk.2⟩, hk.1.1⟩)) hg (.inl rfl)); have n2_ := Aside0.mk (Kd.R_after (v := (.slice (some ⟨go46, 0, none⟩) x6_3.length co49)) (v1 := (.slice (some ⟨go46, 0, none⟩) x6_3.length co49)) (ok := (fun k_ => some k_ ≠ (.slice Ao34 x7_27.length co34 : Value).ownBlock ∧ some k_ ≠ (v186 : Value).ownBlock)) (by (with_reducible repeat (first | apply Kd.R_alloc | apply Kd.R_drewN | apply Kd.R_drew)); exact Kd.R_mono HO_8.out (fun _ hk => ⟨⟨hk.1.2, hk.2⟩, hk.1.1⟩)) hg (.inl rfl)); have n3_ := Aside0.mk (Kd.R_after (v := (.slice (some ⟨go46, 0, none⟩) x6_3.length co49)) (v1 := (.slice (some ⟨go46, 0, none⟩) x6_3.length co49)) (ok := (fun k_ => some k_ ≠ (.slice Ao34 x7_27.length co34 : Value).ownBlock ∧ some k_ ≠ (.slice Ao47 x8_3.length co47 : Value).ownBlock)) (by (with_reducible repeat (first | apply Kd.R_alloc | apply Kd.R_drewN | apply Kd.R_drew)); exact Kd.R_mono HO187.out (fun _ hk => ⟨⟨hk.1.2, hk.2⟩, hk.1.1.2⟩)) hg (.inl rfl)); have n4_ := Aside0.mk ((by rw [hw]; exact below_set (HB.out) GB46.out : Below w.heap.size w w51)); clear HO_6; clear HO_7; clear HO_8; clear HO187; clear HB; have HO_6 := n0_; have HO_7 := n1_; have HO_8 := n2_; have HO187 := n3_; have HB := n4_; clear n0_ n1_ n2_ n3_ n4_; clear hg hw hp_))
                                                (try simp only [← hl7_27])
                                                go_roundg kj27
                                                case measure => have := HK1.out; have := HK2.out; have := HK3.out; have := HJ27.out; omega
                                                case rel => exact ⟨(y189), (t185), (x8_3), (wrap64 (Int.tdiv x11_3 2)), (by first | rfl | (simp; done) | (simp [*]; done)), H', ⟨by have := HK1.out; have := HK2.out; have := HK3.out; have := HJ27.out; omega⟩, ⟨by (try simp only [hl7_27]); (with_reducible repeat (first | apply Kd.R_alloc | apply Kd.R_drewN | apply Kd.R_drew)); exact Kd.R_mono HO_6.out (fun _ hk => ⟨hk.2.2, hk.2.1⟩)⟩, ⟨by (try simp only [hl7_27]); (with_reducible repeat (first | apply Kd.R_alloc | apply Kd.R_drewN | apply Kd.R_drew)); exact Kd.R_mono HO187.out (fun _ hk => ⟨hk.2, hk.1.2⟩)⟩, ⟨by (try simp only [hl7_27]); (with_reducible repeat (first | apply Kd.R_alloc | apply Kd.R_drewN | apply Kd.R_drew)); exact Kd.R_mono HO_8.out (fun _ hk => ⟨hk.2, hk.1.2⟩)⟩, ⟨by repeat (first | (with_reducible first | exact HB.out | apply below_alloc | apply pw_below_drewN | apply below_drew1) | exact HB.out)⟩⟩
                                              · rw [if_neg c45] at H
                                                exact absurd H (by simp)
                                            · rw [if_neg c44] at H
                                              exact absurd H (by simp)
                                          · rw [if_neg c42] at H
                                            have c42b0 : decide (0 ≤ t184) = false := decide_eq_false c42
                                            clear c42
                                            have H' := Aside0.mk H
                                            clear H
                                            obtain ⟨Ao52, co52, eo52⟩ := Kd.R_slice HO_8.out
                                            subst eo52
                                            go_wp2_with (first | ((with_reducible refine gate_callee (f := 38) rfl ?_); refine goesL_ (some 68) rfl rfl Try.func38 (by kernel_rfl) rfl #[.slice Ao34 x7_27.length co34, .slice Ao52 x8_3.length co52] rfl (by (try simp only [List.map_toArray, List.map_cons, List.map_nil]); first | done | rfl | (simp only [List.length_drop, List.length_take]; rfl)) ?_; (with_reducible refine (celluloidref01_order.calls kj27 _ _ x7_27 _ _ x8_3 t184 _ ?side1 ?side2 ?side3 ?side4 A41.out).mono ?_); (case side1 => repeat (first | exact (Kd.R_reads' HO_7.out).2.2 | (with_reducible refine Kd.C_alloc ?_ _) | (with_reducible refine Kd.C_drewN ?_ _) | (with_reducible refine Kd.C_drew ?_))); (case side2 => exact (Kd.R_reads' HO_7.out).2.1); (case side3 => repeat (first | exact (Kd.R_reads' HO_8.out).2.2 | (with_reducible refine Kd.C_alloc ?_ _) | (with_reducible refine Kd.C_drewN ?_ _) | (with_reducible refine Kd.C_drew ?_))); (case side4 => exact (Kd.R_reads' HO_8.out).2.1); rintro e w' ⟨rfl, ⟨nd, rfl⟩⟩; refine ⟨_, rfl, ?_⟩))
                                            (try simp only [← hl7_27])
                                            go_roundg kj27
                                            case measure => have := HK1.out; have := HK2.out; have := HK3.out; have := HJ27.out; omega
                                            case rel => exact ⟨(x6_3), (x7_27), (x8_3), (wrap64 (Int.tdiv x11_3 2)), (by first | rfl | (simp; done) | (simp [*]; done)), H', ⟨by have := HK1.out; have := HK2.out; have := HK3.out; have := HJ27.out; omega⟩, ⟨by (try simp only [hl7_27]); (with_reducible repeat (first | apply Kd.R_alloc | apply Kd.R_drewN | apply Kd.R_drew)); exact HO_6.out⟩, ⟨by (try simp only [hl7_27]); (with_reducible repeat (first | apply Kd.R_alloc | apply Kd.R_drewN | apply Kd.R_drew)); exact HO_7.out⟩, ⟨by (try simp only [hl7_27]); (with_reducible repeat (first | apply Kd.R_alloc | apply Kd.R_drewN | apply Kd.R_drew)); exact HO_8.out⟩, ⟨by repeat (first | (with_reducible first | exact HB.out | apply below_alloc | apply pw_below_drewN | apply below_drew1) | exact HB.out)⟩⟩
                                  · rw [if_neg c26] at H
                                    exact absurd H (by simp)
                                · rw [if_neg c25] at H
                                  exact absurd H (by simp)
                              · rw [if_neg c24] at H
                                exact absurd H (by simp)
                            · rw [if_neg c23] at H
                              exact absurd H (by simp)
                          · rw [if_neg c21] at H
                            have c21b0 : decide (0 < x11_3) = false := decide_eq_false c21
                            clear c21
                            have H' := Aside0.mk H
                            clear H
                            go_wp2
                            go_roundg k3
                            case measure => have := HK1.out; have := HK2.out; have := HK3.out; omega
                            case rel => exact ⟨(x6_3), (x7_3), (x8_3), (wrap64 (x10_2 - 1)), (by first | rfl | (simp; done) | (simp [*]; done)), H', ⟨by have := HK1.out; have := HK2.out; have := HK3.out; omega⟩, ⟨by (with_reducible repeat (first | apply Kd.R_alloc | apply Kd.R_drewN | apply Kd.R_drew)); exact HO_6.out⟩, ⟨by (with_reducible repeat (first | apply Kd.R_alloc | apply Kd.R_drewN | apply Kd.R_drew)); exact HO_7.out⟩, ⟨by (with_reducible repeat (first | apply Kd.R_alloc | apply Kd.R_drewN | apply Kd.R_drew)); exact HO_8.out⟩, ⟨by repeat (first | (with_reducible first | exact HB.out | apply below_alloc | apply pw_below_drewN | apply below_drew1) | exact HB.out)⟩⟩
                    · rw [if_neg c20] at H
                      have c20b0 : decide (0 ≤ x10_2) = false := decide_eq_false c20
                      clear c20
                      replace H := Option.bind_eq_some_iff.mp H
                      obtain ⟨t171, A530, H⟩ := H
                      replace H : (some (x6_2, t171)) = some (r1, r2) := H
                      have A53 := Aside0.mk A530
                      clear A530
                      simp only [Option.some.injEq, Prod.mk.injEq] at H
                      obtain ⟨rfl, rfl⟩ := H
                      obtain ⟨Ao54, co54, eo54⟩ := Kd.R_slice HO_7.out
                      subst eo54
                      go_wp2_with (first | ((with_reducible refine gate_callee (f := 28) rfl ?_); refine goesL_ (some 82) rfl rfl Try.func28 (by kernel_rfl) rfl #[.slice Ao54 x7_2.length co54] rfl (by (try simp only [List.map_toArray, List.map_cons, List.map_nil]); first | done | rfl | (simp only [List.length_drop, List.length_take]; rfl)) ?_; (with_reducible refine (celluloidref01_nought.calls k2 _ _ x7_2 t171 _ ?side1 ?side2 A53.out).mono ?_); (case side1 => repeat (first | exact (Kd.R_reads' HO_7.out).2.2 | (with_reducible refine Kd.C_alloc ?_ _) | (with_reducible refine Kd.C_drewN ?_ _) | (with_reducible refine Kd.C_drew ?_))); (case side2 => exact (Kd.R_reads' HO_7.out).2.1); rintro e w' ⟨rfl, ⟨nd, rfl⟩⟩; refine ⟨_, rfl, ?_⟩))
                      go_ret2
                      exact ⟨_, by first | rfl | (simp [errW_none, errW_some] <;> rfl) | (simp only [← hji5]; first | rfl | (simp [errW_none, errW_some] <;> rfl)) | (simp [*, errW_none, errW_some] <;> rfl), by (with_reducible repeat (first | apply Kd.R_alloc | apply Kd.R_drewN | apply Kd.R_drew)); exact Kd.R_mono HO_6.out (fun _ hk => trivial), by repeat (first | (with_reducible first | exact HB.out | apply below_alloc | apply pw_below_drewN | apply below_drew1) | exact HB.out)⟩
        · rw [if_neg c7] at H
          exact absurd H (by simp)
      · rw [if_neg c6] at H
        exact absurd H (by simp)
    · rw [if_neg c4] at H
      exact absurd H (by simp)
  · rw [if_neg c3] at H
    exact absurd H (by simp)

/-! ### celluloidref01_one: function 29 -/
def celluloidref01_one.l0 : Nat → List Int → List Int → Int → Int → Option (List Int)
  | 0, _, _, _, _ => none
  | k + 1, x0, x3, x4, x5 => if x5 < (x0.length : Int) then (if 0 ≤ x5 then (if x3.length < 17592186044416 then (celluloidref01_one.l0 k x0 (x3 ++ [Int.tmod (wrap64 ((rd x0 x5) + x4)) 65536]) (wrap64 (Int.tdiv (wrap64 ((rd x0 x5) + x4)) 65536)) (wrap64 (x5 + 1))) else (none)) else (none)) else (some x3)
def celluloidref01_one.f (k : Nat) (l0 : List Int) : Option (List Int) := celluloidref01_one.l0 k l0 ([] : List Int) 1 0
theorem celluloidref01_one.mono_l : ∀ k, (∀ y0 y1 y2 y3, LeO (celluloidref01_one.l0 k y0 y1 y2 y3) (celluloidref01_one.l0 (k + 1) y0 y1 y2 y3))
  | 0 => fun _ _ _ _ r h => by simp [celluloidref01_one.l0] at h
  | k + 1 => by
    have ih0 := celluloidref01_one.mono_l k
    · intro y0 y1 y2 y3
      unfold celluloidref01_one.l0
      repeat' first
      | (with_reducible exact ih0 _ _ _ _)
      | (with_reducible exact LeO.refl _)
      | (with_reducible exact LeO.none _)
      | (with_reducible refine LeO.ite ?_ ?_)
      | (with_reducible refine LeO.bind ?_ (fun _ => ?_))
      | exact ih0 _ _ _ _
      | exact LeO.none _
      | refine LeO.ite ?_ ?_
      | refine LeO.bind ?_ (fun _ => ?_)
theorem celluloidref01_one.mono : ∀ a0 k, LeO (celluloidref01_one.f k a0) (celluloidref01_one.f (k + 1) a0) := by
  intro a0 k
  have ih0 := celluloidref01_one.mono_l k
  unfold celluloidref01_one.f
  repeat' first
      | (with_reducible exact ih0 _ _ _ _)
      | (with_reducible exact LeO.refl _)
      | (with_reducible exact LeO.none _)
      | (with_reducible refine LeO.ite ?_ ?_)
      | (with_reducible refine LeO.bind ?_ (fun _ => ?_))
      | exact ih0 _ _ _ _
      | exact LeO.none _
      | refine LeO.ite ?_ ?_
      | refine LeO.bind ?_ (fun _ => ?_)
set_option maxHeartbeats 8000000 in
set_option maxRecDepth 100000 in
theorem celluloidref01_one.calls (k : Nat) (A0 : Option Addr) (c0 : Nat) (l0 : List Int) (r : List Int) (w : World) (hr0 : Kd.C (Kd.int .i64) w A0 l0.length l0) (hc0 : l0.length ≤ c0) (h : celluloidref01_one.f k l0 = some r) :
    Calls Try.prog 29 #[.slice A0 l0.length c0] w fun e w' => ∃ v0_ : Value, e = .returned (v0_) ∧ Kd.R (Kd.int .i64) 3 w' w.heap.size (fun _ => True) v0_ r ∧ Below w.heap.size w w' := by
  have HR0 := Aside0.mk hr0
  have HC0 := Aside0.mk hc0
  clear hr0 hc0
  have HB := Aside0.mk (Below.refl w.heap.size w)
  have H : (celluloidref01_one.l0 k l0 ([] : List Int) 1 0) = some r := h
  clear h
  have H' := Aside0.mk H
  clear H
  go_enter Try.func29, Try.ntmps29
  go_wp2
  go_loopg [3, 4, 5] k (fun kq v3 v4 v5 w' => ∃ (x3_1 : List Int) (x4_1 : Int) (x5_1 : Int), v4 = .int .i64 x4_1 ∧ v5 = .int .i64 x5_1 ∧ Aside0 (celluloidref01_one.l0 kq l0 x3_1 x4_1 x5_1 = some r) ∧ Aside0 (kq ≤ k) ∧ Aside0 (Kd.R (Kd.int .i64) 3 w' w.heap.size (fun _ => True) v3 x3_1) ∧ Aside0 (Below w.heap.size w w'))
  case atStart => exact ⟨(([] : List Int)), (1), (0), (by first | rfl | (simp; done) | (simp [*]; done)), (by first | rfl | (simp; done) | (simp [*]; done)), H', ⟨Nat.le_refl _⟩, ⟨by first | exact Kd.R_nil _ _ _ _ _ | exact Kd.N_nil _ _ _ _ _ | exact Kd.V_nil _ _ _ _ _ | exact Kd.Q_nil _ _ _ _ _ | exact Kd.S_nil _ _ _ _ _⟩, ⟨by repeat (first | (with_reducible first | exact HB.out | apply below_alloc | apply pw_below_drewN | apply below_drew1) | exact HB.out)⟩⟩
  case round =>
    clear H'
    obtain ⟨x3_1, x4_1, x5_1, rfl, rfl, HA, HK1, HO_3, HB⟩ := hrel
    cases gk with
    | zero => exact absurd HA.out (by simp [celluloidref01_one.l0])
    | succ k1 =>
      have H := HA.out
      clear HA
      simp only [celluloidref01_one.l0] at H
      by_cases c2 : x5_1 < (l0.length : Int)
      · rw [if_pos c2] at H
        have c2b0 : decide (x5_1 < (l0.length : Int)) = true := decide_eq_true c2
        clear c2
        by_cases c3 : 0 ≤ x5_1
        · rw [if_pos c3] at H
          have c3b0 : decide (0 ≤ x5_1) = true := decide_eq_true c3
          clear c3
          by_cases c4 : x3_1.length < 17592186044416
          · rw [if_pos c4] at H
            have LMc4 := Aside0.mk c4
            clear c4
            obtain ⟨y191, hy191⟩ : ∃ y_ : List Int, y_ = (x3_1 ++ [Int.tmod (wrap64 ((rd l0 x5_1) + x4_1)) 65536]) := ⟨_, rfl⟩
            replace H : (celluloidref01_one.l0 k1 l0 y191 (wrap64 (Int.tdiv (wrap64 ((rd l0 x5_1) + x4_1)) 65536)) (wrap64 (x5_1 + 1))) = some r := by first | (rw [hy191]; with_reducible exact H) | (have H2_ := (Option.bind_some _ _).symm.trans H; rw [hy191]; with_reducible exact H2_) | (have H2_ := (Option.bind_some _ _).symm.trans H; with_reducible exact H2_) | with_reducible exact H | (rw [hy191]; exact H) | exact H
            have Ny191 := Aside0.mk hy191
            clear hy191
            have H' := Aside0.mk H
            clear H
            have p190 : 0 ≤ (x5_1 : Int) := of_decide_eq_true (by first | (with_reducible assumption) | assumption)
            have q190 : x5_1 < (l0.length : Int) := of_decide_eq_true (by first | (with_reducible assumption) | assumption)
            obtain ⟨ad190, e190, hx190_0⟩ := Kd.at_int HR0.out x5_1 p190 q190
            cases e190
            replace hx190_0 := (HB.out.cell (World.block_lt_of_cell? w _ hx190_0)).trans hx190_0
            replace p190 := eq_true p190
            replace q190 := eq_true q190
            go_wp2_with (first | ((with_reducible refine gate_builtin (b := .append) (xs := #[.tmp 19, .tmp 22]) rfl ?_); at_builtin; refine Kd.R_append (Kd.int .i64) (w0 := w) w.heap.size rfl (.tmp 19) (.tmp 22) 34 3 (.int .i64 0) 8 rfl Try.underlying34 info3 rfl (by decide) (by omega) u3 x3_1 (Int.tmod (wrap64 ((rd l0 x5_1) + x4_1)) 65536) [.int .i64 (Int.tmod (wrap64 ((rd l0 x5_1) + x4_1)) 65536)] (fun _ => True) (fun _ => False) rfl rfl ?aP (fun _ hk => hk.elim) ?aF ?aO ?aB ?aS ?aL ?_; (case aP => exact rfl); (case aB => exact (by repeat (first | (with_reducible first | exact HB.out | apply below_alloc | apply pw_below_drewN | apply below_drew1) | exact HB.out))); (case aF => exact (fun _ _ => trivial)); (case aO => exact (by (with_reducible repeat (first | apply Kd.R_alloc | apply Kd.R_drewN | apply Kd.R_drew)); exact HO_3.out)); (case aS => exact (below_size (by repeat (first | (with_reducible first | exact HB.out | apply below_alloc | apply pw_below_drewN | apply below_drew1) | exact HB.out)))); (case aL => have := LMc4.out; omega); intro v192 w5 ho hb hg hat; rw [← Ny191.out] at ho; have n0_ := Aside0.mk (hb); have n1_ := Aside0.mk (ho); clear HB; clear HO_3; have HB := n0_; have HO193 := n1_; clear n0_ n1_; clear ho hb hg hat))
            go_roundg k1
            case measure => have := HK1.out; omega
            case rel => exact ⟨(y191), (wrap64 (Int.tdiv (wrap64 ((rd l0 x5_1) + x4_1)) 65536)), (wrap64 (x5_1 + 1)), (by first | rfl | (simp; done) | (simp [*]; done)), (by first | rfl | (simp; done) | (simp [*]; done)), H', ⟨by have := HK1.out; omega⟩, ⟨by (with_reducible repeat (first | apply Kd.R_alloc | apply Kd.R_drewN | apply Kd.R_drew)); exact HO193.out⟩, ⟨by repeat (first | (with_reducible first | exact HB.out | apply below_alloc | apply pw_below_drewN | apply below_drew1) | exact HB.out)⟩⟩
          · rw [if_neg c4] at H
            exact absurd H (by simp)
        · rw [if_neg c3] at H
          exact absurd H (by simp)
      · rw [if_neg c2] at H
        have c2b0 : decide (x5_1 < (l0.length : Int)) = false := decide_eq_false c2
        clear c2
        obtain rfl := Option.some.inj H
        go_wp2
        go_ret
        exact ⟨_, by first | rfl | (simp [errW_none, errW_some] <;> rfl) | (simp [*, errW_none, errW_some] <;> rfl), by (with_reducible repeat (first | apply Kd.R_alloc | apply Kd.R_drewN | apply Kd.R_drew)); exact HO_3.out, by repeat (first | (with_reducible first | exact HB.out | apply below_alloc | apply pw_below_drewN | apply below_drew1) | exact HB.out)⟩

end Go.Proofs.Ytemhfkjdapegoaa.P
