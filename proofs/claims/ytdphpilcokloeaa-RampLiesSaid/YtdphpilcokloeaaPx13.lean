/- Printed by printx.py (wip/tool) out of the translation: plain functions that tell what the program answers, and the proofs that the program comes to these answers, for all arguments of their kinds. Lean checks it. -/
import Derived.Test.YtdphpilcokloeaaPx0
import Derived.Test.YtdphpilcokloeaaPx1
import Derived.Test.YtdphpilcokloeaaPx7
import Derived.Test.YtdphpilcokloeaaPx8
import Derived.Test.YtdphpilcokloeaaPx9
namespace Go.Proofs.Ytdphpilcokloeaa.P
open Go.RowKit Go.Proofs.YtdphpilcokloeaaW.PrintWords Go.Proofs.YtdphpilcokloeaaW.PrintLast Go.Proofs.YtdphpilcokloeaaW.PrintMore
attribute [local go_sem] max2_int min2_int max_two min_two max_three min_three max_four min_four max_five min_five max_six min_six   -- for this text's walks alone
set_option linter.unusedVariables false
set_option linter.unusedSimpArgs false

attribute [local go_sem high] eqA27
/-! ### celluloidlaw19_RampLies: function 5 -/
mutual
def celluloidlaw19_RampLies.j0 : Nat → List (S32) → Int → Bool → Option (Bool)
 | 0, _, _, _ => none
 | k + 1, x0, x1, x28 => if x28 = true then ((celluloidlaw19_awake.f k).bind fun t197 => (some t197)) else ((ramp_Color.f k x0 x1).bind fun bt198 => (if 0 < (x0.length : Int) then (celluloidlaw19_RampLies.l0 k x1 0 x0 (x0.length : Int) 0 bt198.1 bt198.2.1 bt198.2.2.1 bt198.2.2.2 ((rd_T32 x0 0).f1.f0) ((rd_T32 x0 0).f1.f1) ((rd_T32 x0 0).f1.f2) ((rd_T32 x0 0).f1.f3) ((rd_T32 x0 0).f1.f0) ((rd_T32 x0 0).f1.f1) ((rd_T32 x0 0).f1.f2) ((rd_T32 x0 0).f1.f3) 0 0 0 0) else (none)))
def celluloidlaw19_RampLies.l0 : Nat → Int → Int → List (S32) → Int → Int → Int → Int → Int → Int → Int → Int → Int → Int → Int → Int → Int → Int → Int → Int → Int → Int → Option (Bool)
 | 0, _, _, _, _, _, _, _, _, _, _, _, _, _, _, _, _, _, _, _, _, _ => none
 | k + 1, x1, x8, x42, x43, x44, x203000, x203001, x203002, x203003, x206000, x206001, x206002, x206003, x207000, x207001, x207002, x207003, x208000, x208001, x208002, x208003 => if x44 < x43 then (if 0 ≤ x44 then (if x44 < (x42.length : Int) then (if ((rd_T32 x42 x44).f0) = x1 then (celluloidlaw19_RampLies.l0 k x1 (wrap64 (x8 + 1)) x42 x43 (wrap64 (x44 + 1)) x203000 x203001 x203002 x203003 (mn x206000 ((rd_T32 x42 x44).f1.f0)) (mn x206001 ((rd_T32 x42 x44).f1.f1)) (mn x206002 ((rd_T32 x42 x44).f1.f2)) (mn x206003 ((rd_T32 x42 x44).f1.f3)) (mx x207000 ((rd_T32 x42 x44).f1.f0)) (mx x207001 ((rd_T32 x42 x44).f1.f1)) (mx x207002 ((rd_T32 x42 x44).f1.f2)) (mx x207003 ((rd_T32 x42 x44).f1.f3)) ((rd_T32 x42 x44).f1.f0) ((rd_T32 x42 x44).f1.f1) ((rd_T32 x42 x44).f1.f2) ((rd_T32 x42 x44).f1.f3)) else (celluloidlaw19_RampLies.l0 k x1 x8 x42 x43 (wrap64 (x44 + 1)) x203000 x203001 x203002 x203003 (mn x206000 ((rd_T32 x42 x44).f1.f0)) (mn x206001 ((rd_T32 x42 x44).f1.f1)) (mn x206002 ((rd_T32 x42 x44).f1.f2)) (mn x206003 ((rd_T32 x42 x44).f1.f3)) (mx x207000 ((rd_T32 x42 x44).f1.f0)) (mx x207001 ((rd_T32 x42 x44).f1.f1)) (mx x207002 ((rd_T32 x42 x44).f1.f2)) (mx x207003 ((rd_T32 x42 x44).f1.f3)) x208000 x208001 x208002 x208003)) else (none)) else (none)) else (if x203000 < x206000 then (some false) else (if x203000 > x207000 then (some false) else (if x203001 < x206001 then (some false) else (if x203001 > x207001 then (some false) else (if x203002 < x206002 then (some false) else (if x203002 > x207002 then (some false) else (if x203003 < x206003 then (some false) else (if x203003 > x207003 then (some false) else (if x8 = 1 then (if (x203000 == x208000 && (x203001 == x208001 && (x203002 == x208002 && (x203003 == x208003)))) = true then ((celluloidlaw19_awake.f k).bind fun t211 => (some t211)) else (some false)) else ((celluloidlaw19_awake.f k).bind fun t212 => (some t212)))))))))))
end
def celluloidlaw19_RampLies.f (k : Nat) (l0 : List (S32)) (a1 : Int) : Option (Bool) := if (l0.length : Int) > 20 then (celluloidlaw19_RampLies.j0 k l0 a1 true) else ((celluloidref19_Right.f k l0).bind fun t196 => (if t196 = true then (if a1 < 0 then (celluloidlaw19_RampLies.j0 k l0 a1 true) else (celluloidlaw19_RampLies.j0 k l0 a1 (decide (a1 > 255)))) else (celluloidlaw19_RampLies.j0 k l0 a1 true)))
theorem celluloidlaw19_RampLies.mono_l : ∀ k, (∀ y0 y1 y2, LeO (celluloidlaw19_RampLies.j0 k y0 y1 y2) (celluloidlaw19_RampLies.j0 (k + 1) y0 y1 y2)) ∧ (∀ y0 y1 y2 y3 y4 y5 y6 y7 y8 y9 y10 y11 y12 y13 y14 y15 y16 y17 y18 y19 y20, LeO (celluloidlaw19_RampLies.l0 k y0 y1 y2 y3 y4 y5 y6 y7 y8 y9 y10 y11 y12 y13 y14 y15 y16 y17 y18 y19 y20) (celluloidlaw19_RampLies.l0 (k + 1) y0 y1 y2 y3 y4 y5 y6 y7 y8 y9 y10 y11 y12 y13 y14 y15 y16 y17 y18 y19 y20))
 | 0 => ⟨fun _ _ _ r h => by simp [celluloidlaw19_RampLies.j0] at h, fun _ _ _ _ _ _ _ _ _ _ _ _ _ _ _ _ _ _ _ _ _ r h => by simp [celluloidlaw19_RampLies.l0] at h⟩
 | k + 1 => by
  obtain ⟨ih0, ih1⟩ := celluloidlaw19_RampLies.mono_l k
  refine ⟨?_, ?_⟩
  ·intro y0 y1 y2
   unfold celluloidlaw19_RampLies.j0
   repeat' first
   | (with_reducible exact ih0 _ _ _)
   | (with_reducible exact ih1 _ _ _ _ _ _ _ _ _ _ _ _ _ _ _ _ _ _ _ _ _)
   | (with_reducible exact celluloidlaw19_awake.mono _)
   | (with_reducible exact celluloidref19_Right.mono _ _)
   | (with_reducible exact ramp_Color.mono _ _ _)
   | (with_reducible exact LeO.refl _)
   | (with_reducible exact LeO.none _)
   | (with_reducible refine LeO.ite ?_ ?_)
   | (with_reducible refine LeO.bind ?_ (fun _ => ?_))
   | exact ih0 _ _ _
   | exact ih1 _ _ _ _ _ _ _ _ _ _ _ _ _ _ _ _ _ _ _ _ _
   | exact celluloidlaw19_awake.mono _
   | exact celluloidref19_Right.mono _ _
   | exact ramp_Color.mono _ _ _
   | exact LeO.none _
   | refine LeO.ite ?_ ?_
   | refine LeO.bind ?_ (fun _ => ?_)
  ·intro y0 y1 y2 y3 y4 y5 y6 y7 y8 y9 y10 y11 y12 y13 y14 y15 y16 y17 y18 y19 y20
   unfold celluloidlaw19_RampLies.l0
   repeat' first
   | (with_reducible exact ih0 _ _ _)
   | (with_reducible exact ih1 _ _ _ _ _ _ _ _ _ _ _ _ _ _ _ _ _ _ _ _ _)
   | (with_reducible exact celluloidlaw19_awake.mono _)
   | (with_reducible exact celluloidref19_Right.mono _ _)
   | (with_reducible exact ramp_Color.mono _ _ _)
   | (with_reducible exact LeO.refl _)
   | (with_reducible exact LeO.none _)
   | (with_reducible refine LeO.ite ?_ ?_)
   | (with_reducible refine LeO.bind ?_ (fun _ => ?_))
   | exact ih0 _ _ _
   | exact ih1 _ _ _ _ _ _ _ _ _ _ _ _ _ _ _ _ _ _ _ _ _
   | exact celluloidlaw19_awake.mono _
   | exact celluloidref19_Right.mono _ _
   | exact ramp_Color.mono _ _ _
   | exact LeO.none _
   | refine LeO.ite ?_ ?_
   | refine LeO.bind ?_ (fun _ => ?_)
theorem celluloidlaw19_RampLies.mono : ∀ a0 a1 k, LeO (celluloidlaw19_RampLies.f k a0 a1) (celluloidlaw19_RampLies.f (k + 1) a0 a1) := by
 intro a0 a1 k
 obtain ⟨ih0, ih1⟩ := celluloidlaw19_RampLies.mono_l k
 unfold celluloidlaw19_RampLies.f
 repeat' first
   | (with_reducible exact ih0 _ _ _)
   | (with_reducible exact ih1 _ _ _ _ _ _ _ _ _ _ _ _ _ _ _ _ _ _ _ _ _)
   | (with_reducible exact celluloidlaw19_awake.mono _)
   | (with_reducible exact celluloidref19_Right.mono _ _)
   | (with_reducible exact ramp_Color.mono _ _ _)
   | (with_reducible exact LeO.refl _)
   | (with_reducible exact LeO.none _)
   | (with_reducible refine LeO.ite ?_ ?_)
   | (with_reducible refine LeO.bind ?_ (fun _ => ?_))
   | exact ih0 _ _ _
   | exact ih1 _ _ _ _ _ _ _ _ _ _ _ _ _ _ _ _ _ _ _ _ _
   | exact celluloidlaw19_awake.mono _
   | exact celluloidref19_Right.mono _ _
   | exact ramp_Color.mono _ _ _
   | exact LeO.none _
   | refine LeO.ite ?_ ?_
   | refine LeO.bind ?_ (fun _ => ?_)
def celluloidlaw19_RampLies.T4 : Bool × List (List Nat × List Nat) := (true, [([], []), ([0], [0]), ([1], [1]), ([2], [2]), ([], []), ([4], [4]), ([5], [5]), ([6], [6]), ([], []), ([], []), ([8, 3, 0, 1, 2, 3, 8, 9], [3, 8]), ([9, 7, 10, 0, 1, 2, 3, 4, 5, 6, 7, 8, 9, 10], [7, 9])])
def celluloidlaw19_RampLies.B4 : List Nat := [0, 1, 3, 7, 0, 16, 48, 112, 0, 0, 783, 2047]
theorem celluloidlaw19_RampLies.tab4 : rtab .any (opsOf Try.f5 4) = celluloidlaw19_RampLies.T4 := by kernel_rfl
theorem celluloidlaw19_RampLies.bits4 : waitsOk celluloidlaw19_RampLies.T4.2 celluloidlaw19_RampLies.B4 = true := by kernel_rfl
set_option maxHeartbeats 8000000 in
set_option maxRecDepth 100000 in
theorem celluloidlaw19_RampLies.calls (k : Nat) (A0 : Option Addr) (c0 : Nat) (l0 : List (S32)) (a1 : Int) (r : Bool) (w : World) (hr0 : Kd.C k32 w A0 l0.length l0) (hc0 : l0.length ≤ c0) (h : celluloidlaw19_RampLies.f k l0 a1 = some r) :
  Calls Try.prog 5 #[.slice A0 l0.length c0, .int .i64 a1] w fun e w' => e = .returned (.bool r) ∧ Below w.heap.size w w' := by
 have hu27 := Try.underlying27
 have hu32 := Try.underlying32
 have HR0 := Aside0.mk hr0
 have HC0 := Aside0.mk hc0
 clear hr0 hc0
 have HB := Aside0.mk (Below.refl w.heap.size w)
 have H : (if (l0.length : Int) > 20 then (celluloidlaw19_RampLies.j0 k l0 a1 true) else ((celluloidref19_Right.f k l0).bind fun t196 => (if t196 = true then (if a1 < 0 then (celluloidlaw19_RampLies.j0 k l0 a1 true) else (celluloidlaw19_RampLies.j0 k l0 a1 (decide (a1 > 255)))) else (celluloidlaw19_RampLies.j0 k l0 a1 true)))) = some r := h
 clear h
 have HC3 := Aside0.mk H
 clear H
 go_enter Try.func5, Try.ntmps5
 go_upto_region 1 with (fail)
 go_cut [28] (fun v28 wc => ∃ (kq : Nat) (x28_2 : Bool), v28 = .bool x28_2 ∧ Aside0 (celluloidlaw19_RampLies.j0 kq l0 a1 x28_2 = some r) ∧ Aside0 (kq ≤ k) ∧ Aside0 (Below w.heap.size w wc))
 case first =>
  have H := HC3.out
  clear HC3
  by_cases c4 : (l0.length : Int) > 20
  ·rw [if_pos c4] at H
   have c4b0 : decide (20 < (l0.length : Int)) = true := decide_eq_true c4
   have c4b1 : decide (20 < l0.length) = true := decide_eq_true (by omega)
   clear c4
   (first | rw [c4b0] | (simp only [i64_w, i32_w]; rw [c4b0]) | skip)
   have H' := Aside0.mk H
   clear H
   go_wp2
   go_meet
   case rel => exact ⟨_, (true), (by first | rfl | (simp; done) | (simp [*]; done)), H', ⟨by first | omega | exact Nat.le_refl _⟩, ⟨by repeat (first | (with_reducible first | exact HB.out | apply below_alloc | apply pw_below_drewN | apply below_drew1) | exact HB.out)⟩⟩
  ·rw [if_neg c4] at H
   have c4b0 : decide (20 < (l0.length : Int)) = false := decide_eq_false c4
   have c4b1 : decide (20 < l0.length) = false := decide_eq_false (by omega)
   clear c4
   (first | rw [c4b0] | (simp only [i64_w, i32_w]; rw [c4b0]) | skip)
   replace H := Option.bind_eq_some_iff.mp H
   obtain ⟨t196, A50, H⟩ := H
   replace H : (if t196 = true then (if a1 < 0 then (celluloidlaw19_RampLies.j0 k l0 a1 true) else (celluloidlaw19_RampLies.j0 k l0 a1 (decide (a1 > 255)))) else (celluloidlaw19_RampLies.j0 k l0 a1 true)) = some r := H
   have A5 := Aside0.mk A50
   clear A50
   by_cases c6 : t196 = true
   ·subst c6
    have H1 : (if a1 < 0 then (celluloidlaw19_RampLies.j0 k l0 a1 true) else (celluloidlaw19_RampLies.j0 k l0 a1 (decide (a1 > 255)))) = some r := by rw [if_pos rfl] at H; exact H
    clear H
    have H := H1
    clear H1
    by_cases c7 : a1 < 0
    ·rw [if_pos c7] at H
     have c7b0 : decide (a1 < 0) = true := decide_eq_true c7
     clear c7
     have H' := Aside0.mk H
     clear H
     go_wp2_with (first | (go_at_call 14; (with_reducible refine (celluloidref19_Right.calls k _ _ l0 true _ ?side1 ?side2 A5.out).mono ?_); (case side1 => repeat (first | exact (Kd.C_below HR0.out HB.out) | (with_reducible refine Kd.C_alloc ?_ _) | (with_reducible refine Kd.C_drewN ?_ _) | (with_reducible refine Kd.C_drew ?_))); (case side2 => exact HC0.out); rintro e w8 ⟨rfl, hb⟩; have n0_ := Aside0.mk (below_step (by repeat (first | (with_reducible first | exact HB.out | apply below_alloc | apply pw_below_drewN | apply below_drew1) | exact HB.out)) hb); clear HB; have HB := n0_; clear n0_; (try clear hb); (try clear hb2); (try clear hk); (try clear hi)))
     go_meet
     case rel => exact ⟨_, (true), (by first | rfl | (simp; done) | (simp [*]; done)), H', ⟨by first | omega | exact Nat.le_refl _⟩, ⟨by repeat (first | (with_reducible first | exact HB.out | apply below_alloc | apply pw_below_drewN | apply below_drew1) | exact HB.out)⟩⟩
    ·rw [if_neg c7] at H
     have c7b0 : decide (a1 < 0) = false := decide_eq_false c7
     clear c7
     have H' := Aside0.mk H
     clear H
     go_wp2_with (first | (go_at_call 14; (with_reducible refine (celluloidref19_Right.calls k _ _ l0 true _ ?side1 ?side2 A5.out).mono ?_); (case side1 => repeat (first | exact (Kd.C_below HR0.out HB.out) | (with_reducible refine Kd.C_alloc ?_ _) | (with_reducible refine Kd.C_drewN ?_ _) | (with_reducible refine Kd.C_drew ?_))); (case side2 => exact HC0.out); rintro e w9 ⟨rfl, hb⟩; have n0_ := Aside0.mk (below_step (by repeat (first | (with_reducible first | exact HB.out | apply below_alloc | apply pw_below_drewN | apply below_drew1) | exact HB.out)) hb); clear HB; have HB := n0_; clear n0_; (try clear hb); (try clear hb2); (try clear hk); (try clear hi)))
     go_meet
     case rel => exact ⟨_, (decide (a1 > 255)), (by first | rfl | (simp; done) | (simp [*]; done)), H', ⟨by first | omega | exact Nat.le_refl _⟩, ⟨by repeat (first | (with_reducible first | exact HB.out | apply below_alloc | apply pw_below_drewN | apply below_drew1) | exact HB.out)⟩⟩
   ·replace c6 := Bool.eq_false_iff.mpr c6
    subst c6
    have H1 : (celluloidlaw19_RampLies.j0 k l0 a1 true) = some r := by rw [if_neg (show ¬ (false = true) by decide)] at H; exact H
    clear H
    have H := H1
    clear H1
    have H' := Aside0.mk H
    clear H
    go_wp2_with (first | (go_at_call 14; (with_reducible refine (celluloidref19_Right.calls k _ _ l0 false _ ?side1 ?side2 A5.out).mono ?_); (case side1 => repeat (first | exact (Kd.C_below HR0.out HB.out) | (with_reducible refine Kd.C_alloc ?_ _) | (with_reducible refine Kd.C_drewN ?_ _) | (with_reducible refine Kd.C_drew ?_))); (case side2 => exact HC0.out); rintro e w10 ⟨rfl, hb⟩; have n0_ := Aside0.mk (below_step (by repeat (first | (with_reducible first | exact HB.out | apply below_alloc | apply pw_below_drewN | apply below_drew1) | exact HB.out)) hb); clear HB; have HB := n0_; clear n0_; (try clear hb); (try clear hb2); (try clear hk); (try clear hi)))
    go_meet
    case rel => exact ⟨_, (true), (by first | rfl | (simp; done) | (simp [*]; done)), H', ⟨by first | omega | exact Nat.le_refl _⟩, ⟨by repeat (first | (with_reducible first | exact HB.out | apply below_alloc | apply pw_below_drewN | apply below_drew1) | exact HB.out)⟩⟩
 case rest =>
  clear HC3
  try clear p2
  try clear c4
  try clear c4b0
  try clear c4b1
  try clear c5
  try clear c6
  try clear c7
  try clear c7b0
  obtain ⟨kq, x28_2, rfl, HA, HJ2, HB⟩ := hcut
  cases kq with
  | zero => exact absurd HA.out (by simp [celluloidlaw19_RampLies.j0])
  | succ kj2 =>
   have H := HA.out
   clear HA
   simp only [celluloidlaw19_RampLies.j0] at H
   by_cases c11 : x28_2 = true
   ·subst c11
    have H1 : ((celluloidlaw19_awake.f kj2).bind fun t197 => (some t197)) = some r := by rw [if_pos rfl] at H; exact H
    clear H
    have H := H1
    clear H1
    replace H := Option.bind_eq_some_iff.mp H
    obtain ⟨t197, A120, H⟩ := H
    replace H : (some t197) = some r := H
    have A12 := Aside0.mk A120
    clear A120
    obtain rfl := Option.some.inj H
    go_wp2_with (first | ((with_reducible refine gate_callee (f := 12) rfl ?_); refine goesL_ (some 29) rfl rfl Try.func12 (by kernel_rfl) rfl #[] rfl (by (try simp only [List.map_toArray, List.map_cons, List.map_nil]); first | done | rfl | (simp only [List.length_drop, List.length_take]; rfl)) ?_; (with_reducible refine (celluloidlaw19_awake.calls kj2  t197 _ A12.out).mono ?_); rintro e w13 ⟨rfl, hb⟩; refine ⟨_, rfl, ?_⟩; have n0_ := Aside0.mk (below_step (by repeat (first | (with_reducible first | exact HB.out | apply below_alloc | apply pw_below_drewN | apply below_drew1) | exact HB.out)) hb); clear HB; have HB := n0_; clear n0_; (try clear hb); (try clear hb2); (try clear hk); (try clear hi)))
    go_ret
    exact ⟨by first | rfl | (simp [errW_none, errW_some] <;> rfl) | (simp [*, errW_none, errW_some] <;> rfl), by repeat (first | (with_reducible first | exact HB.out | apply below_alloc | apply pw_below_drewN | apply below_drew1) | exact HB.out)⟩
   ·replace c11 := Bool.eq_false_iff.mpr c11
    subst c11
    have H1 : ((ramp_Color.f kj2 l0 a1).bind fun bt198 => (if 0 < (l0.length : Int) then (celluloidlaw19_RampLies.l0 kj2 a1 0 l0 (l0.length : Int) 0 bt198.1 bt198.2.1 bt198.2.2.1 bt198.2.2.2 ((rd_T32 l0 0).f1.f0) ((rd_T32 l0 0).f1.f1) ((rd_T32 l0 0).f1.f2) ((rd_T32 l0 0).f1.f3) ((rd_T32 l0 0).f1.f0) ((rd_T32 l0 0).f1.f1) ((rd_T32 l0 0).f1.f2) ((rd_T32 l0 0).f1.f3) 0 0 0 0) else (none))) = some r := by rw [if_neg (show ¬ (false = true) by decide)] at H; exact H
    clear H
    have H := H1
    clear H1
    replace H := Option.bind_eq_some_iff.mp H
    obtain ⟨⟨t198, t199, t200, t201⟩, A140, H⟩ := H
    replace H : (if 0 < (l0.length : Int) then (celluloidlaw19_RampLies.l0 kj2 a1 0 l0 (l0.length : Int) 0 t198 t199 t200 t201 ((rd_T32 l0 0).f1.f0) ((rd_T32 l0 0).f1.f1) ((rd_T32 l0 0).f1.f2) ((rd_T32 l0 0).f1.f3) ((rd_T32 l0 0).f1.f0) ((rd_T32 l0 0).f1.f1) ((rd_T32 l0 0).f1.f2) ((rd_T32 l0 0).f1.f3) 0 0 0 0) else (none)) = some r := H
    have A14 := Aside0.mk A140
    clear A140
    by_cases c15 : 0 < (l0.length : Int)
    ·rw [if_pos c15] at H
     have c15b0 : decide (0 < (l0.length : Int)) = true := decide_eq_true c15
     have c15b1 : decide (0 < l0.length) = true := decide_eq_true (by omega)
     clear c15
     have H' := Aside0.mk H
     clear H
     try go_wp2_with (first | ((with_reducible refine gate_callee (f := 13) rfl ?_); refine goesL_ (some 32) rfl rfl Try.func13 (by kernel_rfl) rfl #[.slice A0 l0.length c0, .int .i64 a1] rfl (by (try simp only [List.map_toArray, List.map_cons, List.map_nil]); first | done | rfl | (simp only [List.length_drop, List.length_take]; rfl)) ?_; (with_reducible refine (ramp_Color.calls kj2 _ _ l0 a1 t198 t199 t200 t201 _ ?side1 ?side2 A14.out).mono ?_); (case side1 => repeat (first | exact (Kd.C_below HR0.out HB.out) | (with_reducible refine Kd.C_alloc ?_ _) | (with_reducible refine Kd.C_drewN ?_ _) | (with_reducible refine Kd.C_drew ?_))); (case side2 => exact HC0.out); rintro e w16 ⟨rfl, hb⟩; refine ⟨_, rfl, ?_⟩; have n0_ := Aside0.mk (below_step (by repeat (first | (with_reducible first | exact HB.out | apply below_alloc | apply pw_below_drewN | apply below_drew1) | exact HB.out)) hb); clear HB; have HB := n0_; clear n0_; (try clear hb); (try clear hb2); (try clear hk); (try clear hi)) | ((with_reducible refine gate_dst (N := 5) rfl ?_); refine box_event ?hg (N := 5) ?hd (cs := #[.int .i64 0, .int .i64 0, .int .i64 0, .int .i64 0]) (t := 27) ?hr ?_; (case hd => rfl); (case hg => rfl); (case hr => first | (go_simp; done) | (go_simp; rfl)); intro gb202 hg w17 hbox hb; have n0_ := Aside0.mk (below_step (by repeat (first | (with_reducible first | exact HB.out | apply below_alloc | apply pw_below_drewN | apply below_drew1) | exact HB.out)) hb); have n1_ := Aside0.mk (hbox); have n2_ := Aside0.mk ((by rw [hg]; exact (below_size (by repeat (first | (with_reducible first | exact HB.out | apply below_alloc | apply pw_below_drewN | apply below_drew1) | exact HB.out))) : w.heap.size ≤ gb202)); have n3_ := Aside0.mk ((by rw [hg]; exact (below_size (by repeat (first | (with_reducible first | exact HB.out | apply below_alloc | apply pw_below_drewN | apply below_drew1) | exact HB.out))) : w.heap.size ≤ gb202)); clear HB; have HB := n0_; have BK202 := n1_; have GW202 := n2_; have GE202 := n3_; clear n0_ n1_ n2_ n3_; clear hb hbox hg; have hcz18_0 : w17.cell? ⟨gb202, 0, none⟩ = some (.int .i64 0) := (blk_cell BK202.out 0).trans rfl; have hcz18_1 : w17.cell? ⟨gb202, 1, none⟩ = some (.int .i64 0) := (blk_cell BK202.out 1).trans rfl; have hcz18_2 : w17.cell? ⟨gb202, 2, none⟩ = some (.int .i64 0) := (blk_cell BK202.out 2).trans rfl; have hcz18_3 : w17.cell? ⟨gb202, 3, none⟩ = some (.int .i64 0) := (blk_cell BK202.out 3).trans rfl; have hfz18_0 := blk_frozen BK202.out 0; have hfz18_1 := blk_frozen BK202.out 1; have hfz18_2 := blk_frozen BK202.out 2; have hfz18_3 := blk_frozen BK202.out 3))
     have n0_ : Aside0 (((((w17.setCell ⟨gb202, 0, none⟩ (.int .i64 t198)).setCell ⟨gb202, 1, none⟩ (.int .i64 t199)).setCell ⟨gb202, 2, none⟩ (.int .i64 t200)).setCell ⟨gb202, 3, none⟩ (.int .i64 t201)).heap[gb202]? = some (.cells #[.int .i64 t198, .int .i64 t199, .int .i64 t200, .int .i64 t201] 27 (0, 0))) := ⟨by (with_reducible repeat (first | refine blk_drewN ?_ _ | refine blk_drew ?_ | refine blk_alloc ?_ _)); refine blk_put (cs := #[.int .i64 t198, .int .i64 t199, .int .i64 t200, .int .i64 0]) ?_ 3 _ rfl; (with_reducible repeat (first | refine blk_drewN ?_ _ | refine blk_drew ?_ | refine blk_alloc ?_ _)); refine blk_put (cs := #[.int .i64 t198, .int .i64 t199, .int .i64 0, .int .i64 0]) ?_ 2 _ rfl; (with_reducible repeat (first | refine blk_drewN ?_ _ | refine blk_drew ?_ | refine blk_alloc ?_ _)); refine blk_put (cs := #[.int .i64 t198, .int .i64 0, .int .i64 0, .int .i64 0]) ?_ 1 _ rfl; (with_reducible repeat (first | refine blk_drewN ?_ _ | refine blk_drew ?_ | refine blk_alloc ?_ _)); refine blk_put (cs := #[.int .i64 0, .int .i64 0, .int .i64 0, .int .i64 0]) ?_ 0 _ rfl; (with_reducible repeat (first | refine blk_drewN ?_ _ | refine blk_drew ?_ | refine blk_alloc ?_ _)); exact BK202.out⟩
     have n1_ : Aside0 (Below w.heap.size w ((((w17.setCell ⟨gb202, 0, none⟩ (.int .i64 t198)).setCell ⟨gb202, 1, none⟩ (.int .i64 t199)).setCell ⟨gb202, 2, none⟩ (.int .i64 t200)).setCell ⟨gb202, 3, none⟩ (.int .i64 t201))) := ⟨by repeat (first | (with_reducible first | exact HB.out | apply below_alloc | apply pw_below_drewN | apply below_drew1 | refine below_set ?_ GE202.out) | exact HB.out)⟩
     (try clear BK202)
     (try clear HB)
     generalize ((((w17.setCell ⟨gb202, 0, none⟩ (.int .i64 t198)).setCell ⟨gb202, 1, none⟩ (.int .i64 t199)).setCell ⟨gb202, 2, none⟩ (.int .i64 t200)).setCell ⟨gb202, 3, none⟩ (.int .i64 t201)) = w19 at n0_ n1_ ⊢
     have BK202 := n0_
     have HB := n1_
     clear n0_ n1_
     have n0_ := Aside0.mk (blk_drew BK202.out)
     have n1_ := Aside0.mk (below_drew1 HB.out)
     clear BK202
     clear HB
     have BK202 := n0_
     have HB := n1_
     clear n0_ n1_
     have p203 : 0 ≤ (0 : Int) := (by omega)
     have q203 : 0 < (l0.length : Int) := of_decide_eq_true (by first | (with_reducible assumption) | assumption)
     obtain ⟨ad203, e203, hx203_0, hx203_1, hx203_2, hx203_3, hx203_4⟩ := at_T32 HR0.out 0 p203 q203
     have hw203_4 := hx203_4
     (try rw [show ((0 : Int)).toNat = 0 from rfl] at hw203_4)
     (try rw [show 0 * 5 = 0 from rfl] at hw203_4)
     (try rw [Addr.add_zero'] at hw203_4)
     have hw203_3 := hx203_3
     (try rw [show ((0 : Int)).toNat = 0 from rfl] at hw203_3)
     (try rw [show 0 * 5 = 0 from rfl] at hw203_3)
     (try rw [Addr.add_zero'] at hw203_3)
     have hw203_2 := hx203_2
     (try rw [show ((0 : Int)).toNat = 0 from rfl] at hw203_2)
     (try rw [show 0 * 5 = 0 from rfl] at hw203_2)
     (try rw [Addr.add_zero'] at hw203_2)
     have hw203_1 := hx203_1
     (try rw [show ((0 : Int)).toNat = 0 from rfl] at hw203_1)
     (try rw [show 0 * 5 = 0 from rfl] at hw203_1)
     (try rw [Addr.add_zero'] at hw203_1)
     have hw203_0 := hx203_0
     (try rw [show ((0 : Int)).toNat = 0 from rfl] at hw203_0)
     (try rw [show 0 * 5 = 0 from rfl] at hw203_0)
     (try rw [Addr.add_zero'] at hw203_0)
     cases e203
     have qi203 : (0 < l0.length) = True := eq_true (by omega)
     (try rw [show ((0 : Int)).toNat = 0 from rfl] at hx203_0)
     (try rw [show 0 * 5 = 0 from rfl] at hx203_0)
     (try rw [Addr.add_zero'] at hx203_0)
     (try rw [show ((0 : Int)).toNat = 0 from rfl] at hx203_1)
     (try rw [show 0 * 5 = 0 from rfl] at hx203_1)
     (try rw [Addr.add_zero'] at hx203_1)
     (try rw [show ((0 : Int)).toNat = 0 from rfl] at hx203_2)
     (try rw [show 0 * 5 = 0 from rfl] at hx203_2)
     (try rw [Addr.add_zero'] at hx203_2)
     (try rw [show ((0 : Int)).toNat = 0 from rfl] at hx203_3)
     (try rw [show 0 * 5 = 0 from rfl] at hx203_3)
     (try rw [Addr.add_zero'] at hx203_3)
     (try rw [show ((0 : Int)).toNat = 0 from rfl] at hx203_4)
     (try rw [show 0 * 5 = 0 from rfl] at hx203_4)
     (try rw [Addr.add_zero'] at hx203_4)
     replace hx203_0 := (HB.out.cell (World.block_lt_of_cell? w _ hx203_0)).trans hx203_0
     replace hx203_1 := (HB.out.cell (World.block_lt_of_cell? w _ hx203_1)).trans hx203_1
     replace hx203_2 := (HB.out.cell (World.block_lt_of_cell? w _ hx203_2)).trans hx203_2
     replace hx203_3 := (HB.out.cell (World.block_lt_of_cell? w _ hx203_3)).trans hx203_3
     replace hx203_4 := (HB.out.cell (World.block_lt_of_cell? w _ hx203_4)).trans hx203_4
     replace p203 := eq_true p203
     replace q203 := eq_true q203
     have p204 : 0 ≤ (0 : Int) := (by omega)
     have q204 : 0 < (l0.length : Int) := of_decide_eq_true (by first | (with_reducible assumption) | assumption)
     obtain ⟨ad204, e204, hx204_0, hx204_1, hx204_2, hx204_3, hx204_4⟩ := at_T32 HR0.out 0 p204 q204
     have hw204_4 := hx204_4
     (try rw [show ((0 : Int)).toNat = 0 from rfl] at hw204_4)
     (try rw [show 0 * 5 = 0 from rfl] at hw204_4)
     (try rw [Addr.add_zero'] at hw204_4)
     have hw204_3 := hx204_3
     (try rw [show ((0 : Int)).toNat = 0 from rfl] at hw204_3)
     (try rw [show 0 * 5 = 0 from rfl] at hw204_3)
     (try rw [Addr.add_zero'] at hw204_3)
     have hw204_2 := hx204_2
     (try rw [show ((0 : Int)).toNat = 0 from rfl] at hw204_2)
     (try rw [show 0 * 5 = 0 from rfl] at hw204_2)
     (try rw [Addr.add_zero'] at hw204_2)
     have hw204_1 := hx204_1
     (try rw [show ((0 : Int)).toNat = 0 from rfl] at hw204_1)
     (try rw [show 0 * 5 = 0 from rfl] at hw204_1)
     (try rw [Addr.add_zero'] at hw204_1)
     have hw204_0 := hx204_0
     (try rw [show ((0 : Int)).toNat = 0 from rfl] at hw204_0)
     (try rw [show 0 * 5 = 0 from rfl] at hw204_0)
     (try rw [Addr.add_zero'] at hw204_0)
     obtain rfl : ad203 = ad204 := (by injection e204)
     have qi204 : (0 < l0.length) = True := eq_true (by omega)
     (try rw [show ((0 : Int)).toNat = 0 from rfl] at hx204_0)
     (try rw [show 0 * 5 = 0 from rfl] at hx204_0)
     (try rw [Addr.add_zero'] at hx204_0)
     (try rw [show ((0 : Int)).toNat = 0 from rfl] at hx204_1)
     (try rw [show 0 * 5 = 0 from rfl] at hx204_1)
     (try rw [Addr.add_zero'] at hx204_1)
     (try rw [show ((0 : Int)).toNat = 0 from rfl] at hx204_2)
     (try rw [show 0 * 5 = 0 from rfl] at hx204_2)
     (try rw [Addr.add_zero'] at hx204_2)
     (try rw [show ((0 : Int)).toNat = 0 from rfl] at hx204_3)
     (try rw [show 0 * 5 = 0 from rfl] at hx204_3)
     (try rw [Addr.add_zero'] at hx204_3)
     (try rw [show ((0 : Int)).toNat = 0 from rfl] at hx204_4)
     (try rw [show 0 * 5 = 0 from rfl] at hx204_4)
     (try rw [Addr.add_zero'] at hx204_4)
     replace hx204_0 := (HB.out.cell (World.block_lt_of_cell? w _ hx204_0)).trans hx204_0
     replace hx204_1 := (HB.out.cell (World.block_lt_of_cell? w _ hx204_1)).trans hx204_1
     replace hx204_2 := (HB.out.cell (World.block_lt_of_cell? w _ hx204_2)).trans hx204_2
     replace hx204_3 := (HB.out.cell (World.block_lt_of_cell? w _ hx204_3)).trans hx204_3
     replace hx204_4 := (HB.out.cell (World.block_lt_of_cell? w _ hx204_4)).trans hx204_4
     replace p204 := eq_true p204
     replace q204 := eq_true q204
     refine start_ (n := 12) (S := fun w' => w'.cell? ad203 = some (.int .i64 ((rd_T32 l0 0).f0)) ∧ w'.cell? ⟨ad203.block, ad203.off + 1, none⟩ = some (.int .i64 ((rd_T32 l0 0).f1.f0)) ∧ w'.cell? ⟨ad203.block, ad203.off + 2, none⟩ = some (.int .i64 ((rd_T32 l0 0).f1.f1)) ∧ w'.cell? ⟨ad203.block, ad203.off + 3, none⟩ = some (.int .i64 ((rd_T32 l0 0).f1.f2)) ∧ w'.cell? ⟨ad203.block, ad203.off + 4, none⟩ = some (.int .i64 ((rd_T32 l0 0).f1.f3)) ∧ w'.cell? ad203 = some (.int .i64 ((rd_T32 l0 0).f0)) ∧ w'.cell? ⟨ad203.block, ad203.off + 1, none⟩ = some (.int .i64 ((rd_T32 l0 0).f1.f0)) ∧ w'.cell? ⟨ad203.block, ad203.off + 2, none⟩ = some (.int .i64 ((rd_T32 l0 0).f1.f1)) ∧ w'.cell? ⟨ad203.block, ad203.off + 3, none⟩ = some (.int .i64 ((rd_T32 l0 0).f1.f2)) ∧ w'.cell? ⟨ad203.block, ad203.off + 4, none⟩ = some (.int .i64 ((rd_T32 l0 0).f1.f3))) (ds := []) #[false, false, false, false, false, false, false, false, false, false, false, false] (by kernel_rfl) rfl rfl ⟨((HB.out.cell (World.block_lt_of_cell? w _ hw203_0)).trans hw203_0), ((HB.out.cell (World.block_lt_of_cell? w _ hw203_1)).trans hw203_1), ((HB.out.cell (World.block_lt_of_cell? w _ hw203_2)).trans hw203_2), ((HB.out.cell (World.block_lt_of_cell? w _ hw203_3)).trans hw203_3), ((HB.out.cell (World.block_lt_of_cell? w _ hw203_4)).trans hw203_4), ((HB.out.cell (World.block_lt_of_cell? w _ hw204_0)).trans hw204_0), ((HB.out.cell (World.block_lt_of_cell? w _ hw204_1)).trans hw204_1), ((HB.out.cell (World.block_lt_of_cell? w _ hw204_2)).trans hw204_2), ((HB.out.cell (World.block_lt_of_cell? w _ hw204_3)).trans hw204_3), ((HB.out.cell (World.block_lt_of_cell? w _ hw204_4)).trans hw204_4)⟩ (fun hHeld => ?_); refine with_tabW celluloidlaw19_RampLies.tab4 celluloidlaw19_RampLies.bits4 (fun HT_ HW_ => ?_)
     generalize w19.drew = w20 at BK202 HB hx203_0 hx203_1 hx203_2 hx203_3 hx203_4 hx204_0 hx204_1 hx204_2 hx204_3 hx204_4 hHeld ⊢
     refine pure_ (i := 0) (N := some 33) (v := ?_) (a' := ?_) #[true, false, false, false, false, false, false, false, false, false, false, false] rfl rfl (any_of HT_.out (by kernel_rfl)) (fun _ _ _ h => h) (Or.inl ⟨by rfl, ?_⟩) ?_ ?_
     rotate_left
     ·intro w'
      go_simp
      with_reducible rfl
     rotate_left
     ·simp only [Act.put, List.setIfInBounds_toArray, List.set_cons_zero, List.set_cons_succ, i64_w, i32_w]
      rfl
     refine pure_ (i := 1) (N := some 34) (v := ?_) (a' := ?_) #[true, true, false, false, false, false, false, false, false, false, false, false] rfl rfl (any_of HT_.out (by kernel_rfl)) (fun _ _ _ h => h) (Or.inl ⟨by rfl, ?_⟩) ?_ ?_
     rotate_left
     ·intro w'
      go_simp
      with_reducible rfl
     rotate_left
     ·simp only [Act.put, List.setIfInBounds_toArray, List.set_cons_zero, List.set_cons_succ, i64_w, i32_w]
      rfl
     refine pure_ (i := 2) (N := some 35) (v := ?_) (a' := ?_) #[true, true, true, false, false, false, false, false, false, false, false, false] rfl rfl (any_of HT_.out (by kernel_rfl)) (fun _ _ _ h => h) (Or.inl ⟨by rfl, ?_⟩) ?_ ?_
     rotate_left
     ·intro w'
      go_simp
      with_reducible rfl
     rotate_left
     ·simp only [Act.put, List.setIfInBounds_toArray, List.set_cons_zero, List.set_cons_succ, i64_w, i32_w]
      rfl
     refine pure_ (i := 4) (N := some 37) (v := ?_) (a' := ?_) #[true, true, true, false, true, false, false, false, false, false, false, false] rfl rfl (any_of HT_.out (by kernel_rfl)) (fun _ _ _ h => h) (Or.inl ⟨by rfl, ?_⟩) ?_ ?_
     rotate_left
     ·intro w'
      go_simp
      with_reducible rfl
     rotate_left
     ·simp only [Act.put, List.setIfInBounds_toArray, List.set_cons_zero, List.set_cons_succ, i64_w, i32_w]
      rfl
     refine pure_ (i := 5) (N := some 38) (v := ?_) (a' := ?_) #[true, true, true, false, true, true, false, false, false, false, false, false] rfl rfl (any_of HT_.out (by kernel_rfl)) (fun _ _ _ h => h) (Or.inl ⟨by rfl, ?_⟩) ?_ ?_
     rotate_left
     ·intro w'
      go_simp
      with_reducible rfl
     rotate_left
     ·simp only [Act.put, List.setIfInBounds_toArray, List.set_cons_zero, List.set_cons_succ, i64_w, i32_w]
      rfl
     refine pure_ (i := 6) (N := some 39) (v := ?_) (a' := ?_) #[true, true, true, false, true, true, true, false, false, false, false, false] rfl rfl (any_of HT_.out (by kernel_rfl)) (fun _ _ _ h => h) (Or.inl ⟨by rfl, ?_⟩) ?_ ?_
     rotate_left
     ·intro w'
      go_simp
      with_reducible rfl
     rotate_left
     ·simp only [Act.put, List.setIfInBounds_toArray, List.set_cons_zero, List.set_cons_succ, i64_w, i32_w]
      rfl
     refine take_ (i := 3) (N := some 36) (v := ?_) (a' := ?_) #[true, true, true, true, true, true, true, false, false, false, false, false] rfl rfl (take_ofW HT_.out HW_.out (by kernel_rfl)) (fun _ _ _ h => h) (Or.inl ⟨by rfl, ?_⟩) hHeld ?_ ?_
     rotate_left
     ·rintro w' ⟨s0, s1, s2, s3, s4, s5, s6, s7, s8, s9⟩
      go_simp
      with_reducible rfl
     rotate_left
     ·simp only [Act.put, List.setIfInBounds_toArray, List.set_cons_zero, List.set_cons_succ, i64_w, i32_w]
      rfl
     refine take_ (i := 7) (N := some 40) (v := ?_) (a' := ?_) #[true, true, true, true, true, true, true, true, false, false, false, false] rfl rfl (take_ofW HT_.out HW_.out (by kernel_rfl)) (fun _ _ _ h => h) (Or.inl ⟨by rfl, ?_⟩) hHeld ?_ ?_
     rotate_left
     ·rintro w' ⟨s0, s1, s2, s3, s4, s5, s6, s7, s8, s9⟩
      go_simp
      with_reducible rfl
     rotate_left
     ·simp only [Act.put, List.setIfInBounds_toArray, List.set_cons_zero, List.set_cons_succ, i64_w, i32_w]
      rfl
     refine join_ (σ := Nat × Nat) 2 #[true, true, true, true, true, true, true, true, true, true, false, false] (fun s_ => [(6, .pointer (some ⟨s_.1, 0, none⟩)), (7, .pointer (some ⟨s_.2, 0, none⟩))]) (fun s_ w' => (w'.cell? ad203 = some (.int .i64 ((rd_T32 l0 0).f0)) ∧ w'.cell? ⟨ad203.block, ad203.off + 1, none⟩ = some (.int .i64 ((rd_T32 l0 0).f1.f0)) ∧ w'.cell? ⟨ad203.block, ad203.off + 2, none⟩ = some (.int .i64 ((rd_T32 l0 0).f1.f1)) ∧ w'.cell? ⟨ad203.block, ad203.off + 3, none⟩ = some (.int .i64 ((rd_T32 l0 0).f1.f2)) ∧ w'.cell? ⟨ad203.block, ad203.off + 4, none⟩ = some (.int .i64 ((rd_T32 l0 0).f1.f3)) ∧ w'.cell? ad203 = some (.int .i64 ((rd_T32 l0 0).f0)) ∧ w'.cell? ⟨ad203.block, ad203.off + 1, none⟩ = some (.int .i64 ((rd_T32 l0 0).f1.f0)) ∧ w'.cell? ⟨ad203.block, ad203.off + 2, none⟩ = some (.int .i64 ((rd_T32 l0 0).f1.f1)) ∧ w'.cell? ⟨ad203.block, ad203.off + 3, none⟩ = some (.int .i64 ((rd_T32 l0 0).f1.f2)) ∧ w'.cell? ⟨ad203.block, ad203.off + 4, none⟩ = some (.int .i64 ((rd_T32 l0 0).f1.f3))) ∧ (w'.heap[gb202]? = some (.cells #[.int .i64 t198, .int .i64 t199, .int .i64 t200, .int .i64 t201] 27 (0, 0))) ∧ (w'.heap[s_.1]? = some (.cells #[.int .i64 0, .int .i64 0, .int .i64 0, .int .i64 0] 27 (0, 0))) ∧ (w'.heap[s_.2]? = some (.cells #[.int .i64 0, .int .i64 0, .int .i64 0, .int .i64 0] 27 (0, 0))) ∧ (w.heap.size ≤ s_.1) ∧ (w.heap.size ≤ s_.1) ∧ (gb202 ≠ s_.1) ∧ (s_.1 ≠ gb202) ∧ (s_.2 ≠ s_.1) ∧ (s_.1 ≠ s_.2) ∧ (w.heap.size ≤ s_.2) ∧ (w.heap.size ≤ s_.2) ∧ (gb202 ≠ s_.2) ∧ (s_.2 ≠ gb202) ∧ (Below w.heap.size w w')) ?_ ?_
     rotate_left
     ·intro hCont
      refine two_ (i := 8) (j := 9) (Ni := some 6) (Nj := some 7) #[true, true, true, true, true, true, true, true, true, false, false, false] #[true, true, true, true, true, true, true, true, false, true, false, false] rfl rfl rfl rfl (two_of HT_.out (by kernel_rfl)) (by decide) (by decide) (fun K hK => ?_) (fun K hK => ?_)
      ·skip
       refine box_step ?hg (N := 6) ?hd (cs := #[.int .i64 0, .int .i64 0, .int .i64 0, .int .i64 0]) (t := 27) ?hr ?_; (case hd => rfl); (case hg => rfl); (case hr => first | (go_simp; done) | (go_simp; rfl))
       intro gb205 hg w21 hbox hb
       have n0_ := Aside0.mk (blk_below (g := gb202) (o := .cells #[.int .i64 t198, .int .i64 t199, .int .i64 t200, .int .i64 t201] 27 (0, 0)) (by (with_reducible repeat (first | refine blk_drewN ?_ _ | refine blk_drew ?_ | refine blk_alloc ?_ _)); exact BK202.out) hb)
       have n1_ := Aside0.mk (below_step (by repeat (first | (with_reducible first | exact HB.out | apply below_alloc | apply pw_below_drewN | apply below_drew1 | refine below_set ?_ GE202.out) | exact HB.out)) hb)
       have n2_ := Aside0.mk (hbox)
       have n3_ := Aside0.mk ((by rw [hg]; exact (below_size (by repeat (first | (with_reducible first | exact HB.out | apply below_alloc | apply pw_below_drewN | apply below_drew1 | refine below_set ?_ GE202.out) | exact HB.out))) : w.heap.size ≤ gb205))
       have n4_ := Aside0.mk ((by rw [hg]; exact (below_size (by repeat (first | (with_reducible first | exact HB.out | apply below_alloc | apply pw_below_drewN | apply below_drew1 | refine below_set ?_ GE202.out) | exact HB.out))) : w.heap.size ≤ gb205))
       have n5_ := Aside0.mk ((by rw [hg]; exact Nat.ne_of_lt (blk_lt (g := gb202) (o := .cells #[.int .i64 t198, .int .i64 t199, .int .i64 t200, .int .i64 t201] 27 (0, 0)) (by (with_reducible repeat (first | refine blk_drewN ?_ _ | refine blk_drew ?_ | refine blk_alloc ?_ _)); exact BK202.out)) : gb202 ≠ gb205))
       have n6_ := Aside0.mk ((by rw [hg]; exact Nat.ne_of_gt (blk_lt (g := gb202) (o := .cells #[.int .i64 t198, .int .i64 t199, .int .i64 t200, .int .i64 t201] 27 (0, 0)) (by (with_reducible repeat (first | refine blk_drewN ?_ _ | refine blk_drew ?_ | refine blk_alloc ?_ _)); exact BK202.out)) : gb205 ≠ gb202))
       clear BK202
       clear HB
       have BK202 := n0_
       have HB := n1_
       have BK205 := n2_
       have GW205 := n3_
       have GE205 := n4_
       have NB202_205 := n5_
       have NB205_202 := n6_
       clear n0_ n1_ n2_ n3_ n4_ n5_ n6_
       clear hb hbox hg
       refine hK.out _ _ ⟨((HB.out.cell (World.block_lt_of_cell? w _ hw203_0)).trans hw203_0), ((HB.out.cell (World.block_lt_of_cell? w _ hw203_1)).trans hw203_1), ((HB.out.cell (World.block_lt_of_cell? w _ hw203_2)).trans hw203_2), ((HB.out.cell (World.block_lt_of_cell? w _ hw203_3)).trans hw203_3), ((HB.out.cell (World.block_lt_of_cell? w _ hw203_4)).trans hw203_4), ((HB.out.cell (World.block_lt_of_cell? w _ hw204_0)).trans hw204_0), ((HB.out.cell (World.block_lt_of_cell? w _ hw204_1)).trans hw204_1), ((HB.out.cell (World.block_lt_of_cell? w _ hw204_2)).trans hw204_2), ((HB.out.cell (World.block_lt_of_cell? w _ hw204_3)).trans hw204_3), ((HB.out.cell (World.block_lt_of_cell? w _ hw204_4)).trans hw204_4)⟩ (fun hHeld => ?_)
       clear hK K
       refine norm_ (a' := ?_) ?_ ?_
       rotate_left
       ·show Act.put _ (some 6) _ = _
        simp only [Act.put, List.setIfInBounds_toArray, List.set_cons_zero, List.set_cons_succ, i64_w, i32_w]
        rfl
       refine one_ (i := 9) (N := some 7) #[true, true, true, true, true, true, true, true, true, true, false, false] rfl rfl (one_of HT_.out (by kernel_rfl)) (by decide) (fun K hK => ?_)
       refine box_step ?hg (N := 7) ?hd (cs := #[.int .i64 0, .int .i64 0, .int .i64 0, .int .i64 0]) (t := 27) ?hr ?_; (case hd => rfl); (case hg => rfl); (case hr => first | (go_simp; done) | (go_simp; rfl))
       intro gb206 hg w22 hbox hb
       have n0_ := Aside0.mk (blk_below (g := gb202) (o := .cells #[.int .i64 t198, .int .i64 t199, .int .i64 t200, .int .i64 t201] 27 (0, 0)) (by (with_reducible repeat (first | refine blk_drewN ?_ _ | refine blk_drew ?_ | refine blk_alloc ?_ _)); exact BK202.out) hb)
       have n1_ := Aside0.mk (blk_below (g := gb205) (o := .cells #[.int .i64 0, .int .i64 0, .int .i64 0, .int .i64 0] 27 (0, 0)) (by (with_reducible repeat (first | refine blk_drewN ?_ _ | refine blk_drew ?_ | refine blk_alloc ?_ _)); exact BK205.out) hb)
       have n2_ := Aside0.mk (below_step (by repeat (first | (with_reducible first | exact HB.out | apply below_alloc | apply pw_below_drewN | apply below_drew1 | refine below_set ?_ GE202.out | refine below_set ?_ GE205.out) | exact HB.out)) hb)
       have n3_ := Aside0.mk (hbox)
       have n4_ := Aside0.mk ((by rw [hg]; exact (below_size (by repeat (first | (with_reducible first | exact HB.out | apply below_alloc | apply pw_below_drewN | apply below_drew1 | refine below_set ?_ GE202.out | refine below_set ?_ GE205.out) | exact HB.out))) : w.heap.size ≤ gb206))
       have n5_ := Aside0.mk ((by rw [hg]; exact (below_size (by repeat (first | (with_reducible first | exact HB.out | apply below_alloc | apply pw_below_drewN | apply below_drew1 | refine below_set ?_ GE202.out | refine below_set ?_ GE205.out) | exact HB.out))) : w.heap.size ≤ gb206))
       have n6_ := Aside0.mk ((by rw [hg]; exact Nat.ne_of_lt (blk_lt (g := gb202) (o := .cells #[.int .i64 t198, .int .i64 t199, .int .i64 t200, .int .i64 t201] 27 (0, 0)) (by (with_reducible repeat (first | refine blk_drewN ?_ _ | refine blk_drew ?_ | refine blk_alloc ?_ _)); exact BK202.out)) : gb202 ≠ gb206))
       have n7_ := Aside0.mk ((by rw [hg]; exact Nat.ne_of_gt (blk_lt (g := gb202) (o := .cells #[.int .i64 t198, .int .i64 t199, .int .i64 t200, .int .i64 t201] 27 (0, 0)) (by (with_reducible repeat (first | refine blk_drewN ?_ _ | refine blk_drew ?_ | refine blk_alloc ?_ _)); exact BK202.out)) : gb206 ≠ gb202))
       have n8_ := Aside0.mk ((by rw [hg]; exact Nat.ne_of_lt (blk_lt (g := gb205) (o := .cells #[.int .i64 0, .int .i64 0, .int .i64 0, .int .i64 0] 27 (0, 0)) (by (with_reducible repeat (first | refine blk_drewN ?_ _ | refine blk_drew ?_ | refine blk_alloc ?_ _)); exact BK205.out)) : gb205 ≠ gb206))
       have n9_ := Aside0.mk ((by rw [hg]; exact Nat.ne_of_gt (blk_lt (g := gb205) (o := .cells #[.int .i64 0, .int .i64 0, .int .i64 0, .int .i64 0] 27 (0, 0)) (by (with_reducible repeat (first | refine blk_drewN ?_ _ | refine blk_drew ?_ | refine blk_alloc ?_ _)); exact BK205.out)) : gb206 ≠ gb205))
       clear BK202
       clear BK205
       clear HB
       have BK202 := n0_
       have BK205 := n1_
       have HB := n2_
       have BK206 := n3_
       have GW206 := n4_
       have GE206 := n5_
       have NB202_206 := n6_
       have NB206_202 := n7_
       have NB205_206 := n8_
       have NB206_205 := n9_
       clear n0_ n1_ n2_ n3_ n4_ n5_ n6_ n7_ n8_ n9_
       clear hb hbox hg
       refine hK.out _ _ ⟨((HB.out.cell (World.block_lt_of_cell? w _ hw203_0)).trans hw203_0), ((HB.out.cell (World.block_lt_of_cell? w _ hw203_1)).trans hw203_1), ((HB.out.cell (World.block_lt_of_cell? w _ hw203_2)).trans hw203_2), ((HB.out.cell (World.block_lt_of_cell? w _ hw203_3)).trans hw203_3), ((HB.out.cell (World.block_lt_of_cell? w _ hw203_4)).trans hw203_4), ((HB.out.cell (World.block_lt_of_cell? w _ hw204_0)).trans hw204_0), ((HB.out.cell (World.block_lt_of_cell? w _ hw204_1)).trans hw204_1), ((HB.out.cell (World.block_lt_of_cell? w _ hw204_2)).trans hw204_2), ((HB.out.cell (World.block_lt_of_cell? w _ hw204_3)).trans hw204_3), ((HB.out.cell (World.block_lt_of_cell? w _ hw204_4)).trans hw204_4)⟩ (fun hHeld => ?_)
       clear hK K
       refine norm_ (a' := ?_) ?_ ?_
       rotate_left
       ·show Act.put _ (some 7) _ = _
        simp only [Act.put, List.setIfInBounds_toArray, List.set_cons_zero, List.set_cons_succ, i64_w, i32_w]
        rfl
       exact norm_ (by simp only [putAll, Act.put, List.setIfInBounds_toArray, List.set_cons_zero, List.set_cons_succ]) (hCont (gb205, gb206) _ ⟨hHeld, (by (with_reducible repeat (first | refine blk_drewN ?_ _ | refine blk_drew ?_ | refine blk_alloc ?_ _)); exact BK202.out), (by (with_reducible repeat (first | refine blk_drewN ?_ _ | refine blk_drew ?_ | refine blk_alloc ?_ _)); exact BK205.out), (by (with_reducible repeat (first | refine blk_drewN ?_ _ | refine blk_drew ?_ | refine blk_alloc ?_ _)); exact BK206.out), GW205.out, GE205.out, NB202_205.out, NB205_202.out, NB206_205.out, NB205_206.out, GW206.out, GE206.out, NB202_206.out, NB206_202.out, (by repeat (first | (with_reducible first | exact HB.out | apply below_alloc | apply pw_below_drewN | apply below_drew1 | refine below_set ?_ GE202.out | refine below_set ?_ GE205.out | refine below_set ?_ GE206.out) | exact HB.out))⟩)
      ·skip
       refine box_step ?hg (N := 7) ?hd (cs := #[.int .i64 0, .int .i64 0, .int .i64 0, .int .i64 0]) (t := 27) ?hr ?_; (case hd => rfl); (case hg => rfl); (case hr => first | (go_simp; done) | (go_simp; rfl))
       intro gb206 hg w21 hbox hb
       have n0_ := Aside0.mk (blk_below (g := gb202) (o := .cells #[.int .i64 t198, .int .i64 t199, .int .i64 t200, .int .i64 t201] 27 (0, 0)) (by (with_reducible repeat (first | refine blk_drewN ?_ _ | refine blk_drew ?_ | refine blk_alloc ?_ _)); exact BK202.out) hb)
       have n1_ := Aside0.mk (below_step (by repeat (first | (with_reducible first | exact HB.out | apply below_alloc | apply pw_below_drewN | apply below_drew1 | refine below_set ?_ GE202.out) | exact HB.out)) hb)
       have n2_ := Aside0.mk (hbox)
       have n3_ := Aside0.mk ((by rw [hg]; exact (below_size (by repeat (first | (with_reducible first | exact HB.out | apply below_alloc | apply pw_below_drewN | apply below_drew1 | refine below_set ?_ GE202.out) | exact HB.out))) : w.heap.size ≤ gb206))
       have n4_ := Aside0.mk ((by rw [hg]; exact (below_size (by repeat (first | (with_reducible first | exact HB.out | apply below_alloc | apply pw_below_drewN | apply below_drew1 | refine below_set ?_ GE202.out) | exact HB.out))) : w.heap.size ≤ gb206))
       have n5_ := Aside0.mk ((by rw [hg]; exact Nat.ne_of_lt (blk_lt (g := gb202) (o := .cells #[.int .i64 t198, .int .i64 t199, .int .i64 t200, .int .i64 t201] 27 (0, 0)) (by (with_reducible repeat (first | refine blk_drewN ?_ _ | refine blk_drew ?_ | refine blk_alloc ?_ _)); exact BK202.out)) : gb202 ≠ gb206))
       have n6_ := Aside0.mk ((by rw [hg]; exact Nat.ne_of_gt (blk_lt (g := gb202) (o := .cells #[.int .i64 t198, .int .i64 t199, .int .i64 t200, .int .i64 t201] 27 (0, 0)) (by (with_reducible repeat (first | refine blk_drewN ?_ _ | refine blk_drew ?_ | refine blk_alloc ?_ _)); exact BK202.out)) : gb206 ≠ gb202))
       clear BK202
       clear HB
       have BK202 := n0_
       have HB := n1_
       have BK206 := n2_
       have GW206 := n3_
       have GE206 := n4_
       have NB202_206 := n5_
       have NB206_202 := n6_
       clear n0_ n1_ n2_ n3_ n4_ n5_ n6_
       clear hb hbox hg
       refine hK.out _ _ ⟨((HB.out.cell (World.block_lt_of_cell? w _ hw203_0)).trans hw203_0), ((HB.out.cell (World.block_lt_of_cell? w _ hw203_1)).trans hw203_1), ((HB.out.cell (World.block_lt_of_cell? w _ hw203_2)).trans hw203_2), ((HB.out.cell (World.block_lt_of_cell? w _ hw203_3)).trans hw203_3), ((HB.out.cell (World.block_lt_of_cell? w _ hw203_4)).trans hw203_4), ((HB.out.cell (World.block_lt_of_cell? w _ hw204_0)).trans hw204_0), ((HB.out.cell (World.block_lt_of_cell? w _ hw204_1)).trans hw204_1), ((HB.out.cell (World.block_lt_of_cell? w _ hw204_2)).trans hw204_2), ((HB.out.cell (World.block_lt_of_cell? w _ hw204_3)).trans hw204_3), ((HB.out.cell (World.block_lt_of_cell? w _ hw204_4)).trans hw204_4)⟩ (fun hHeld => ?_)
       clear hK K
       refine norm_ (a' := ?_) ?_ ?_
       rotate_left
       ·show Act.put _ (some 7) _ = _
        simp only [Act.put, List.setIfInBounds_toArray, List.set_cons_zero, List.set_cons_succ, i64_w, i32_w]
        rfl
       refine one_ (i := 8) (N := some 6) #[true, true, true, true, true, true, true, true, true, true, false, false] rfl rfl (one_of HT_.out (by kernel_rfl)) (by decide) (fun K hK => ?_)
       refine box_step ?hg (N := 6) ?hd (cs := #[.int .i64 0, .int .i64 0, .int .i64 0, .int .i64 0]) (t := 27) ?hr ?_; (case hd => rfl); (case hg => rfl); (case hr => first | (go_simp; done) | (go_simp; rfl))
       intro gb205 hg w22 hbox hb
       have n0_ := Aside0.mk (blk_below (g := gb202) (o := .cells #[.int .i64 t198, .int .i64 t199, .int .i64 t200, .int .i64 t201] 27 (0, 0)) (by (with_reducible repeat (first | refine blk_drewN ?_ _ | refine blk_drew ?_ | refine blk_alloc ?_ _)); exact BK202.out) hb)
       have n1_ := Aside0.mk (blk_below (g := gb206) (o := .cells #[.int .i64 0, .int .i64 0, .int .i64 0, .int .i64 0] 27 (0, 0)) (by (with_reducible repeat (first | refine blk_drewN ?_ _ | refine blk_drew ?_ | refine blk_alloc ?_ _)); exact BK206.out) hb)
       have n2_ := Aside0.mk (below_step (by repeat (first | (with_reducible first | exact HB.out | apply below_alloc | apply pw_below_drewN | apply below_drew1 | refine below_set ?_ GE202.out | refine below_set ?_ GE206.out) | exact HB.out)) hb)
       have n3_ := Aside0.mk (hbox)
       have n4_ := Aside0.mk ((by rw [hg]; exact (below_size (by repeat (first | (with_reducible first | exact HB.out | apply below_alloc | apply pw_below_drewN | apply below_drew1 | refine below_set ?_ GE202.out | refine below_set ?_ GE206.out) | exact HB.out))) : w.heap.size ≤ gb205))
       have n5_ := Aside0.mk ((by rw [hg]; exact (below_size (by repeat (first | (with_reducible first | exact HB.out | apply below_alloc | apply pw_below_drewN | apply below_drew1 | refine below_set ?_ GE202.out | refine below_set ?_ GE206.out) | exact HB.out))) : w.heap.size ≤ gb205))
       have n6_ := Aside0.mk ((by rw [hg]; exact Nat.ne_of_lt (blk_lt (g := gb202) (o := .cells #[.int .i64 t198, .int .i64 t199, .int .i64 t200, .int .i64 t201] 27 (0, 0)) (by (with_reducible repeat (first | refine blk_drewN ?_ _ | refine blk_drew ?_ | refine blk_alloc ?_ _)); exact BK202.out)) : gb202 ≠ gb205))
       have n7_ := Aside0.mk ((by rw [hg]; exact Nat.ne_of_gt (blk_lt (g := gb202) (o := .cells #[.int .i64 t198, .int .i64 t199, .int .i64 t200, .int .i64 t201] 27 (0, 0)) (by (with_reducible repeat (first | refine blk_drewN ?_ _ | refine blk_drew ?_ | refine blk_alloc ?_ _)); exact BK202.out)) : gb205 ≠ gb202))
       have n8_ := Aside0.mk ((by rw [hg]; exact Nat.ne_of_lt (blk_lt (g := gb206) (o := .cells #[.int .i64 0, .int .i64 0, .int .i64 0, .int .i64 0] 27 (0, 0)) (by (with_reducible repeat (first | refine blk_drewN ?_ _ | refine blk_drew ?_ | refine blk_alloc ?_ _)); exact BK206.out)) : gb206 ≠ gb205))
       have n9_ := Aside0.mk ((by rw [hg]; exact Nat.ne_of_gt (blk_lt (g := gb206) (o := .cells #[.int .i64 0, .int .i64 0, .int .i64 0, .int .i64 0] 27 (0, 0)) (by (with_reducible repeat (first | refine blk_drewN ?_ _ | refine blk_drew ?_ | refine blk_alloc ?_ _)); exact BK206.out)) : gb205 ≠ gb206))
       clear BK202
       clear BK206
       clear HB
       have BK202 := n0_
       have BK206 := n1_
       have HB := n2_
       have BK205 := n3_
       have GW205 := n4_
       have GE205 := n5_
       have NB202_205 := n6_
       have NB205_202 := n7_
       have NB206_205 := n8_
       have NB205_206 := n9_
       clear n0_ n1_ n2_ n3_ n4_ n5_ n6_ n7_ n8_ n9_
       clear hb hbox hg
       refine hK.out _ _ ⟨((HB.out.cell (World.block_lt_of_cell? w _ hw203_0)).trans hw203_0), ((HB.out.cell (World.block_lt_of_cell? w _ hw203_1)).trans hw203_1), ((HB.out.cell (World.block_lt_of_cell? w _ hw203_2)).trans hw203_2), ((HB.out.cell (World.block_lt_of_cell? w _ hw203_3)).trans hw203_3), ((HB.out.cell (World.block_lt_of_cell? w _ hw203_4)).trans hw203_4), ((HB.out.cell (World.block_lt_of_cell? w _ hw204_0)).trans hw204_0), ((HB.out.cell (World.block_lt_of_cell? w _ hw204_1)).trans hw204_1), ((HB.out.cell (World.block_lt_of_cell? w _ hw204_2)).trans hw204_2), ((HB.out.cell (World.block_lt_of_cell? w _ hw204_3)).trans hw204_3), ((HB.out.cell (World.block_lt_of_cell? w _ hw204_4)).trans hw204_4)⟩ (fun hHeld => ?_)
       clear hK K
       refine norm_ (a' := ?_) ?_ ?_
       rotate_left
       ·show Act.put _ (some 6) _ = _
        simp only [Act.put, List.setIfInBounds_toArray, List.set_cons_zero, List.set_cons_succ, i64_w, i32_w]
        rfl
       exact norm_ (by simp only [putAll, Act.put, List.setIfInBounds_toArray, List.set_cons_zero, List.set_cons_succ]) (hCont (gb205, gb206) _ ⟨hHeld, (by (with_reducible repeat (first | refine blk_drewN ?_ _ | refine blk_drew ?_ | refine blk_alloc ?_ _)); exact BK202.out), (by (with_reducible repeat (first | refine blk_drewN ?_ _ | refine blk_drew ?_ | refine blk_alloc ?_ _)); exact BK205.out), (by (with_reducible repeat (first | refine blk_drewN ?_ _ | refine blk_drew ?_ | refine blk_alloc ?_ _)); exact BK206.out), GW205.out, GE205.out, NB202_205.out, NB205_202.out, NB206_205.out, NB205_206.out, GW206.out, GE206.out, NB202_206.out, NB206_202.out, (by repeat (first | (with_reducible first | exact HB.out | apply below_alloc | apply pw_below_drewN | apply below_drew1 | refine below_set ?_ GE202.out | refine below_set ?_ GE206.out | refine below_set ?_ GE205.out) | exact HB.out))⟩)
     rintro ⟨gb205, gb206⟩ w23 ⟨hS_, h0_, h1_, h2_, h3_, h4_, h5_, h6_, h7_, h8_, h9_, h10_, h11_, h12_, h13_⟩
     have n0_ : Aside0 (w23.heap[gb202]? = some (.cells #[.int .i64 t198, .int .i64 t199, .int .i64 t200, .int .i64 t201] 27 (0, 0))) := ⟨h0_⟩
     have n1_ : Aside0 (w23.heap[gb205]? = some (.cells #[.int .i64 0, .int .i64 0, .int .i64 0, .int .i64 0] 27 (0, 0))) := ⟨h1_⟩
     have n2_ : Aside0 (w23.heap[gb206]? = some (.cells #[.int .i64 0, .int .i64 0, .int .i64 0, .int .i64 0] 27 (0, 0))) := ⟨h2_⟩
     have n3_ : Aside0 (w.heap.size ≤ gb205) := ⟨h3_⟩
     have n4_ : Aside0 (w.heap.size ≤ gb205) := ⟨h4_⟩
     have n5_ : Aside0 (gb202 ≠ gb205) := ⟨h5_⟩
     have n6_ : Aside0 (gb205 ≠ gb202) := ⟨h6_⟩
     have n7_ : Aside0 (gb206 ≠ gb205) := ⟨h7_⟩
     have n8_ : Aside0 (gb205 ≠ gb206) := ⟨h8_⟩
     have n9_ : Aside0 (w.heap.size ≤ gb206) := ⟨h9_⟩
     have n10_ : Aside0 (w.heap.size ≤ gb206) := ⟨h10_⟩
     have n11_ : Aside0 (gb202 ≠ gb206) := ⟨h11_⟩
     have n12_ : Aside0 (gb206 ≠ gb202) := ⟨h12_⟩
     have n13_ : Aside0 (Below w.heap.size w w23) := ⟨h13_⟩
     clear BK202
     clear HB
     clear h0_ h1_ h2_ h3_ h4_ h5_ h6_ h7_ h8_ h9_ h10_ h11_ h12_ h13_
     have BK202 := n0_
     have BK205 := n1_
     have BK206 := n2_
     have GW205 := n3_
     have GE205 := n4_
     have NB202_205 := n5_
     have NB205_202 := n6_
     have NB206_205 := n7_
     have NB205_206 := n8_
     have GW206 := n9_
     have GE206 := n10_
     have NB202_206 := n11_
     have NB206_202 := n12_
     have HB := n13_
     clear n0_ n1_ n2_ n3_ n4_ n5_ n6_ n7_ n8_ n9_ n10_ n11_ n12_ n13_
     have hHeld : w23.cell? ad203 = some (.int .i64 ((rd_T32 l0 0).f0)) ∧ w23.cell? ⟨ad203.block, ad203.off + 1, none⟩ = some (.int .i64 ((rd_T32 l0 0).f1.f0)) ∧ w23.cell? ⟨ad203.block, ad203.off + 2, none⟩ = some (.int .i64 ((rd_T32 l0 0).f1.f1)) ∧ w23.cell? ⟨ad203.block, ad203.off + 3, none⟩ = some (.int .i64 ((rd_T32 l0 0).f1.f2)) ∧ w23.cell? ⟨ad203.block, ad203.off + 4, none⟩ = some (.int .i64 ((rd_T32 l0 0).f1.f3)) ∧ w23.cell? ad203 = some (.int .i64 ((rd_T32 l0 0).f0)) ∧ w23.cell? ⟨ad203.block, ad203.off + 1, none⟩ = some (.int .i64 ((rd_T32 l0 0).f1.f0)) ∧ w23.cell? ⟨ad203.block, ad203.off + 2, none⟩ = some (.int .i64 ((rd_T32 l0 0).f1.f1)) ∧ w23.cell? ⟨ad203.block, ad203.off + 3, none⟩ = some (.int .i64 ((rd_T32 l0 0).f1.f2)) ∧ w23.cell? ⟨ad203.block, ad203.off + 4, none⟩ = some (.int .i64 ((rd_T32 l0 0).f1.f3)) := hS_
     refine norm_ (a' := ?_) ?_ ?_
     rotate_left
     ·simp only [putAll, Act.put, List.setIfInBounds_toArray, List.set_cons_zero, List.set_cons_succ]
      rfl
     refine one_ (i := 10) (N := none) #[true, true, true, true, true, true, true, true, true, true, true, false] rfl rfl (one_of HT_.out (by kernel_rfl)) (by decide) (fun K hK => ?_)
     have hs24 : w23.cell? ⟨gb205, 0, none⟩ = some (.int .i64 0) := (blk_cell BK205.out 0).trans rfl
     have hfs24 := blk_frozen BK205.out 0
     have hns24_0 := NB202_205.out
     have hns24_2 := NB206_205.out
     have hms24_0 := NB205_202.out
     have hms24_2 := NB205_206.out
     have hs25 : w23.cell? ⟨gb205, 1, none⟩ = some (.int .i64 0) := (blk_cell BK205.out 1).trans rfl
     have hfs25 := blk_frozen BK205.out 1
     have hns25_0 := NB202_205.out
     have hns25_2 := NB206_205.out
     have hms25_0 := NB205_202.out
     have hms25_2 := NB205_206.out
     have hs26 : w23.cell? ⟨gb205, 2, none⟩ = some (.int .i64 0) := (blk_cell BK205.out 2).trans rfl
     have hfs26 := blk_frozen BK205.out 2
     have hns26_0 := NB202_205.out
     have hns26_2 := NB206_205.out
     have hms26_0 := NB205_202.out
     have hms26_2 := NB205_206.out
     have hs27 : w23.cell? ⟨gb205, 3, none⟩ = some (.int .i64 0) := (blk_cell BK205.out 3).trans rfl
     have hfs27 := blk_frozen BK205.out 3
     have hns27_0 := NB202_205.out
     have hns27_2 := NB206_205.out
     have hms27_0 := NB205_202.out
     have hms27_2 := NB205_206.out
     refine skip_ (w1 := ?_) (by rfl) rfl ?_ ?_
     rotate_left
     ·go_simp
      rfl
     refine hK.out _ _ ⟨((cell_far (p := ⟨gb205, _, none⟩) (by first | exact Nat.ne_of_lt (Nat.lt_of_lt_of_le (by have := World.block_lt_of_cell? _ _ hw203_0; first | rwa [add_block] at this | exact this) GW205.out) | (rw [add_block]; exact Nat.ne_of_lt (Nat.lt_of_lt_of_le (by have := World.block_lt_of_cell? _ _ hw203_0; first | rwa [add_block] at this | exact this) GW205.out)) | (show (Addr.add _ _).block ≠ _; rw [add_block]; exact Nat.ne_of_lt (Nat.lt_of_lt_of_le (by have := World.block_lt_of_cell? _ _ hw203_0; first | rwa [add_block] at this | exact this) GW205.out)) | (dsimp only; exact Nat.ne_of_lt (Nat.lt_of_lt_of_le (by have := World.block_lt_of_cell? _ _ hw203_0; first | rwa [add_block] at this | exact this) GW205.out))) _).trans (((cell_far (p := ⟨gb205, _, none⟩) (by first | exact Nat.ne_of_lt (Nat.lt_of_lt_of_le (by have := World.block_lt_of_cell? _ _ hw203_0; first | rwa [add_block] at this | exact this) GW205.out) | (rw [add_block]; exact Nat.ne_of_lt (Nat.lt_of_lt_of_le (by have := World.block_lt_of_cell? _ _ hw203_0; first | rwa [add_block] at this | exact this) GW205.out)) | (show (Addr.add _ _).block ≠ _; rw [add_block]; exact Nat.ne_of_lt (Nat.lt_of_lt_of_le (by have := World.block_lt_of_cell? _ _ hw203_0; first | rwa [add_block] at this | exact this) GW205.out)) | (dsimp only; exact Nat.ne_of_lt (Nat.lt_of_lt_of_le (by have := World.block_lt_of_cell? _ _ hw203_0; first | rwa [add_block] at this | exact this) GW205.out))) _).trans (((cell_far (p := ⟨gb205, _, none⟩) (by first | exact Nat.ne_of_lt (Nat.lt_of_lt_of_le (by have := World.block_lt_of_cell? _ _ hw203_0; first | rwa [add_block] at this | exact this) GW205.out) | (rw [add_block]; exact Nat.ne_of_lt (Nat.lt_of_lt_of_le (by have := World.block_lt_of_cell? _ _ hw203_0; first | rwa [add_block] at this | exact this) GW205.out)) | (show (Addr.add _ _).block ≠ _; rw [add_block]; exact Nat.ne_of_lt (Nat.lt_of_lt_of_le (by have := World.block_lt_of_cell? _ _ hw203_0; first | rwa [add_block] at this | exact this) GW205.out)) | (dsimp only; exact Nat.ne_of_lt (Nat.lt_of_lt_of_le (by have := World.block_lt_of_cell? _ _ hw203_0; first | rwa [add_block] at this | exact this) GW205.out))) _).trans (((cell_far (p := ⟨gb205, _, none⟩) (by first | exact Nat.ne_of_lt (Nat.lt_of_lt_of_le (by have := World.block_lt_of_cell? _ _ hw203_0; first | rwa [add_block] at this | exact this) GW205.out) | (rw [add_block]; exact Nat.ne_of_lt (Nat.lt_of_lt_of_le (by have := World.block_lt_of_cell? _ _ hw203_0; first | rwa [add_block] at this | exact this) GW205.out)) | (show (Addr.add _ _).block ≠ _; rw [add_block]; exact Nat.ne_of_lt (Nat.lt_of_lt_of_le (by have := World.block_lt_of_cell? _ _ hw203_0; first | rwa [add_block] at this | exact this) GW205.out)) | (dsimp only; exact Nat.ne_of_lt (Nat.lt_of_lt_of_le (by have := World.block_lt_of_cell? _ _ hw203_0; first | rwa [add_block] at this | exact this) GW205.out))) _).trans (hHeld.1)))))))), ((cell_far (p := ⟨gb205, _, none⟩) (by first | exact Nat.ne_of_lt (Nat.lt_of_lt_of_le (by have := World.block_lt_of_cell? _ _ hw203_1; first | rwa [add_block] at this | exact this) GW205.out) | (rw [add_block]; exact Nat.ne_of_lt (Nat.lt_of_lt_of_le (by have := World.block_lt_of_cell? _ _ hw203_1; first | rwa [add_block] at this | exact this) GW205.out)) | (show (Addr.add _ _).block ≠ _; rw [add_block]; exact Nat.ne_of_lt (Nat.lt_of_lt_of_le (by have := World.block_lt_of_cell? _ _ hw203_1; first | rwa [add_block] at this | exact this) GW205.out)) | (dsimp only; exact Nat.ne_of_lt (Nat.lt_of_lt_of_le (by have := World.block_lt_of_cell? _ _ hw203_1; first | rwa [add_block] at this | exact this) GW205.out))) _).trans (((cell_far (p := ⟨gb205, _, none⟩) (by first | exact Nat.ne_of_lt (Nat.lt_of_lt_of_le (by have := World.block_lt_of_cell? _ _ hw203_1; first | rwa [add_block] at this | exact this) GW205.out) | (rw [add_block]; exact Nat.ne_of_lt (Nat.lt_of_lt_of_le (by have := World.block_lt_of_cell? _ _ hw203_1; first | rwa [add_block] at this | exact this) GW205.out)) | (show (Addr.add _ _).block ≠ _; rw [add_block]; exact Nat.ne_of_lt (Nat.lt_of_lt_of_le (by have := World.block_lt_of_cell? _ _ hw203_1; first | rwa [add_block] at this | exact this) GW205.out)) | (dsimp only; exact Nat.ne_of_lt (Nat.lt_of_lt_of_le (by have := World.block_lt_of_cell? _ _ hw203_1; first | rwa [add_block] at this | exact this) GW205.out))) _).trans (((cell_far (p := ⟨gb205, _, none⟩) (by first | exact Nat.ne_of_lt (Nat.lt_of_lt_of_le (by have := World.block_lt_of_cell? _ _ hw203_1; first | rwa [add_block] at this | exact this) GW205.out) | (rw [add_block]; exact Nat.ne_of_lt (Nat.lt_of_lt_of_le (by have := World.block_lt_of_cell? _ _ hw203_1; first | rwa [add_block] at this | exact this) GW205.out)) | (show (Addr.add _ _).block ≠ _; rw [add_block]; exact Nat.ne_of_lt (Nat.lt_of_lt_of_le (by have := World.block_lt_of_cell? _ _ hw203_1; first | rwa [add_block] at this | exact this) GW205.out)) | (dsimp only; exact Nat.ne_of_lt (Nat.lt_of_lt_of_le (by have := World.block_lt_of_cell? _ _ hw203_1; first | rwa [add_block] at this | exact this) GW205.out))) _).trans (((cell_far (p := ⟨gb205, _, none⟩) (by first | exact Nat.ne_of_lt (Nat.lt_of_lt_of_le (by have := World.block_lt_of_cell? _ _ hw203_1; first | rwa [add_block] at this | exact this) GW205.out) | (rw [add_block]; exact Nat.ne_of_lt (Nat.lt_of_lt_of_le (by have := World.block_lt_of_cell? _ _ hw203_1; first | rwa [add_block] at this | exact this) GW205.out)) | (show (Addr.add _ _).block ≠ _; rw [add_block]; exact Nat.ne_of_lt (Nat.lt_of_lt_of_le (by have := World.block_lt_of_cell? _ _ hw203_1; first | rwa [add_block] at this | exact this) GW205.out)) | (dsimp only; exact Nat.ne_of_lt (Nat.lt_of_lt_of_le (by have := World.block_lt_of_cell? _ _ hw203_1; first | rwa [add_block] at this | exact this) GW205.out))) _).trans (hHeld.2.1)))))))), ((cell_far (p := ⟨gb205, _, none⟩) (by first | exact Nat.ne_of_lt (Nat.lt_of_lt_of_le (by have := World.block_lt_of_cell? _ _ hw203_2; first | rwa [add_block] at this | exact this) GW205.out) | (rw [add_block]; exact Nat.ne_of_lt (Nat.lt_of_lt_of_le (by have := World.block_lt_of_cell? _ _ hw203_2; first | rwa [add_block] at this | exact this) GW205.out)) | (show (Addr.add _ _).block ≠ _; rw [add_block]; exact Nat.ne_of_lt (Nat.lt_of_lt_of_le (by have := World.block_lt_of_cell? _ _ hw203_2; first | rwa [add_block] at this | exact this) GW205.out)) | (dsimp only; exact Nat.ne_of_lt (Nat.lt_of_lt_of_le (by have := World.block_lt_of_cell? _ _ hw203_2; first | rwa [add_block] at this | exact this) GW205.out))) _).trans (((cell_far (p := ⟨gb205, _, none⟩) (by first | exact Nat.ne_of_lt (Nat.lt_of_lt_of_le (by have := World.block_lt_of_cell? _ _ hw203_2; first | rwa [add_block] at this | exact this) GW205.out) | (rw [add_block]; exact Nat.ne_of_lt (Nat.lt_of_lt_of_le (by have := World.block_lt_of_cell? _ _ hw203_2; first | rwa [add_block] at this | exact this) GW205.out)) | (show (Addr.add _ _).block ≠ _; rw [add_block]; exact Nat.ne_of_lt (Nat.lt_of_lt_of_le (by have := World.block_lt_of_cell? _ _ hw203_2; first | rwa [add_block] at this | exact this) GW205.out)) | (dsimp only; exact Nat.ne_of_lt (Nat.lt_of_lt_of_le (by have := World.block_lt_of_cell? _ _ hw203_2; first | rwa [add_block] at this | exact this) GW205.out))) _).trans (((cell_far (p := ⟨gb205, _, none⟩) (by first | exact Nat.ne_of_lt (Nat.lt_of_lt_of_le (by have := World.block_lt_of_cell? _ _ hw203_2; first | rwa [add_block] at this | exact this) GW205.out) | (rw [add_block]; exact Nat.ne_of_lt (Nat.lt_of_lt_of_le (by have := World.block_lt_of_cell? _ _ hw203_2; first | rwa [add_block] at this | exact this) GW205.out)) | (show (Addr.add _ _).block ≠ _; rw [add_block]; exact Nat.ne_of_lt (Nat.lt_of_lt_of_le (by have := World.block_lt_of_cell? _ _ hw203_2; first | rwa [add_block] at this | exact this) GW205.out)) | (dsimp only; exact Nat.ne_of_lt (Nat.lt_of_lt_of_le (by have := World.block_lt_of_cell? _ _ hw203_2; first | rwa [add_block] at this | exact this) GW205.out))) _).trans (((cell_far (p := ⟨gb205, _, none⟩) (by first | exact Nat.ne_of_lt (Nat.lt_of_lt_of_le (by have := World.block_lt_of_cell? _ _ hw203_2; first | rwa [add_block] at this | exact this) GW205.out) | (rw [add_block]; exact Nat.ne_of_lt (Nat.lt_of_lt_of_le (by have := World.block_lt_of_cell? _ _ hw203_2; first | rwa [add_block] at this | exact this) GW205.out)) | (show (Addr.add _ _).block ≠ _; rw [add_block]; exact Nat.ne_of_lt (Nat.lt_of_lt_of_le (by have := World.block_lt_of_cell? _ _ hw203_2; first | rwa [add_block] at this | exact this) GW205.out)) | (dsimp only; exact Nat.ne_of_lt (Nat.lt_of_lt_of_le (by have := World.block_lt_of_cell? _ _ hw203_2; first | rwa [add_block] at this | exact this) GW205.out))) _).trans (hHeld.2.2.1)))))))), ((cell_far (p := ⟨gb205, _, none⟩) (by first | exact Nat.ne_of_lt (Nat.lt_of_lt_of_le (by have := World.block_lt_of_cell? _ _ hw203_3; first | rwa [add_block] at this | exact this) GW205.out) | (rw [add_block]; exact Nat.ne_of_lt (Nat.lt_of_lt_of_le (by have := World.block_lt_of_cell? _ _ hw203_3; first | rwa [add_block] at this | exact this) GW205.out)) | (show (Addr.add _ _).block ≠ _; rw [add_block]; exact Nat.ne_of_lt (Nat.lt_of_lt_of_le (by have := World.block_lt_of_cell? _ _ hw203_3; first | rwa [add_block] at this | exact this) GW205.out)) | (dsimp only; exact Nat.ne_of_lt (Nat.lt_of_lt_of_le (by have := World.block_lt_of_cell? _ _ hw203_3; first | rwa [add_block] at this | exact this) GW205.out))) _).trans (((cell_far (p := ⟨gb205, _, none⟩) (by first | exact Nat.ne_of_lt (Nat.lt_of_lt_of_le (by have := World.block_lt_of_cell? _ _ hw203_3; first | rwa [add_block] at this | exact this) GW205.out) | (rw [add_block]; exact Nat.ne_of_lt (Nat.lt_of_lt_of_le (by have := World.block_lt_of_cell? _ _ hw203_3; first | rwa [add_block] at this | exact this) GW205.out)) | (show (Addr.add _ _).block ≠ _; rw [add_block]; exact Nat.ne_of_lt (Nat.lt_of_lt_of_le (by have := World.block_lt_of_cell? _ _ hw203_3; first | rwa [add_block] at this | exact this) GW205.out)) | (dsimp only; exact Nat.ne_of_lt (Nat.lt_of_lt_of_le (by have := World.block_lt_of_cell? _ _ hw203_3; first | rwa [add_block] at this | exact this) GW205.out))) _).trans (((cell_far (p := ⟨gb205, _, none⟩) (by first | exact Nat.ne_of_lt (Nat.lt_of_lt_of_le (by have := World.block_lt_of_cell? _ _ hw203_3; first | rwa [add_block] at this | exact this) GW205.out) | (rw [add_block]; exact Nat.ne_of_lt (Nat.lt_of_lt_of_le (by have := World.block_lt_of_cell? _ _ hw203_3; first | rwa [add_block] at this | exact this) GW205.out)) | (show (Addr.add _ _).block ≠ _; rw [add_block]; exact Nat.ne_of_lt (Nat.lt_of_lt_of_le (by have := World.block_lt_of_cell? _ _ hw203_3; first | rwa [add_block] at this | exact this) GW205.out)) | (dsimp only; exact Nat.ne_of_lt (Nat.lt_of_lt_of_le (by have := World.block_lt_of_cell? _ _ hw203_3; first | rwa [add_block] at this | exact this) GW205.out))) _).trans (((cell_far (p := ⟨gb205, _, none⟩) (by first | exact Nat.ne_of_lt (Nat.lt_of_lt_of_le (by have := World.block_lt_of_cell? _ _ hw203_3; first | rwa [add_block] at this | exact this) GW205.out) | (rw [add_block]; exact Nat.ne_of_lt (Nat.lt_of_lt_of_le (by have := World.block_lt_of_cell? _ _ hw203_3; first | rwa [add_block] at this | exact this) GW205.out)) | (show (Addr.add _ _).block ≠ _; rw [add_block]; exact Nat.ne_of_lt (Nat.lt_of_lt_of_le (by have := World.block_lt_of_cell? _ _ hw203_3; first | rwa [add_block] at this | exact this) GW205.out)) | (dsimp only; exact Nat.ne_of_lt (Nat.lt_of_lt_of_le (by have := World.block_lt_of_cell? _ _ hw203_3; first | rwa [add_block] at this | exact this) GW205.out))) _).trans (hHeld.2.2.2.1)))))))), ((cell_far (p := ⟨gb205, _, none⟩) (by first | exact Nat.ne_of_lt (Nat.lt_of_lt_of_le (by have := World.block_lt_of_cell? _ _ hw203_4; first | rwa [add_block] at this | exact this) GW205.out) | (rw [add_block]; exact Nat.ne_of_lt (Nat.lt_of_lt_of_le (by have := World.block_lt_of_cell? _ _ hw203_4; first | rwa [add_block] at this | exact this) GW205.out)) | (show (Addr.add _ _).block ≠ _; rw [add_block]; exact Nat.ne_of_lt (Nat.lt_of_lt_of_le (by have := World.block_lt_of_cell? _ _ hw203_4; first | rwa [add_block] at this | exact this) GW205.out)) | (dsimp only; exact Nat.ne_of_lt (Nat.lt_of_lt_of_le (by have := World.block_lt_of_cell? _ _ hw203_4; first | rwa [add_block] at this | exact this) GW205.out))) _).trans (((cell_far (p := ⟨gb205, _, none⟩) (by first | exact Nat.ne_of_lt (Nat.lt_of_lt_of_le (by have := World.block_lt_of_cell? _ _ hw203_4; first | rwa [add_block] at this | exact this) GW205.out) | (rw [add_block]; exact Nat.ne_of_lt (Nat.lt_of_lt_of_le (by have := World.block_lt_of_cell? _ _ hw203_4; first | rwa [add_block] at this | exact this) GW205.out)) | (show (Addr.add _ _).block ≠ _; rw [add_block]; exact Nat.ne_of_lt (Nat.lt_of_lt_of_le (by have := World.block_lt_of_cell? _ _ hw203_4; first | rwa [add_block] at this | exact this) GW205.out)) | (dsimp only; exact Nat.ne_of_lt (Nat.lt_of_lt_of_le (by have := World.block_lt_of_cell? _ _ hw203_4; first | rwa [add_block] at this | exact this) GW205.out))) _).trans (((cell_far (p := ⟨gb205, _, none⟩) (by first | exact Nat.ne_of_lt (Nat.lt_of_lt_of_le (by have := World.block_lt_of_cell? _ _ hw203_4; first | rwa [add_block] at this | exact this) GW205.out) | (rw [add_block]; exact Nat.ne_of_lt (Nat.lt_of_lt_of_le (by have := World.block_lt_of_cell? _ _ hw203_4; first | rwa [add_block] at this | exact this) GW205.out)) | (show (Addr.add _ _).block ≠ _; rw [add_block]; exact Nat.ne_of_lt (Nat.lt_of_lt_of_le (by have := World.block_lt_of_cell? _ _ hw203_4; first | rwa [add_block] at this | exact this) GW205.out)) | (dsimp only; exact Nat.ne_of_lt (Nat.lt_of_lt_of_le (by have := World.block_lt_of_cell? _ _ hw203_4; first | rwa [add_block] at this | exact this) GW205.out))) _).trans (((cell_far (p := ⟨gb205, _, none⟩) (by first | exact Nat.ne_of_lt (Nat.lt_of_lt_of_le (by have := World.block_lt_of_cell? _ _ hw203_4; first | rwa [add_block] at this | exact this) GW205.out) | (rw [add_block]; exact Nat.ne_of_lt (Nat.lt_of_lt_of_le (by have := World.block_lt_of_cell? _ _ hw203_4; first | rwa [add_block] at this | exact this) GW205.out)) | (show (Addr.add _ _).block ≠ _; rw [add_block]; exact Nat.ne_of_lt (Nat.lt_of_lt_of_le (by have := World.block_lt_of_cell? _ _ hw203_4; first | rwa [add_block] at this | exact this) GW205.out)) | (dsimp only; exact Nat.ne_of_lt (Nat.lt_of_lt_of_le (by have := World.block_lt_of_cell? _ _ hw203_4; first | rwa [add_block] at this | exact this) GW205.out))) _).trans (hHeld.2.2.2.2.1)))))))), ((cell_far (p := ⟨gb205, _, none⟩) (by first | exact Nat.ne_of_lt (Nat.lt_of_lt_of_le (by have := World.block_lt_of_cell? _ _ hw204_0; first | rwa [add_block] at this | exact this) GW205.out) | (rw [add_block]; exact Nat.ne_of_lt (Nat.lt_of_lt_of_le (by have := World.block_lt_of_cell? _ _ hw204_0; first | rwa [add_block] at this | exact this) GW205.out)) | (show (Addr.add _ _).block ≠ _; rw [add_block]; exact Nat.ne_of_lt (Nat.lt_of_lt_of_le (by have := World.block_lt_of_cell? _ _ hw204_0; first | rwa [add_block] at this | exact this) GW205.out)) | (dsimp only; exact Nat.ne_of_lt (Nat.lt_of_lt_of_le (by have := World.block_lt_of_cell? _ _ hw204_0; first | rwa [add_block] at this | exact this) GW205.out))) _).trans (((cell_far (p := ⟨gb205, _, none⟩) (by first | exact Nat.ne_of_lt (Nat.lt_of_lt_of_le (by have := World.block_lt_of_cell? _ _ hw204_0; first | rwa [add_block] at this | exact this) GW205.out) | (rw [add_block]; exact Nat.ne_of_lt (Nat.lt_of_lt_of_le (by have := World.block_lt_of_cell? _ _ hw204_0; first | rwa [add_block] at this | exact this) GW205.out)) | (show (Addr.add _ _).block ≠ _; rw [add_block]; exact Nat.ne_of_lt (Nat.lt_of_lt_of_le (by have := World.block_lt_of_cell? _ _ hw204_0; first | rwa [add_block] at this | exact this) GW205.out)) | (dsimp only; exact Nat.ne_of_lt (Nat.lt_of_lt_of_le (by have := World.block_lt_of_cell? _ _ hw204_0; first | rwa [add_block] at this | exact this) GW205.out))) _).trans (((cell_far (p := ⟨gb205, _, none⟩) (by first | exact Nat.ne_of_lt (Nat.lt_of_lt_of_le (by have := World.block_lt_of_cell? _ _ hw204_0; first | rwa [add_block] at this | exact this) GW205.out) | (rw [add_block]; exact Nat.ne_of_lt (Nat.lt_of_lt_of_le (by have := World.block_lt_of_cell? _ _ hw204_0; first | rwa [add_block] at this | exact this) GW205.out)) | (show (Addr.add _ _).block ≠ _; rw [add_block]; exact Nat.ne_of_lt (Nat.lt_of_lt_of_le (by have := World.block_lt_of_cell? _ _ hw204_0; first | rwa [add_block] at this | exact this) GW205.out)) | (dsimp only; exact Nat.ne_of_lt (Nat.lt_of_lt_of_le (by have := World.block_lt_of_cell? _ _ hw204_0; first | rwa [add_block] at this | exact this) GW205.out))) _).trans (((cell_far (p := ⟨gb205, _, none⟩) (by first | exact Nat.ne_of_lt (Nat.lt_of_lt_of_le (by have := World.block_lt_of_cell? _ _ hw204_0; first | rwa [add_block] at this | exact this) GW205.out) | (rw [add_block]; exact Nat.ne_of_lt (Nat.lt_of_lt_of_le (by have := World.block_lt_of_cell? _ _ hw204_0; first | rwa [add_block] at this | exact this) GW205.out)) | (show (Addr.add _ _).block ≠ _; rw [add_block]; exact Nat.ne_of_lt (Nat.lt_of_lt_of_le (by have := World.block_lt_of_cell? _ _ hw204_0; first | rwa [add_block] at this | exact this) GW205.out)) | (dsimp only; exact Nat.ne_of_lt (Nat.lt_of_lt_of_le (by have := World.block_lt_of_cell? _ _ hw204_0; first | rwa [add_block] at this | exact this) GW205.out))) _).trans (hHeld.2.2.2.2.2.1)))))))), ((cell_far (p := ⟨gb205, _, none⟩) (by first | exact Nat.ne_of_lt (Nat.lt_of_lt_of_le (by have := World.block_lt_of_cell? _ _ hw204_1; first | rwa [add_block] at this | exact this) GW205.out) | (rw [add_block]; exact Nat.ne_of_lt (Nat.lt_of_lt_of_le (by have := World.block_lt_of_cell? _ _ hw204_1; first | rwa [add_block] at this | exact this) GW205.out)) | (show (Addr.add _ _).block ≠ _; rw [add_block]; exact Nat.ne_of_lt (Nat.lt_of_lt_of_le (by have := World.block_lt_of_cell? _ _ hw204_1; first | rwa [add_block] at this | exact this) GW205.out)) | (dsimp only; exact Nat.ne_of_lt (Nat.lt_of_lt_of_le (by have := World.block_lt_of_cell? _ _ hw204_1; first | rwa [add_block] at this | exact this) GW205.out))) _).trans (((cell_far (p := ⟨gb205, _, none⟩) (by first | exact Nat.ne_of_lt (Nat.lt_of_lt_of_le (by have := World.block_lt_of_cell? _ _ hw204_1; first | rwa [add_block] at this | exact this) GW205.out) | (rw [add_block]; exact Nat.ne_of_lt (Nat.lt_of_lt_of_le (by have := World.block_lt_of_cell? _ _ hw204_1; first | rwa [add_block] at this | exact this) GW205.out)) | (show (Addr.add _ _).block ≠ _; rw [add_block]; exact Nat.ne_of_lt (Nat.lt_of_lt_of_le (by have := World.block_lt_of_cell? _ _ hw204_1; first | rwa [add_block] at this | exact this) GW205.out)) | (dsimp only; exact Nat.ne_of_lt (Nat.lt_of_lt_of_le (by have := World.block_lt_of_cell? _ _ hw204_1; first | rwa [add_block] at this | exact this) GW205.out))) _).trans (((cell_far (p := ⟨gb205, _, none⟩) (by first | exact Nat.ne_of_lt (Nat.lt_of_lt_of_le (by have := World.block_lt_of_cell? _ _ hw204_1; first | rwa [add_block] at this | exact this) GW205.out) | (rw [add_block]; exact Nat.ne_of_lt (Nat.lt_of_lt_of_le (by have := World.block_lt_of_cell? _ _ hw204_1; first | rwa [add_block] at this | exact this) GW205.out)) | (show (Addr.add _ _).block ≠ _; rw [add_block]; exact Nat.ne_of_lt (Nat.lt_of_lt_of_le (by have := World.block_lt_of_cell? _ _ hw204_1; first | rwa [add_block] at this | exact this) GW205.out)) | (dsimp only; exact Nat.ne_of_lt (Nat.lt_of_lt_of_le (by have := World.block_lt_of_cell? _ _ hw204_1; first | rwa [add_block] at this | exact this) GW205.out))) _).trans (((cell_far (p := ⟨gb205, _, none⟩) (by first | exact Nat.ne_of_lt (Nat.lt_of_lt_of_le (by have := World.block_lt_of_cell? _ _ hw204_1; first | rwa [add_block] at this | exact this) GW205.out) | (rw [add_block]; exact Nat.ne_of_lt (Nat.lt_of_lt_of_le (by have := World.block_lt_of_cell? _ _ hw204_1; first | rwa [add_block] at this | exact this) GW205.out)) | (show (Addr.add _ _).block ≠ _; rw [add_block]; exact Nat.ne_of_lt (Nat.lt_of_lt_of_le (by have := World.block_lt_of_cell? _ _ hw204_1; first | rwa [add_block] at this | exact this) GW205.out)) | (dsimp only; exact Nat.ne_of_lt (Nat.lt_of_lt_of_le (by have := World.block_lt_of_cell? _ _ hw204_1; first | rwa [add_block] at this | exact this) GW205.out))) _).trans (hHeld.2.2.2.2.2.2.1)))))))), ((cell_far (p := ⟨gb205, _, none⟩) (by first | exact Nat.ne_of_lt (Nat.lt_of_lt_of_le (by have := World.block_lt_of_cell? _ _ hw204_2; first | rwa [add_block] at this | exact this) GW205.out) | (rw [add_block]; exact Nat.ne_of_lt (Nat.lt_of_lt_of_le (by have := World.block_lt_of_cell? _ _ hw204_2; first | rwa [add_block] at this | exact this) GW205.out)) | (show (Addr.add _ _).block ≠ _; rw [add_block]; exact Nat.ne_of_lt (Nat.lt_of_lt_of_le (by have := World.block_lt_of_cell? _ _ hw204_2; first | rwa [add_block] at this | exact this) GW205.out)) | (dsimp only; exact Nat.ne_of_lt (Nat.lt_of_lt_of_le (by have := World.block_lt_of_cell? _ _ hw204_2; first | rwa [add_block] at this | exact this) GW205.out))) _).trans (((cell_far (p := ⟨gb205, _, none⟩) (by first | exact Nat.ne_of_lt (Nat.lt_of_lt_of_le (by have := World.block_lt_of_cell? _ _ hw204_2; first | rwa [add_block] at this | exact this) GW205.out) | (rw [add_block]; exact Nat.ne_of_lt (Nat.lt_of_lt_of_le (by have := World.block_lt_of_cell? _ _ hw204_2; first | rwa [add_block] at this | exact this) GW205.out)) | (show (Addr.add _ _).block ≠ _; rw [add_block]; exact Nat.ne_of_lt (Nat.lt_of_lt_of_le (by have := World.block_lt_of_cell? _ _ hw204_2; first | rwa [add_block] at this | exact this) GW205.out)) | (dsimp only; exact Nat.ne_of_lt (Nat.lt_of_lt_of_le (by have := World.block_lt_of_cell? _ _ hw204_2; first | rwa [add_block] at this | exact this) GW205.out))) _).trans (((cell_far (p := ⟨gb205, _, none⟩) (by first | exact Nat.ne_of_lt (Nat.lt_of_lt_of_le (by have := World.block_lt_of_cell? _ _ hw204_2; first | rwa [add_block] at this | exact this) GW205.out) | (rw [add_block]; exact Nat.ne_of_lt (Nat.lt_of_lt_of_le (by have := World.block_lt_of_cell? _ _ hw204_2; first | rwa [add_block] at this | exact this) GW205.out)) | (show (Addr.add _ _).block ≠ _; rw [add_block]; exact Nat.ne_of_lt (Nat.lt_of_lt_of_le (by have := World.block_lt_of_cell? _ _ hw204_2; first | rwa [add_block] at this | exact this) GW205.out)) | (dsimp only; exact Nat.ne_of_lt (Nat.lt_of_lt_of_le (by have := World.block_lt_of_cell? _ _ hw204_2; first | rwa [add_block] at this | exact this) GW205.out))) _).trans (((cell_far (p := ⟨gb205, _, none⟩) (by first | exact Nat.ne_of_lt (Nat.lt_of_lt_of_le (by have := World.block_lt_of_cell? _ _ hw204_2; first | rwa [add_block] at this | exact this) GW205.out) | (rw [add_block]; exact Nat.ne_of_lt (Nat.lt_of_lt_of_le (by have := World.block_lt_of_cell? _ _ hw204_2; first | rwa [add_block] at this | exact this) GW205.out)) | (show (Addr.add _ _).block ≠ _; rw [add_block]; exact Nat.ne_of_lt (Nat.lt_of_lt_of_le (by have := World.block_lt_of_cell? _ _ hw204_2; first | rwa [add_block] at this | exact this) GW205.out)) | (dsimp only; exact Nat.ne_of_lt (Nat.lt_of_lt_of_le (by have := World.block_lt_of_cell? _ _ hw204_2; first | rwa [add_block] at this | exact this) GW205.out))) _).trans (hHeld.2.2.2.2.2.2.2.1)))))))), ((cell_far (p := ⟨gb205, _, none⟩) (by first | exact Nat.ne_of_lt (Nat.lt_of_lt_of_le (by have := World.block_lt_of_cell? _ _ hw204_3; first | rwa [add_block] at this | exact this) GW205.out) | (rw [add_block]; exact Nat.ne_of_lt (Nat.lt_of_lt_of_le (by have := World.block_lt_of_cell? _ _ hw204_3; first | rwa [add_block] at this | exact this) GW205.out)) | (show (Addr.add _ _).block ≠ _; rw [add_block]; exact Nat.ne_of_lt (Nat.lt_of_lt_of_le (by have := World.block_lt_of_cell? _ _ hw204_3; first | rwa [add_block] at this | exact this) GW205.out)) | (dsimp only; exact Nat.ne_of_lt (Nat.lt_of_lt_of_le (by have := World.block_lt_of_cell? _ _ hw204_3; first | rwa [add_block] at this | exact this) GW205.out))) _).trans (((cell_far (p := ⟨gb205, _, none⟩) (by first | exact Nat.ne_of_lt (Nat.lt_of_lt_of_le (by have := World.block_lt_of_cell? _ _ hw204_3; first | rwa [add_block] at this | exact this) GW205.out) | (rw [add_block]; exact Nat.ne_of_lt (Nat.lt_of_lt_of_le (by have := World.block_lt_of_cell? _ _ hw204_3; first | rwa [add_block] at this | exact this) GW205.out)) | (show (Addr.add _ _).block ≠ _; rw [add_block]; exact Nat.ne_of_lt (Nat.lt_of_lt_of_le (by have := World.block_lt_of_cell? _ _ hw204_3; first | rwa [add_block] at this | exact this) GW205.out)) | (dsimp only; exact Nat.ne_of_lt (Nat.lt_of_lt_of_le (by have := World.block_lt_of_cell? _ _ hw204_3; first | rwa [add_block] at this | exact this) GW205.out))) _).trans (((cell_far (p := ⟨gb205, _, none⟩) (by first | exact Nat.ne_of_lt (Nat.lt_of_lt_of_le (by have := World.block_lt_of_cell? _ _ hw204_3; first | rwa [add_block] at this | exact this) GW205.out) | (rw [add_block]; exact Nat.ne_of_lt (Nat.lt_of_lt_of_le (by have := World.block_lt_of_cell? _ _ hw204_3; first | rwa [add_block] at this | exact this) GW205.out)) | (show (Addr.add _ _).block ≠ _; rw [add_block]; exact Nat.ne_of_lt (Nat.lt_of_lt_of_le (by have := World.block_lt_of_cell? _ _ hw204_3; first | rwa [add_block] at this | exact this) GW205.out)) | (dsimp only; exact Nat.ne_of_lt (Nat.lt_of_lt_of_le (by have := World.block_lt_of_cell? _ _ hw204_3; first | rwa [add_block] at this | exact this) GW205.out))) _).trans (((cell_far (p := ⟨gb205, _, none⟩) (by first | exact Nat.ne_of_lt (Nat.lt_of_lt_of_le (by have := World.block_lt_of_cell? _ _ hw204_3; first | rwa [add_block] at this | exact this) GW205.out) | (rw [add_block]; exact Nat.ne_of_lt (Nat.lt_of_lt_of_le (by have := World.block_lt_of_cell? _ _ hw204_3; first | rwa [add_block] at this | exact this) GW205.out)) | (show (Addr.add _ _).block ≠ _; rw [add_block]; exact Nat.ne_of_lt (Nat.lt_of_lt_of_le (by have := World.block_lt_of_cell? _ _ hw204_3; first | rwa [add_block] at this | exact this) GW205.out)) | (dsimp only; exact Nat.ne_of_lt (Nat.lt_of_lt_of_le (by have := World.block_lt_of_cell? _ _ hw204_3; first | rwa [add_block] at this | exact this) GW205.out))) _).trans (hHeld.2.2.2.2.2.2.2.2.1)))))))), ((cell_far (p := ⟨gb205, _, none⟩) (by first | exact Nat.ne_of_lt (Nat.lt_of_lt_of_le (by have := World.block_lt_of_cell? _ _ hw204_4; first | rwa [add_block] at this | exact this) GW205.out) | (rw [add_block]; exact Nat.ne_of_lt (Nat.lt_of_lt_of_le (by have := World.block_lt_of_cell? _ _ hw204_4; first | rwa [add_block] at this | exact this) GW205.out)) | (show (Addr.add _ _).block ≠ _; rw [add_block]; exact Nat.ne_of_lt (Nat.lt_of_lt_of_le (by have := World.block_lt_of_cell? _ _ hw204_4; first | rwa [add_block] at this | exact this) GW205.out)) | (dsimp only; exact Nat.ne_of_lt (Nat.lt_of_lt_of_le (by have := World.block_lt_of_cell? _ _ hw204_4; first | rwa [add_block] at this | exact this) GW205.out))) _).trans (((cell_far (p := ⟨gb205, _, none⟩) (by first | exact Nat.ne_of_lt (Nat.lt_of_lt_of_le (by have := World.block_lt_of_cell? _ _ hw204_4; first | rwa [add_block] at this | exact this) GW205.out) | (rw [add_block]; exact Nat.ne_of_lt (Nat.lt_of_lt_of_le (by have := World.block_lt_of_cell? _ _ hw204_4; first | rwa [add_block] at this | exact this) GW205.out)) | (show (Addr.add _ _).block ≠ _; rw [add_block]; exact Nat.ne_of_lt (Nat.lt_of_lt_of_le (by have := World.block_lt_of_cell? _ _ hw204_4; first | rwa [add_block] at this | exact this) GW205.out)) | (dsimp only; exact Nat.ne_of_lt (Nat.lt_of_lt_of_le (by have := World.block_lt_of_cell? _ _ hw204_4; first | rwa [add_block] at this | exact this) GW205.out))) _).trans (((cell_far (p := ⟨gb205, _, none⟩) (by first | exact Nat.ne_of_lt (Nat.lt_of_lt_of_le (by have := World.block_lt_of_cell? _ _ hw204_4; first | rwa [add_block] at this | exact this) GW205.out) | (rw [add_block]; exact Nat.ne_of_lt (Nat.lt_of_lt_of_le (by have := World.block_lt_of_cell? _ _ hw204_4; first | rwa [add_block] at this | exact this) GW205.out)) | (show (Addr.add _ _).block ≠ _; rw [add_block]; exact Nat.ne_of_lt (Nat.lt_of_lt_of_le (by have := World.block_lt_of_cell? _ _ hw204_4; first | rwa [add_block] at this | exact this) GW205.out)) | (dsimp only; exact Nat.ne_of_lt (Nat.lt_of_lt_of_le (by have := World.block_lt_of_cell? _ _ hw204_4; first | rwa [add_block] at this | exact this) GW205.out))) _).trans (((cell_far (p := ⟨gb205, _, none⟩) (by first | exact Nat.ne_of_lt (Nat.lt_of_lt_of_le (by have := World.block_lt_of_cell? _ _ hw204_4; first | rwa [add_block] at this | exact this) GW205.out) | (rw [add_block]; exact Nat.ne_of_lt (Nat.lt_of_lt_of_le (by have := World.block_lt_of_cell? _ _ hw204_4; first | rwa [add_block] at this | exact this) GW205.out)) | (show (Addr.add _ _).block ≠ _; rw [add_block]; exact Nat.ne_of_lt (Nat.lt_of_lt_of_le (by have := World.block_lt_of_cell? _ _ hw204_4; first | rwa [add_block] at this | exact this) GW205.out)) | (dsimp only; exact Nat.ne_of_lt (Nat.lt_of_lt_of_le (by have := World.block_lt_of_cell? _ _ hw204_4; first | rwa [add_block] at this | exact this) GW205.out))) _).trans (hHeld.2.2.2.2.2.2.2.2.2))))))))⟩ (fun hHeld => ?_)
     clear hK K
     refine one_ (i := 11) (N := none) #[true, true, true, true, true, true, true, true, true, true, true, true] rfl rfl (one_of HT_.out (by kernel_rfl)) (by decide) (fun K hK => ?_)
     have hs28 : w23.cell? ⟨gb206, 0, none⟩ = some (.int .i64 0) := (blk_cell BK206.out 0).trans rfl
     have hfs28 := blk_frozen BK206.out 0
     have hns28_0 := NB202_206.out
     have hns28_1 := NB205_206.out
     have hms28_0 := NB206_202.out
     have hms28_1 := NB206_205.out
     have hs29 : w23.cell? ⟨gb206, 1, none⟩ = some (.int .i64 0) := (blk_cell BK206.out 1).trans rfl
     have hfs29 := blk_frozen BK206.out 1
     have hns29_0 := NB202_206.out
     have hns29_1 := NB205_206.out
     have hms29_0 := NB206_202.out
     have hms29_1 := NB206_205.out
     have hs30 : w23.cell? ⟨gb206, 2, none⟩ = some (.int .i64 0) := (blk_cell BK206.out 2).trans rfl
     have hfs30 := blk_frozen BK206.out 2
     have hns30_0 := NB202_206.out
     have hns30_1 := NB205_206.out
     have hms30_0 := NB206_202.out
     have hms30_1 := NB206_205.out
     have hs31 : w23.cell? ⟨gb206, 3, none⟩ = some (.int .i64 0) := (blk_cell BK206.out 3).trans rfl
     have hfs31 := blk_frozen BK206.out 3
     have hns31_0 := NB202_206.out
     have hns31_1 := NB205_206.out
     have hms31_0 := NB206_202.out
     have hms31_1 := NB206_205.out
     refine skip_ (w1 := ?_) (by rfl) rfl ?_ ?_
     rotate_left
     ·go_simp
      rfl
     refine hK.out _ _ ⟨((cell_far (p := ⟨gb206, _, none⟩) (by first | exact Nat.ne_of_lt (Nat.lt_of_lt_of_le (by have := World.block_lt_of_cell? _ _ hw203_0; first | rwa [add_block] at this | exact this) GW206.out) | (rw [add_block]; exact Nat.ne_of_lt (Nat.lt_of_lt_of_le (by have := World.block_lt_of_cell? _ _ hw203_0; first | rwa [add_block] at this | exact this) GW206.out)) | (show (Addr.add _ _).block ≠ _; rw [add_block]; exact Nat.ne_of_lt (Nat.lt_of_lt_of_le (by have := World.block_lt_of_cell? _ _ hw203_0; first | rwa [add_block] at this | exact this) GW206.out)) | (dsimp only; exact Nat.ne_of_lt (Nat.lt_of_lt_of_le (by have := World.block_lt_of_cell? _ _ hw203_0; first | rwa [add_block] at this | exact this) GW206.out))) _).trans (((cell_far (p := ⟨gb206, _, none⟩) (by first | exact Nat.ne_of_lt (Nat.lt_of_lt_of_le (by have := World.block_lt_of_cell? _ _ hw203_0; first | rwa [add_block] at this | exact this) GW206.out) | (rw [add_block]; exact Nat.ne_of_lt (Nat.lt_of_lt_of_le (by have := World.block_lt_of_cell? _ _ hw203_0; first | rwa [add_block] at this | exact this) GW206.out)) | (show (Addr.add _ _).block ≠ _; rw [add_block]; exact Nat.ne_of_lt (Nat.lt_of_lt_of_le (by have := World.block_lt_of_cell? _ _ hw203_0; first | rwa [add_block] at this | exact this) GW206.out)) | (dsimp only; exact Nat.ne_of_lt (Nat.lt_of_lt_of_le (by have := World.block_lt_of_cell? _ _ hw203_0; first | rwa [add_block] at this | exact this) GW206.out))) _).trans (((cell_far (p := ⟨gb206, _, none⟩) (by first | exact Nat.ne_of_lt (Nat.lt_of_lt_of_le (by have := World.block_lt_of_cell? _ _ hw203_0; first | rwa [add_block] at this | exact this) GW206.out) | (rw [add_block]; exact Nat.ne_of_lt (Nat.lt_of_lt_of_le (by have := World.block_lt_of_cell? _ _ hw203_0; first | rwa [add_block] at this | exact this) GW206.out)) | (show (Addr.add _ _).block ≠ _; rw [add_block]; exact Nat.ne_of_lt (Nat.lt_of_lt_of_le (by have := World.block_lt_of_cell? _ _ hw203_0; first | rwa [add_block] at this | exact this) GW206.out)) | (dsimp only; exact Nat.ne_of_lt (Nat.lt_of_lt_of_le (by have := World.block_lt_of_cell? _ _ hw203_0; first | rwa [add_block] at this | exact this) GW206.out))) _).trans (((cell_far (p := ⟨gb206, _, none⟩) (by first | exact Nat.ne_of_lt (Nat.lt_of_lt_of_le (by have := World.block_lt_of_cell? _ _ hw203_0; first | rwa [add_block] at this | exact this) GW206.out) | (rw [add_block]; exact Nat.ne_of_lt (Nat.lt_of_lt_of_le (by have := World.block_lt_of_cell? _ _ hw203_0; first | rwa [add_block] at this | exact this) GW206.out)) | (show (Addr.add _ _).block ≠ _; rw [add_block]; exact Nat.ne_of_lt (Nat.lt_of_lt_of_le (by have := World.block_lt_of_cell? _ _ hw203_0; first | rwa [add_block] at this | exact this) GW206.out)) | (dsimp only; exact Nat.ne_of_lt (Nat.lt_of_lt_of_le (by have := World.block_lt_of_cell? _ _ hw203_0; first | rwa [add_block] at this | exact this) GW206.out))) _).trans (hHeld.1)))))))), ((cell_far (p := ⟨gb206, _, none⟩) (by first | exact Nat.ne_of_lt (Nat.lt_of_lt_of_le (by have := World.block_lt_of_cell? _ _ hw203_1; first | rwa [add_block] at this | exact this) GW206.out) | (rw [add_block]; exact Nat.ne_of_lt (Nat.lt_of_lt_of_le (by have := World.block_lt_of_cell? _ _ hw203_1; first | rwa [add_block] at this | exact this) GW206.out)) | (show (Addr.add _ _).block ≠ _; rw [add_block]; exact Nat.ne_of_lt (Nat.lt_of_lt_of_le (by have := World.block_lt_of_cell? _ _ hw203_1; first | rwa [add_block] at this | exact this) GW206.out)) | (dsimp only; exact Nat.ne_of_lt (Nat.lt_of_lt_of_le (by have := World.block_lt_of_cell? _ _ hw203_1; first | rwa [add_block] at this | exact this) GW206.out))) _).trans (((cell_far (p := ⟨gb206, _, none⟩) (by first | exact Nat.ne_of_lt (Nat.lt_of_lt_of_le (by have := World.block_lt_of_cell? _ _ hw203_1; first | rwa [add_block] at this | exact this) GW206.out) | (rw [add_block]; exact Nat.ne_of_lt (Nat.lt_of_lt_of_le (by have := World.block_lt_of_cell? _ _ hw203_1; first | rwa [add_block] at this | exact this) GW206.out)) | (show (Addr.add _ _).block ≠ _; rw [add_block]; exact Nat.ne_of_lt (Nat.lt_of_lt_of_le (by have := World.block_lt_of_cell? _ _ hw203_1; first | rwa [add_block] at this | exact this) GW206.out)) | (dsimp only; exact Nat.ne_of_lt (Nat.lt_of_lt_of_le (by have := World.block_lt_of_cell? _ _ hw203_1; first | rwa [add_block] at this | exact this) GW206.out))) _).trans (((cell_far (p := ⟨gb206, _, none⟩) (by first | exact Nat.ne_of_lt (Nat.lt_of_lt_of_le (by have := World.block_lt_of_cell? _ _ hw203_1; first | rwa [add_block] at this | exact this) GW206.out) | (rw [add_block]; exact Nat.ne_of_lt (Nat.lt_of_lt_of_le (by have := World.block_lt_of_cell? _ _ hw203_1; first | rwa [add_block] at this | exact this) GW206.out)) | (show (Addr.add _ _).block ≠ _; rw [add_block]; exact Nat.ne_of_lt (Nat.lt_of_lt_of_le (by have := World.block_lt_of_cell? _ _ hw203_1; first | rwa [add_block] at this | exact this) GW206.out)) | (dsimp only; exact Nat.ne_of_lt (Nat.lt_of_lt_of_le (by have := World.block_lt_of_cell? _ _ hw203_1; first | rwa [add_block] at this | exact this) GW206.out))) _).trans (((cell_far (p := ⟨gb206, _, none⟩) (by first | exact Nat.ne_of_lt (Nat.lt_of_lt_of_le (by have := World.block_lt_of_cell? _ _ hw203_1; first | rwa [add_block] at this | exact this) GW206.out) | (rw [add_block]; exact Nat.ne_of_lt (Nat.lt_of_lt_of_le (by have := World.block_lt_of_cell? _ _ hw203_1; first | rwa [add_block] at this | exact this) GW206.out)) | (show (Addr.add _ _).block ≠ _; rw [add_block]; exact Nat.ne_of_lt (Nat.lt_of_lt_of_le (by have := World.block_lt_of_cell? _ _ hw203_1; first | rwa [add_block] at this | exact this) GW206.out)) | (dsimp only; exact Nat.ne_of_lt (Nat.lt_of_lt_of_le (by have := World.block_lt_of_cell? _ _ hw203_1; first | rwa [add_block] at this | exact this) GW206.out))) _).trans (hHeld.2.1)))))))), ((cell_far (p := ⟨gb206, _, none⟩) (by first | exact Nat.ne_of_lt (Nat.lt_of_lt_of_le (by have := World.block_lt_of_cell? _ _ hw203_2; first | rwa [add_block] at this | exact this) GW206.out) | (rw [add_block]; exact Nat.ne_of_lt (Nat.lt_of_lt_of_le (by have := World.block_lt_of_cell? _ _ hw203_2; first | rwa [add_block] at this | exact this) GW206.out)) | (show (Addr.add _ _).block ≠ _; rw [add_block]; exact Nat.ne_of_lt (Nat.lt_of_lt_of_le (by have := World.block_lt_of_cell? _ _ hw203_2; first | rwa [add_block] at this | exact this) GW206.out)) | (dsimp only; exact Nat.ne_of_lt (Nat.lt_of_lt_of_le (by have := World.block_lt_of_cell? _ _ hw203_2; first | rwa [add_block] at this | exact this) GW206.out))) _).trans (((cell_far (p := ⟨gb206, _, none⟩) (by first | exact Nat.ne_of_lt (Nat.lt_of_lt_of_le (by have := World.block_lt_of_cell? _ _ hw203_2; first | rwa [add_block] at this | exact this) GW206.out) | (rw [add_block]; exact Nat.ne_of_lt (Nat.lt_of_lt_of_le (by have := World.block_lt_of_cell? _ _ hw203_2; first | rwa [add_block] at this | exact this) GW206.out)) | (show (Addr.add _ _).block ≠ _; rw [add_block]; exact Nat.ne_of_lt (Nat.lt_of_lt_of_le (by have := World.block_lt_of_cell? _ _ hw203_2; first | rwa [add_block] at this | exact this) GW206.out)) | (dsimp only; exact Nat.ne_of_lt (Nat.lt_of_lt_of_le (by have := World.block_lt_of_cell? _ _ hw203_2; first | rwa [add_block] at this | exact this) GW206.out))) _).trans (((cell_far (p := ⟨gb206, _, none⟩) (by first | exact Nat.ne_of_lt (Nat.lt_of_lt_of_le (by have := World.block_lt_of_cell? _ _ hw203_2; first | rwa [add_block] at this | exact this) GW206.out) | (rw [add_block]; exact Nat.ne_of_lt (Nat.lt_of_lt_of_le (by have := World.block_lt_of_cell? _ _ hw203_2; first | rwa [add_block] at this | exact this) GW206.out)) | (show (Addr.add _ _).block ≠ _; rw [add_block]; exact Nat.ne_of_lt (Nat.lt_of_lt_of_le (by have := World.block_lt_of_cell? _ _ hw203_2; first | rwa [add_block] at this | exact this) GW206.out)) | (dsimp only; exact Nat.ne_of_lt (Nat.lt_of_lt_of_le (by have := World.block_lt_of_cell? _ _ hw203_2; first | rwa [add_block] at this | exact this) GW206.out))) _).trans (((cell_far (p := ⟨gb206, _, none⟩) (by first | exact Nat.ne_of_lt (Nat.lt_of_lt_of_le (by have := World.block_lt_of_cell? _ _ hw203_2; first | rwa [add_block] at this | exact this) GW206.out) | (rw [add_block]; exact Nat.ne_of_lt (Nat.lt_of_lt_of_le (by have := World.block_lt_of_cell? _ _ hw203_2; first | rwa [add_block] at this | exact this) GW206.out)) | (show (Addr.add _ _).block ≠ _; rw [add_block]; exact Nat.ne_of_lt (Nat.lt_of_lt_of_le (by have := World.block_lt_of_cell? _ _ hw203_2; first | rwa [add_block] at this | exact this) GW206.out)) | (dsimp only; exact Nat.ne_of_lt (Nat.lt_of_lt_of_le (by have := World.block_lt_of_cell? _ _ hw203_2; first | rwa [add_block] at this | exact this) GW206.out))) _).trans (hHeld.2.2.1)))))))), ((cell_far (p := ⟨gb206, _, none⟩) (by first | exact Nat.ne_of_lt (Nat.lt_of_lt_of_le (by have := World.block_lt_of_cell? _ _ hw203_3; first | rwa [add_block] at this | exact this) GW206.out) | (rw [add_block]; exact Nat.ne_of_lt (Nat.lt_of_lt_of_le (by have := World.block_lt_of_cell? _ _ hw203_3; first | rwa [add_block] at this | exact this) GW206.out)) | (show (Addr.add _ _).block ≠ _; rw [add_block]; exact Nat.ne_of_lt (Nat.lt_of_lt_of_le (by have := World.block_lt_of_cell? _ _ hw203_3; first | rwa [add_block] at this | exact this) GW206.out)) | (dsimp only; exact Nat.ne_of_lt (Nat.lt_of_lt_of_le (by have := World.block_lt_of_cell? _ _ hw203_3; first | rwa [add_block] at this | exact this) GW206.out))) _).trans (((cell_far (p := ⟨gb206, _, none⟩) (by first | exact Nat.ne_of_lt (Nat.lt_of_lt_of_le (by have := World.block_lt_of_cell? _ _ hw203_3; first | rwa [add_block] at this | exact this) GW206.out) | (rw [add_block]; exact Nat.ne_of_lt (Nat.lt_of_lt_of_le (by have := World.block_lt_of_cell? _ _ hw203_3; first | rwa [add_block] at this | exact this) GW206.out)) | (show (Addr.add _ _).block ≠ _; rw [add_block]; exact Nat.ne_of_lt (Nat.lt_of_lt_of_le (by have := World.block_lt_of_cell? _ _ hw203_3; first | rwa [add_block] at this | exact this) GW206.out)) | (dsimp only; exact Nat.ne_of_lt (Nat.lt_of_lt_of_le (by have := World.block_lt_of_cell? _ _ hw203_3; first | rwa [add_block] at this | exact this) GW206.out))) _).trans (((cell_far (p := ⟨gb206, _, none⟩) (by first | exact Nat.ne_of_lt (Nat.lt_of_lt_of_le (by have := World.block_lt_of_cell? _ _ hw203_3; first | rwa [add_block] at this | exact this) GW206.out) | (rw [add_block]; exact Nat.ne_of_lt (Nat.lt_of_lt_of_le (by have := World.block_lt_of_cell? _ _ hw203_3; first | rwa [add_block] at this | exact this) GW206.out)) | (show (Addr.add _ _).block ≠ _; rw [add_block]; exact Nat.ne_of_lt (Nat.lt_of_lt_of_le (by have := World.block_lt_of_cell? _ _ hw203_3; first | rwa [add_block] at this | exact this) GW206.out)) | (dsimp only; exact Nat.ne_of_lt (Nat.lt_of_lt_of_le (by have := World.block_lt_of_cell? _ _ hw203_3; first | rwa [add_block] at this | exact this) GW206.out))) _).trans (((cell_far (p := ⟨gb206, _, none⟩) (by first | exact Nat.ne_of_lt (Nat.lt_of_lt_of_le (by have := World.block_lt_of_cell? _ _ hw203_3; first | rwa [add_block] at this | exact this) GW206.out) | (rw [add_block]; exact Nat.ne_of_lt (Nat.lt_of_lt_of_le (by have := World.block_lt_of_cell? _ _ hw203_3; first | rwa [add_block] at this | exact this) GW206.out)) | (show (Addr.add _ _).block ≠ _; rw [add_block]; exact Nat.ne_of_lt (Nat.lt_of_lt_of_le (by have := World.block_lt_of_cell? _ _ hw203_3; first | rwa [add_block] at this | exact this) GW206.out)) | (dsimp only; exact Nat.ne_of_lt (Nat.lt_of_lt_of_le (by have := World.block_lt_of_cell? _ _ hw203_3; first | rwa [add_block] at this | exact this) GW206.out))) _).trans (hHeld.2.2.2.1)))))))), ((cell_far (p := ⟨gb206, _, none⟩) (by first | exact Nat.ne_of_lt (Nat.lt_of_lt_of_le (by have := World.block_lt_of_cell? _ _ hw203_4; first | rwa [add_block] at this | exact this) GW206.out) | (rw [add_block]; exact Nat.ne_of_lt (Nat.lt_of_lt_of_le (by have := World.block_lt_of_cell? _ _ hw203_4; first | rwa [add_block] at this | exact this) GW206.out)) | (show (Addr.add _ _).block ≠ _; rw [add_block]; exact Nat.ne_of_lt (Nat.lt_of_lt_of_le (by have := World.block_lt_of_cell? _ _ hw203_4; first | rwa [add_block] at this | exact this) GW206.out)) | (dsimp only; exact Nat.ne_of_lt (Nat.lt_of_lt_of_le (by have := World.block_lt_of_cell? _ _ hw203_4; first | rwa [add_block] at this | exact this) GW206.out))) _).trans (((cell_far (p := ⟨gb206, _, none⟩) (by first | exact Nat.ne_of_lt (Nat.lt_of_lt_of_le (by have := World.block_lt_of_cell? _ _ hw203_4; first | rwa [add_block] at this | exact this) GW206.out) | (rw [add_block]; exact Nat.ne_of_lt (Nat.lt_of_lt_of_le (by have := World.block_lt_of_cell? _ _ hw203_4; first | rwa [add_block] at this | exact this) GW206.out)) | (show (Addr.add _ _).block ≠ _; rw [add_block]; exact Nat.ne_of_lt (Nat.lt_of_lt_of_le (by have := World.block_lt_of_cell? _ _ hw203_4; first | rwa [add_block] at this | exact this) GW206.out)) | (dsimp only; exact Nat.ne_of_lt (Nat.lt_of_lt_of_le (by have := World.block_lt_of_cell? _ _ hw203_4; first | rwa [add_block] at this | exact this) GW206.out))) _).trans (((cell_far (p := ⟨gb206, _, none⟩) (by first | exact Nat.ne_of_lt (Nat.lt_of_lt_of_le (by have := World.block_lt_of_cell? _ _ hw203_4; first | rwa [add_block] at this | exact this) GW206.out) | (rw [add_block]; exact Nat.ne_of_lt (Nat.lt_of_lt_of_le (by have := World.block_lt_of_cell? _ _ hw203_4; first | rwa [add_block] at this | exact this) GW206.out)) | (show (Addr.add _ _).block ≠ _; rw [add_block]; exact Nat.ne_of_lt (Nat.lt_of_lt_of_le (by have := World.block_lt_of_cell? _ _ hw203_4; first | rwa [add_block] at this | exact this) GW206.out)) | (dsimp only; exact Nat.ne_of_lt (Nat.lt_of_lt_of_le (by have := World.block_lt_of_cell? _ _ hw203_4; first | rwa [add_block] at this | exact this) GW206.out))) _).trans (((cell_far (p := ⟨gb206, _, none⟩) (by first | exact Nat.ne_of_lt (Nat.lt_of_lt_of_le (by have := World.block_lt_of_cell? _ _ hw203_4; first | rwa [add_block] at this | exact this) GW206.out) | (rw [add_block]; exact Nat.ne_of_lt (Nat.lt_of_lt_of_le (by have := World.block_lt_of_cell? _ _ hw203_4; first | rwa [add_block] at this | exact this) GW206.out)) | (show (Addr.add _ _).block ≠ _; rw [add_block]; exact Nat.ne_of_lt (Nat.lt_of_lt_of_le (by have := World.block_lt_of_cell? _ _ hw203_4; first | rwa [add_block] at this | exact this) GW206.out)) | (dsimp only; exact Nat.ne_of_lt (Nat.lt_of_lt_of_le (by have := World.block_lt_of_cell? _ _ hw203_4; first | rwa [add_block] at this | exact this) GW206.out))) _).trans (hHeld.2.2.2.2.1)))))))), ((cell_far (p := ⟨gb206, _, none⟩) (by first | exact Nat.ne_of_lt (Nat.lt_of_lt_of_le (by have := World.block_lt_of_cell? _ _ hw204_0; first | rwa [add_block] at this | exact this) GW206.out) | (rw [add_block]; exact Nat.ne_of_lt (Nat.lt_of_lt_of_le (by have := World.block_lt_of_cell? _ _ hw204_0; first | rwa [add_block] at this | exact this) GW206.out)) | (show (Addr.add _ _).block ≠ _; rw [add_block]; exact Nat.ne_of_lt (Nat.lt_of_lt_of_le (by have := World.block_lt_of_cell? _ _ hw204_0; first | rwa [add_block] at this | exact this) GW206.out)) | (dsimp only; exact Nat.ne_of_lt (Nat.lt_of_lt_of_le (by have := World.block_lt_of_cell? _ _ hw204_0; first | rwa [add_block] at this | exact this) GW206.out))) _).trans (((cell_far (p := ⟨gb206, _, none⟩) (by first | exact Nat.ne_of_lt (Nat.lt_of_lt_of_le (by have := World.block_lt_of_cell? _ _ hw204_0; first | rwa [add_block] at this | exact this) GW206.out) | (rw [add_block]; exact Nat.ne_of_lt (Nat.lt_of_lt_of_le (by have := World.block_lt_of_cell? _ _ hw204_0; first | rwa [add_block] at this | exact this) GW206.out)) | (show (Addr.add _ _).block ≠ _; rw [add_block]; exact Nat.ne_of_lt (Nat.lt_of_lt_of_le (by have := World.block_lt_of_cell? _ _ hw204_0; first | rwa [add_block] at this | exact this) GW206.out)) | (dsimp only; exact Nat.ne_of_lt (Nat.lt_of_lt_of_le (by have := World.block_lt_of_cell? _ _ hw204_0; first | rwa [add_block] at this | exact this) GW206.out))) _).trans (((cell_far (p := ⟨gb206, _, none⟩) (by first | exact Nat.ne_of_lt (Nat.lt_of_lt_of_le (by have := World.block_lt_of_cell? _ _ hw204_0; first | rwa [add_block] at this | exact this) GW206.out) | (rw [add_block]; exact Nat.ne_of_lt (Nat.lt_of_lt_of_le (by have := World.block_lt_of_cell? _ _ hw204_0; first | rwa [add_block] at this | exact this) GW206.out)) | (show (Addr.add _ _).block ≠ _; rw [add_block]; exact Nat.ne_of_lt (Nat.lt_of_lt_of_le (by have := World.block_lt_of_cell? _ _ hw204_0; first | rwa [add_block] at this | exact this) GW206.out)) | (dsimp only; exact Nat.ne_of_lt (Nat.lt_of_lt_of_le (by have := World.block_lt_of_cell? _ _ hw204_0; first | rwa [add_block] at this | exact this) GW206.out))) _).trans (((cell_far (p := ⟨gb206, _, none⟩) (by first | exact Nat.ne_of_lt (Nat.lt_of_lt_of_le (by have := World.block_lt_of_cell? _ _ hw204_0; first | rwa [add_block] at this | exact this) GW206.out) | (rw [add_block]; exact Nat.ne_of_lt (Nat.lt_of_lt_of_le (by have := World.block_lt_of_cell? _ _ hw204_0; first | rwa [add_block] at this | exact this) GW206.out)) | (show (Addr.add _ _).block ≠ _; rw [add_block]; exact Nat.ne_of_lt (Nat.lt_of_lt_of_le (by have := World.block_lt_of_cell? _ _ hw204_0; first | rwa [add_block] at this | exact this) GW206.out)) | (dsimp only; exact Nat.ne_of_lt (Nat.lt_of_lt_of_le (by have := World.block_lt_of_cell? _ _ hw204_0; first | rwa [add_block] at this | exact this) GW206.out))) _).trans (hHeld.2.2.2.2.2.1)))))))), ((cell_far (p := ⟨gb206, _, none⟩) (by first | exact Nat.ne_of_lt (Nat.lt_of_lt_of_le (by have := World.block_lt_of_cell? _ _ hw204_1; first | rwa [add_block] at this | exact this) GW206.out) | (rw [add_block]; exact Nat.ne_of_lt (Nat.lt_of_lt_of_le (by have := World.block_lt_of_cell? _ _ hw204_1; first | rwa [add_block] at this | exact this) GW206.out)) | (show (Addr.add _ _).block ≠ _; rw [add_block]; exact Nat.ne_of_lt (Nat.lt_of_lt_of_le (by have := World.block_lt_of_cell? _ _ hw204_1; first | rwa [add_block] at this | exact this) GW206.out)) | (dsimp only; exact Nat.ne_of_lt (Nat.lt_of_lt_of_le (by have := World.block_lt_of_cell? _ _ hw204_1; first | rwa [add_block] at this | exact this) GW206.out))) _).trans (((cell_far (p := ⟨gb206, _, none⟩) (by first | exact Nat.ne_of_lt (Nat.lt_of_lt_of_le (by have := World.block_lt_of_cell? _ _ hw204_1; first | rwa [add_block] at this | exact this) GW206.out) | (rw [add_block]; exact Nat.ne_of_lt (Nat.lt_of_lt_of_le (by have := World.block_lt_of_cell? _ _ hw204_1; first | rwa [add_block] at this | exact this) GW206.out)) | (show (Addr.add _ _).block ≠ _; rw [add_block]; exact Nat.ne_of_lt (Nat.lt_of_lt_of_le (by have := World.block_lt_of_cell? _ _ hw204_1; first | rwa [add_block] at this | exact this) GW206.out)) | (dsimp only; exact Nat.ne_of_lt (Nat.lt_of_lt_of_le (by have := World.block_lt_of_cell? _ _ hw204_1; first | rwa [add_block] at this | exact this) GW206.out))) _).trans (((cell_far (p := ⟨gb206, _, none⟩) (by first | exact Nat.ne_of_lt (Nat.lt_of_lt_of_le (by have := World.block_lt_of_cell? _ _ hw204_1; first | rwa [add_block] at this | exact this) GW206.out) | (rw [add_block]; exact Nat.ne_of_lt (Nat.lt_of_lt_of_le (by have := World.block_lt_of_cell? _ _ hw204_1; first | rwa [add_block] at this | exact this) GW206.out)) | (show (Addr.add _ _).block ≠ _; rw [add_block]; exact Nat.ne_of_lt (Nat.lt_of_lt_of_le (by have := World.block_lt_of_cell? _ _ hw204_1; first | rwa [add_block] at this | exact this) GW206.out)) | (dsimp only; exact Nat.ne_of_lt (Nat.lt_of_lt_of_le (by have := World.block_lt_of_cell? _ _ hw204_1; first | rwa [add_block] at this | exact this) GW206.out))) _).trans (((cell_far (p := ⟨gb206, _, none⟩) (by first | exact Nat.ne_of_lt (Nat.lt_of_lt_of_le (by have := World.block_lt_of_cell? _ _ hw204_1; first | rwa [add_block] at this | exact this) GW206.out) | (rw [add_block]; exact Nat.ne_of_lt (Nat.lt_of_lt_of_le (by have := World.block_lt_of_cell? _ _ hw204_1; first | rwa [add_block] at this | exact this) GW206.out)) | (show (Addr.add _ _).block ≠ _; rw [add_block]; exact Nat.ne_of_lt (Nat.lt_of_lt_of_le (by have := World.block_lt_of_cell? _ _ hw204_1; first | rwa [add_block] at this | exact this) GW206.out)) | (dsimp only; exact Nat.ne_of_lt (Nat.lt_of_lt_of_le (by have := World.block_lt_of_cell? _ _ hw204_1; first | rwa [add_block] at this | exact this) GW206.out))) _).trans (hHeld.2.2.2.2.2.2.1)))))))), ((cell_far (p := ⟨gb206, _, none⟩) (by first | exact Nat.ne_of_lt (Nat.lt_of_lt_of_le (by have := World.block_lt_of_cell? _ _ hw204_2; first | rwa [add_block] at this | exact this) GW206.out) | (rw [add_block]; exact Nat.ne_of_lt (Nat.lt_of_lt_of_le (by have := World.block_lt_of_cell? _ _ hw204_2; first | rwa [add_block] at this | exact this) GW206.out)) | (show (Addr.add _ _).block ≠ _; rw [add_block]; exact Nat.ne_of_lt (Nat.lt_of_lt_of_le (by have := World.block_lt_of_cell? _ _ hw204_2; first | rwa [add_block] at this | exact this) GW206.out)) | (dsimp only; exact Nat.ne_of_lt (Nat.lt_of_lt_of_le (by have := World.block_lt_of_cell? _ _ hw204_2; first | rwa [add_block] at this | exact this) GW206.out))) _).trans (((cell_far (p := ⟨gb206, _, none⟩) (by first | exact Nat.ne_of_lt (Nat.lt_of_lt_of_le (by have := World.block_lt_of_cell? _ _ hw204_2; first | rwa [add_block] at this | exact this) GW206.out) | (rw [add_block]; exact Nat.ne_of_lt (Nat.lt_of_lt_of_le (by have := World.block_lt_of_cell? _ _ hw204_2; first | rwa [add_block] at this | exact this) GW206.out)) | (show (Addr.add _ _).block ≠ _; rw [add_block]; exact Nat.ne_of_lt (Nat.lt_of_lt_of_le (by have := World.block_lt_of_cell? _ _ hw204_2; first | rwa [add_block] at this | exact this) GW206.out)) | (dsimp only; exact Nat.ne_of_lt (Nat.lt_of_lt_of_le (by have := World.block_lt_of_cell? _ _ hw204_2; first | rwa [add_block] at this | exact this) GW206.out))) _).trans (((cell_far (p := ⟨gb206, _, none⟩) (by first | exact Nat.ne_of_lt (Nat.lt_of_lt_of_le (by have := World.block_lt_of_cell? _ _ hw204_2; first | rwa [add_block] at this | exact this) GW206.out) | (rw [add_block]; exact Nat.ne_of_lt (Nat.lt_of_lt_of_le (by have := World.block_lt_of_cell? _ _ hw204_2; first | rwa [add_block] at this | exact this) GW206.out)) | (show (Addr.add _ _).block ≠ _; rw [add_block]; exact Nat.ne_of_lt (Nat.lt_of_lt_of_le (by have := World.block_lt_of_cell? _ _ hw204_2; first | rwa [add_block] at this | exact this) GW206.out)) | (dsimp only; exact Nat.ne_of_lt (Nat.lt_of_lt_of_le (by have := World.block_lt_of_cell? _ _ hw204_2; first | rwa [add_block] at this | exact this) GW206.out))) _).trans (((cell_far (p := ⟨gb206, _, none⟩) (by first | exact Nat.ne_of_lt (Nat.lt_of_lt_of_le (by have := World.block_lt_of_cell? _ _ hw204_2; first | rwa [add_block] at this | exact this) GW206.out) | (rw [add_block]; exact Nat.ne_of_lt (Nat.lt_of_lt_of_le (by have := World.block_lt_of_cell? _ _ hw204_2; first | rwa [add_block] at this | exact this) GW206.out)) | (show (Addr.add _ _).block ≠ _; rw [add_block]; exact Nat.ne_of_lt (Nat.lt_of_lt_of_le (by have := World.block_lt_of_cell? _ _ hw204_2; first | rwa [add_block] at this | exact this) GW206.out)) | (dsimp only; exact Nat.ne_of_lt (Nat.lt_of_lt_of_le (by have := World.block_lt_of_cell? _ _ hw204_2; first | rwa [add_block] at this | exact this) GW206.out))) _).trans (hHeld.2.2.2.2.2.2.2.1)))))))), ((cell_far (p := ⟨gb206, _, none⟩) (by first | exact Nat.ne_of_lt (Nat.lt_of_lt_of_le (by have := World.block_lt_of_cell? _ _ hw204_3; first | rwa [add_block] at this | exact this) GW206.out) | (rw [add_block]; exact Nat.ne_of_lt (Nat.lt_of_lt_of_le (by have := World.block_lt_of_cell? _ _ hw204_3; first | rwa [add_block] at this | exact this) GW206.out)) | (show (Addr.add _ _).block ≠ _; rw [add_block]; exact Nat.ne_of_lt (Nat.lt_of_lt_of_le (by have := World.block_lt_of_cell? _ _ hw204_3; first | rwa [add_block] at this | exact this) GW206.out)) | (dsimp only; exact Nat.ne_of_lt (Nat.lt_of_lt_of_le (by have := World.block_lt_of_cell? _ _ hw204_3; first | rwa [add_block] at this | exact this) GW206.out))) _).trans (((cell_far (p := ⟨gb206, _, none⟩) (by first | exact Nat.ne_of_lt (Nat.lt_of_lt_of_le (by have := World.block_lt_of_cell? _ _ hw204_3; first | rwa [add_block] at this | exact this) GW206.out) | (rw [add_block]; exact Nat.ne_of_lt (Nat.lt_of_lt_of_le (by have := World.block_lt_of_cell? _ _ hw204_3; first | rwa [add_block] at this | exact this) GW206.out)) | (show (Addr.add _ _).block ≠ _; rw [add_block]; exact Nat.ne_of_lt (Nat.lt_of_lt_of_le (by have := World.block_lt_of_cell? _ _ hw204_3; first | rwa [add_block] at this | exact this) GW206.out)) | (dsimp only; exact Nat.ne_of_lt (Nat.lt_of_lt_of_le (by have := World.block_lt_of_cell? _ _ hw204_3; first | rwa [add_block] at this | exact this) GW206.out))) _).trans (((cell_far (p := ⟨gb206, _, none⟩) (by first | exact Nat.ne_of_lt (Nat.lt_of_lt_of_le (by have := World.block_lt_of_cell? _ _ hw204_3; first | rwa [add_block] at this | exact this) GW206.out) | (rw [add_block]; exact Nat.ne_of_lt (Nat.lt_of_lt_of_le (by have := World.block_lt_of_cell? _ _ hw204_3; first | rwa [add_block] at this | exact this) GW206.out)) | (show (Addr.add _ _).block ≠ _; rw [add_block]; exact Nat.ne_of_lt (Nat.lt_of_lt_of_le (by have := World.block_lt_of_cell? _ _ hw204_3; first | rwa [add_block] at this | exact this) GW206.out)) | (dsimp only; exact Nat.ne_of_lt (Nat.lt_of_lt_of_le (by have := World.block_lt_of_cell? _ _ hw204_3; first | rwa [add_block] at this | exact this) GW206.out))) _).trans (((cell_far (p := ⟨gb206, _, none⟩) (by first | exact Nat.ne_of_lt (Nat.lt_of_lt_of_le (by have := World.block_lt_of_cell? _ _ hw204_3; first | rwa [add_block] at this | exact this) GW206.out) | (rw [add_block]; exact Nat.ne_of_lt (Nat.lt_of_lt_of_le (by have := World.block_lt_of_cell? _ _ hw204_3; first | rwa [add_block] at this | exact this) GW206.out)) | (show (Addr.add _ _).block ≠ _; rw [add_block]; exact Nat.ne_of_lt (Nat.lt_of_lt_of_le (by have := World.block_lt_of_cell? _ _ hw204_3; first | rwa [add_block] at this | exact this) GW206.out)) | (dsimp only; exact Nat.ne_of_lt (Nat.lt_of_lt_of_le (by have := World.block_lt_of_cell? _ _ hw204_3; first | rwa [add_block] at this | exact this) GW206.out))) _).trans (hHeld.2.2.2.2.2.2.2.2.1)))))))), ((cell_far (p := ⟨gb206, _, none⟩) (by first | exact Nat.ne_of_lt (Nat.lt_of_lt_of_le (by have := World.block_lt_of_cell? _ _ hw204_4; first | rwa [add_block] at this | exact this) GW206.out) | (rw [add_block]; exact Nat.ne_of_lt (Nat.lt_of_lt_of_le (by have := World.block_lt_of_cell? _ _ hw204_4; first | rwa [add_block] at this | exact this) GW206.out)) | (show (Addr.add _ _).block ≠ _; rw [add_block]; exact Nat.ne_of_lt (Nat.lt_of_lt_of_le (by have := World.block_lt_of_cell? _ _ hw204_4; first | rwa [add_block] at this | exact this) GW206.out)) | (dsimp only; exact Nat.ne_of_lt (Nat.lt_of_lt_of_le (by have := World.block_lt_of_cell? _ _ hw204_4; first | rwa [add_block] at this | exact this) GW206.out))) _).trans (((cell_far (p := ⟨gb206, _, none⟩) (by first | exact Nat.ne_of_lt (Nat.lt_of_lt_of_le (by have := World.block_lt_of_cell? _ _ hw204_4; first | rwa [add_block] at this | exact this) GW206.out) | (rw [add_block]; exact Nat.ne_of_lt (Nat.lt_of_lt_of_le (by have := World.block_lt_of_cell? _ _ hw204_4; first | rwa [add_block] at this | exact this) GW206.out)) | (show (Addr.add _ _).block ≠ _; rw [add_block]; exact Nat.ne_of_lt (Nat.lt_of_lt_of_le (by have := World.block_lt_of_cell? _ _ hw204_4; first | rwa [add_block] at this | exact this) GW206.out)) | (dsimp only; exact Nat.ne_of_lt (Nat.lt_of_lt_of_le (by have := World.block_lt_of_cell? _ _ hw204_4; first | rwa [add_block] at this | exact this) GW206.out))) _).trans (((cell_far (p := ⟨gb206, _, none⟩) (by first | exact Nat.ne_of_lt (Nat.lt_of_lt_of_le (by have := World.block_lt_of_cell? _ _ hw204_4; first | rwa [add_block] at this | exact this) GW206.out) | (rw [add_block]; exact Nat.ne_of_lt (Nat.lt_of_lt_of_le (by have := World.block_lt_of_cell? _ _ hw204_4; first | rwa [add_block] at this | exact this) GW206.out)) | (show (Addr.add _ _).block ≠ _; rw [add_block]; exact Nat.ne_of_lt (Nat.lt_of_lt_of_le (by have := World.block_lt_of_cell? _ _ hw204_4; first | rwa [add_block] at this | exact this) GW206.out)) | (dsimp only; exact Nat.ne_of_lt (Nat.lt_of_lt_of_le (by have := World.block_lt_of_cell? _ _ hw204_4; first | rwa [add_block] at this | exact this) GW206.out))) _).trans (((cell_far (p := ⟨gb206, _, none⟩) (by first | exact Nat.ne_of_lt (Nat.lt_of_lt_of_le (by have := World.block_lt_of_cell? _ _ hw204_4; first | rwa [add_block] at this | exact this) GW206.out) | (rw [add_block]; exact Nat.ne_of_lt (Nat.lt_of_lt_of_le (by have := World.block_lt_of_cell? _ _ hw204_4; first | rwa [add_block] at this | exact this) GW206.out)) | (show (Addr.add _ _).block ≠ _; rw [add_block]; exact Nat.ne_of_lt (Nat.lt_of_lt_of_le (by have := World.block_lt_of_cell? _ _ hw204_4; first | rwa [add_block] at this | exact this) GW206.out)) | (dsimp only; exact Nat.ne_of_lt (Nat.lt_of_lt_of_le (by have := World.block_lt_of_cell? _ _ hw204_4; first | rwa [add_block] at this | exact this) GW206.out))) _).trans (hHeld.2.2.2.2.2.2.2.2.2))))))))⟩ (fun hHeld => ?_)
     clear hK K
     refine done_ (done_of HT_.out (by kernel_rfl)) ?_
     try go_wp2_with (first | ((with_reducible refine gate_dst (N := 9) rfl ?_); refine box_event ?hg (N := 9) ?hd (cs := #[.int .i64 0, .int .i64 0, .int .i64 0, .int .i64 0]) (t := 27) ?hr ?_; (case hd => rfl); (case hg => rfl); (case hr => first | (go_simp; done) | (go_simp; rfl)); intro gb207 hg w32 hbox hb; have n0_ := Aside0.mk (blk_below (g := gb202) (o := .cells #[.int .i64 t198, .int .i64 t199, .int .i64 t200, .int .i64 t201] 27 (0, 0)) (by (with_reducible repeat (first | refine blk_drewN ?_ _ | refine blk_drew ?_ | refine blk_alloc ?_ _)); refine blk_far ?_ NB202_206.out _; (with_reducible repeat (first | refine blk_drewN ?_ _ | refine blk_drew ?_ | refine blk_alloc ?_ _)); refine blk_far ?_ NB202_206.out _; (with_reducible repeat (first | refine blk_drewN ?_ _ | refine blk_drew ?_ | refine blk_alloc ?_ _)); refine blk_far ?_ NB202_206.out _; (with_reducible repeat (first | refine blk_drewN ?_ _ | refine blk_drew ?_ | refine blk_alloc ?_ _)); refine blk_far ?_ NB202_206.out _; (with_reducible repeat (first | refine blk_drewN ?_ _ | refine blk_drew ?_ | refine blk_alloc ?_ _)); refine blk_far ?_ NB202_205.out _; (with_reducible repeat (first | refine blk_drewN ?_ _ | refine blk_drew ?_ | refine blk_alloc ?_ _)); refine blk_far ?_ NB202_205.out _; (with_reducible repeat (first | refine blk_drewN ?_ _ | refine blk_drew ?_ | refine blk_alloc ?_ _)); refine blk_far ?_ NB202_205.out _; (with_reducible repeat (first | refine blk_drewN ?_ _ | refine blk_drew ?_ | refine blk_alloc ?_ _)); refine blk_far ?_ NB202_205.out _; (with_reducible repeat (first | refine blk_drewN ?_ _ | refine blk_drew ?_ | refine blk_alloc ?_ _)); exact BK202.out) hb); have n1_ := Aside0.mk (blk_below (g := gb205) (o := .cells #[.int .i64 ((rd_T32 l0 0).f1.f0), .int .i64 ((rd_T32 l0 0).f1.f1), .int .i64 ((rd_T32 l0 0).f1.f2), .int .i64 ((rd_T32 l0 0).f1.f3)] 27 (0, 0)) (by (with_reducible repeat (first | refine blk_drewN ?_ _ | refine blk_drew ?_ | refine blk_alloc ?_ _)); refine blk_far ?_ NB205_206.out _; (with_reducible repeat (first | refine blk_drewN ?_ _ | refine blk_drew ?_ | refine blk_alloc ?_ _)); refine blk_far ?_ NB205_206.out _; (with_reducible repeat (first | refine blk_drewN ?_ _ | refine blk_drew ?_ | refine blk_alloc ?_ _)); refine blk_far ?_ NB205_206.out _; (with_reducible repeat (first | refine blk_drewN ?_ _ | refine blk_drew ?_ | refine blk_alloc ?_ _)); refine blk_far ?_ NB205_206.out _; (with_reducible repeat (first | refine blk_drewN ?_ _ | refine blk_drew ?_ | refine blk_alloc ?_ _)); refine blk_put (cs := #[.int .i64 ((rd_T32 l0 0).f1.f0), .int .i64 ((rd_T32 l0 0).f1.f1), .int .i64 ((rd_T32 l0 0).f1.f2), .int .i64 0]) ?_ 3 _ rfl; (with_reducible repeat (first | refine blk_drewN ?_ _ | refine blk_drew ?_ | refine blk_alloc ?_ _)); refine blk_put (cs := #[.int .i64 ((rd_T32 l0 0).f1.f0), .int .i64 ((rd_T32 l0 0).f1.f1), .int .i64 0, .int .i64 0]) ?_ 2 _ rfl; (with_reducible repeat (first | refine blk_drewN ?_ _ | refine blk_drew ?_ | refine blk_alloc ?_ _)); refine blk_put (cs := #[.int .i64 ((rd_T32 l0 0).f1.f0), .int .i64 0, .int .i64 0, .int .i64 0]) ?_ 1 _ rfl; (with_reducible repeat (first | refine blk_drewN ?_ _ | refine blk_drew ?_ | refine blk_alloc ?_ _)); refine blk_put (cs := #[.int .i64 0, .int .i64 0, .int .i64 0, .int .i64 0]) ?_ 0 _ rfl; (with_reducible repeat (first | refine blk_drewN ?_ _ | refine blk_drew ?_ | refine blk_alloc ?_ _)); exact BK205.out) hb); have n2_ := Aside0.mk (blk_below (g := gb206) (o := .cells #[.int .i64 ((rd_T32 l0 0).f1.f0), .int .i64 ((rd_T32 l0 0).f1.f1), .int .i64 ((rd_T32 l0 0).f1.f2), .int .i64 ((rd_T32 l0 0).f1.f3)] 27 (0, 0)) (by (with_reducible repeat (first | refine blk_drewN ?_ _ | refine blk_drew ?_ | refine blk_alloc ?_ _)); refine blk_put (cs := #[.int .i64 ((rd_T32 l0 0).f1.f0), .int .i64 ((rd_T32 l0 0).f1.f1), .int .i64 ((rd_T32 l0 0).f1.f2), .int .i64 0]) ?_ 3 _ rfl; (with_reducible repeat (first | refine blk_drewN ?_ _ | refine blk_drew ?_ | refine blk_alloc ?_ _)); refine blk_put (cs := #[.int .i64 ((rd_T32 l0 0).f1.f0), .int .i64 ((rd_T32 l0 0).f1.f1), .int .i64 0, .int .i64 0]) ?_ 2 _ rfl; (with_reducible repeat (first | refine blk_drewN ?_ _ | refine blk_drew ?_ | refine blk_alloc ?_ _)); refine blk_put (cs := #[.int .i64 ((rd_T32 l0 0).f1.f0), .int .i64 0, .int .i64 0, .int .i64 0]) ?_ 1 _ rfl; (with_reducible repeat (first | refine blk_drewN ?_ _ | refine blk_drew ?_ | refine blk_alloc ?_ _)); refine blk_put (cs := #[.int .i64 0, .int .i64 0, .int .i64 0, .int .i64 0]) ?_ 0 _ rfl; (with_reducible repeat (first | refine blk_drewN ?_ _ | refine blk_drew ?_ | refine blk_alloc ?_ _)); refine blk_far ?_ NB206_205.out _; (with_reducible repeat (first | refine blk_drewN ?_ _ | refine blk_drew ?_ | refine blk_alloc ?_ _)); refine blk_far ?_ NB206_205.out _; (with_reducible repeat (first | refine blk_drewN ?_ _ | refine blk_drew ?_ | refine blk_alloc ?_ _)); refine blk_far ?_ NB206_205.out _; (with_reducible repeat (first | refine blk_drewN ?_ _ | refine blk_drew ?_ | refine blk_alloc ?_ _)); refine blk_far ?_ NB206_205.out _; (with_reducible repeat (first | refine blk_drewN ?_ _ | refine blk_drew ?_ | refine blk_alloc ?_ _)); exact BK206.out) hb); have n3_ := Aside0.mk (below_step (by repeat (first | (with_reducible first | exact HB.out | apply below_alloc | apply pw_below_drewN | apply below_drew1 | refine below_set ?_ GE202.out | refine below_set ?_ GE205.out | refine below_set ?_ GE206.out) | exact HB.out)) hb); have n4_ := Aside0.mk (hbox); have n5_ := Aside0.mk ((by rw [hg]; exact (below_size (by repeat (first | (with_reducible first | exact HB.out | apply below_alloc | apply pw_below_drewN | apply below_drew1 | refine below_set ?_ GE202.out | refine below_set ?_ GE205.out | refine below_set ?_ GE206.out) | exact HB.out))) : w.heap.size ≤ gb207)); have n6_ := Aside0.mk ((by rw [hg]; exact (below_size (by repeat (first | (with_reducible first | exact HB.out | apply below_alloc | apply pw_below_drewN | apply below_drew1 | refine below_set ?_ GE202.out | refine below_set ?_ GE205.out | refine below_set ?_ GE206.out) | exact HB.out))) : w.heap.size ≤ gb207)); have n7_ := Aside0.mk ((by rw [hg]; exact Nat.ne_of_lt (blk_lt (g := gb202) (o := .cells #[.int .i64 t198, .int .i64 t199, .int .i64 t200, .int .i64 t201] 27 (0, 0)) (by (with_reducible repeat (first | refine blk_drewN ?_ _ | refine blk_drew ?_ | refine blk_alloc ?_ _)); refine blk_far ?_ NB202_206.out _; (with_reducible repeat (first | refine blk_drewN ?_ _ | refine blk_drew ?_ | refine blk_alloc ?_ _)); refine blk_far ?_ NB202_206.out _; (with_reducible repeat (first | refine blk_drewN ?_ _ | refine blk_drew ?_ | refine blk_alloc ?_ _)); refine blk_far ?_ NB202_206.out _; (with_reducible repeat (first | refine blk_drewN ?_ _ | refine blk_drew ?_ | refine blk_alloc ?_ _)); refine blk_far ?_ NB202_206.out _; (with_reducible repeat (first | refine blk_drewN ?_ _ | refine blk_drew ?_ | refine blk_alloc ?_ _)); refine blk_far ?_ NB202_205.out _; (with_reducible repeat (first | refine blk_drewN ?_ _ | refine blk_drew ?_ | refine blk_alloc ?_ _)); refine blk_far ?_ NB202_205.out _; (with_reducible repeat (first | refine blk_drewN ?_ _ | refine blk_drew ?_ | refine blk_alloc ?_ _)); refine blk_far ?_ NB202_205.out _; (with_reducible repeat (first | refine blk_drewN ?_ _ | refine blk_drew ?_ | refine blk_alloc ?_ _)); refine blk_far ?_ NB202_205.out _; (with_reducible repeat (first | refine blk_drewN ?_ _ | refine blk_drew ?_ | refine blk_alloc ?_ _)); exact BK202.out)) : gb202 ≠ gb207)); have n8_ := Aside0.mk ((by rw [hg]; exact Nat.ne_of_gt (blk_lt (g := gb202) (o := .cells #[.int .i64 t198, .int .i64 t199, .int .i64 t200, .int .i64 t201] 27 (0, 0)) (by (with_reducible repeat (first | refine blk_drewN ?_ _ | refine blk_drew ?_ | refine blk_alloc ?_ _)); refine blk_far ?_ NB202_206.out _; (with_reducible repeat (first | refine blk_drewN ?_ _ | refine blk_drew ?_ | refine blk_alloc ?_ _)); refine blk_far ?_ NB202_206.out _; (with_reducible repeat (first | refine blk_drewN ?_ _ | refine blk_drew ?_ | refine blk_alloc ?_ _)); refine blk_far ?_ NB202_206.out _; (with_reducible repeat (first | refine blk_drewN ?_ _ | refine blk_drew ?_ | refine blk_alloc ?_ _)); refine blk_far ?_ NB202_206.out _; (with_reducible repeat (first | refine blk_drewN ?_ _ | refine blk_drew ?_ | refine blk_alloc ?_ _)); refine blk_far ?_ NB202_205.out _; (with_reducible repeat (first | refine blk_drewN ?_ _ | refine blk_drew ?_ | refine blk_alloc ?_ _)); refine blk_far ?_ NB202_205.out _; (with_reducible repeat (first | refine blk_drewN ?_ _ | refine blk_drew ?_ | refine blk_alloc ?_ _)); refine blk_far ?_ NB202_205.out _; (with_reducible repeat (first | refine blk_drewN ?_ _ | refine blk_drew ?_ | refine blk_alloc ?_ _)); refine blk_far ?_ NB202_205.out _; (with_reducible repeat (first | refine blk_drewN ?_ _ | refine blk_drew ?_ | refine blk_alloc ?_ _)); exact BK202.out)) : gb207 ≠ gb202)); have n9_ := Aside0.mk ((by rw [hg]; exact Nat.ne_of_lt (blk_lt (g := gb205) (o := .cells #[.int .i64 ((rd_T32 l0 0).f1.f0), .int .i64 ((rd_T32 l0 0).f1.f1), .int .i64 ((rd_T32 l0 0).f1.f2), .int .i64 ((rd_T32 l0 0).f1.f3)] 27 (0, 0)) (by (with_reducible repeat (first | refine blk_drewN ?_ _ | refine blk_drew ?_ | refine blk_alloc ?_ _)); refine blk_far ?_ NB205_206.out _; (with_reducible repeat (first | refine blk_drewN ?_ _ | refine blk_drew ?_ | refine blk_alloc ?_ _)); refine blk_far ?_ NB205_206.out _; (with_reducible repeat (first | refine blk_drewN ?_ _ | refine blk_drew ?_ | refine blk_alloc ?_ _)); refine blk_far ?_ NB205_206.out _; (with_reducible repeat (first | refine blk_drewN ?_ _ | refine blk_drew ?_ | refine blk_alloc ?_ _)); refine blk_far ?_ NB205_206.out _; (with_reducible repeat (first | refine blk_drewN ?_ _ | refine blk_drew ?_ | refine blk_alloc ?_ _)); refine blk_put (cs := #[.int .i64 ((rd_T32 l0 0).f1.f0), .int .i64 ((rd_T32 l0 0).f1.f1), .int .i64 ((rd_T32 l0 0).f1.f2), .int .i64 0]) ?_ 3 _ rfl; (with_reducible repeat (first | refine blk_drewN ?_ _ | refine blk_drew ?_ | refine blk_alloc ?_ _)); refine blk_put (cs := #[.int .i64 ((rd_T32 l0 0).f1.f0), .int .i64 ((rd_T32 l0 0).f1.f1), .int .i64 0, .int .i64 0]) ?_ 2 _ rfl; (with_reducible repeat (first | refine blk_drewN ?_ _ | refine blk_drew ?_ | refine blk_alloc ?_ _)); refine blk_put (cs := #[.int .i64 ((rd_T32 l0 0).f1.f0), .int .i64 0, .int .i64 0, .int .i64 0]) ?_ 1 _ rfl; (with_reducible repeat (first | refine blk_drewN ?_ _ | refine blk_drew ?_ | refine blk_alloc ?_ _)); refine blk_put (cs := #[.int .i64 0, .int .i64 0, .int .i64 0, .int .i64 0]) ?_ 0 _ rfl; (with_reducible repeat (first | refine blk_drewN ?_ _ | refine blk_drew ?_ | refine blk_alloc ?_ _)); exact BK205.out)) : gb205 ≠ gb207)); have n10_ := Aside0.mk ((by rw [hg]; exact Nat.ne_of_gt (blk_lt (g := gb205) (o := .cells #[.int .i64 ((rd_T32 l0 0).f1.f0), .int .i64 ((rd_T32 l0 0).f1.f1), .int .i64 ((rd_T32 l0 0).f1.f2), .int .i64 ((rd_T32 l0 0).f1.f3)] 27 (0, 0)) (by (with_reducible repeat (first | refine blk_drewN ?_ _ | refine blk_drew ?_ | refine blk_alloc ?_ _)); refine blk_far ?_ NB205_206.out _; (with_reducible repeat (first | refine blk_drewN ?_ _ | refine blk_drew ?_ | refine blk_alloc ?_ _)); refine blk_far ?_ NB205_206.out _; (with_reducible repeat (first | refine blk_drewN ?_ _ | refine blk_drew ?_ | refine blk_alloc ?_ _)); refine blk_far ?_ NB205_206.out _; (with_reducible repeat (first | refine blk_drewN ?_ _ | refine blk_drew ?_ | refine blk_alloc ?_ _)); refine blk_far ?_ NB205_206.out _; (with_reducible repeat (first | refine blk_drewN ?_ _ | refine blk_drew ?_ | refine blk_alloc ?_ _)); refine blk_put (cs := #[.int .i64 ((rd_T32 l0 0).f1.f0), .int .i64 ((rd_T32 l0 0).f1.f1), .int .i64 ((rd_T32 l0 0).f1.f2), .int .i64 0]) ?_ 3 _ rfl; (with_reducible repeat (first | refine blk_drewN ?_ _ | refine blk_drew ?_ | refine blk_alloc ?_ _)); refine blk_put (cs := #[.int .i64 ((rd_T32 l0 0).f1.f0), .int .i64 ((rd_T32 l0 0).f1.f1), .int .i64 0, .int .i64 0]) ?_ 2 _ rfl; (with_reducible repeat (first | refine blk_drewN ?_ _ | refine blk_drew ?_ | refine blk_alloc ?_ _)); refine blk_put (cs := #[.int .i64 ((rd_T32 l0 0).f1.f0), .int .i64 0, .int .i64 0, .int .i64 0]) ?_ 1 _ rfl; (with_reducible repeat (first | refine blk_drewN ?_ _ | refine blk_drew ?_ | refine blk_alloc ?_ _)); refine blk_put (cs := #[.int .i64 0, .int .i64 0, .int .i64 0, .int .i64 0]) ?_ 0 _ rfl; (with_reducible repeat (first | refine blk_drewN ?_ _ | refine blk_drew ?_ | refine blk_alloc ?_ _)); exact BK205.out)) : gb207 ≠ gb205)); have n11_ := Aside0.mk ((by rw [hg]; exact Nat.ne_of_lt (blk_lt (g := gb206) (o := .cells #[.int .i64 ((rd_T32 l0 0).f1.f0), .int .i64 ((rd_T32 l0 0).f1.f1), .int .i64 ((rd_T32 l0 0).f1.f2), .int .i64 ((rd_T32 l0 0).f1.f3)] 27 (0, 0)) (by (with_reducible repeat (first | refine blk_drewN ?_ _ | refine blk_drew ?_ | refine blk_alloc ?_ _)); refine blk_put (cs := #[.int .i64 ((rd_T32 l0 0).f1.f0), .int .i64 ((rd_T32 l0 0).f1.f1), .int .i64 ((rd_T32 l0 0).f1.f2), .int .i64 0]) ?_ 3 _ rfl; (with_reducible repeat (first | refine blk_drewN ?_ _ | refine blk_drew ?_ | refine blk_alloc ?_ _)); refine blk_put (cs := #[.int .i64 ((rd_T32 l0 0).f1.f0), .int .i64 ((rd_T32 l0 0).f1.f1), .int .i64 0, .int .i64 0]) ?_ 2 _ rfl; (with_reducible repeat (first | refine blk_drewN ?_ _ | refine blk_drew ?_ | refine blk_alloc ?_ _)); refine blk_put (cs := #[.int .i64 ((rd_T32 l0 0).f1.f0), .int .i64 0, .int .i64 0, .int .i64 0]) ?_ 1 _ rfl; (with_reducible repeat (first | refine blk_drewN ?_ _ | refine blk_drew ?_ | refine blk_alloc ?_ _)); refine blk_put (cs := #[.int .i64 0, .int .i64 0, .int .i64 0, .int .i64 0]) ?_ 0 _ rfl; (with_reducible repeat (first | refine blk_drewN ?_ _ | refine blk_drew ?_ | refine blk_alloc ?_ _)); refine blk_far ?_ NB206_205.out _; (with_reducible repeat (first | refine blk_drewN ?_ _ | refine blk_drew ?_ | refine blk_alloc ?_ _)); refine blk_far ?_ NB206_205.out _; (with_reducible repeat (first | refine blk_drewN ?_ _ | refine blk_drew ?_ | refine blk_alloc ?_ _)); refine blk_far ?_ NB206_205.out _; (with_reducible repeat (first | refine blk_drewN ?_ _ | refine blk_drew ?_ | refine blk_alloc ?_ _)); refine blk_far ?_ NB206_205.out _; (with_reducible repeat (first | refine blk_drewN ?_ _ | refine blk_drew ?_ | refine blk_alloc ?_ _)); exact BK206.out)) : gb206 ≠ gb207)); have n12_ := Aside0.mk ((by rw [hg]; exact Nat.ne_of_gt (blk_lt (g := gb206) (o := .cells #[.int .i64 ((rd_T32 l0 0).f1.f0), .int .i64 ((rd_T32 l0 0).f1.f1), .int .i64 ((rd_T32 l0 0).f1.f2), .int .i64 ((rd_T32 l0 0).f1.f3)] 27 (0, 0)) (by (with_reducible repeat (first | refine blk_drewN ?_ _ | refine blk_drew ?_ | refine blk_alloc ?_ _)); refine blk_put (cs := #[.int .i64 ((rd_T32 l0 0).f1.f0), .int .i64 ((rd_T32 l0 0).f1.f1), .int .i64 ((rd_T32 l0 0).f1.f2), .int .i64 0]) ?_ 3 _ rfl; (with_reducible repeat (first | refine blk_drewN ?_ _ | refine blk_drew ?_ | refine blk_alloc ?_ _)); refine blk_put (cs := #[.int .i64 ((rd_T32 l0 0).f1.f0), .int .i64 ((rd_T32 l0 0).f1.f1), .int .i64 0, .int .i64 0]) ?_ 2 _ rfl; (with_reducible repeat (first | refine blk_drewN ?_ _ | refine blk_drew ?_ | refine blk_alloc ?_ _)); refine blk_put (cs := #[.int .i64 ((rd_T32 l0 0).f1.f0), .int .i64 0, .int .i64 0, .int .i64 0]) ?_ 1 _ rfl; (with_reducible repeat (first | refine blk_drewN ?_ _ | refine blk_drew ?_ | refine blk_alloc ?_ _)); refine blk_put (cs := #[.int .i64 0, .int .i64 0, .int .i64 0, .int .i64 0]) ?_ 0 _ rfl; (with_reducible repeat (first | refine blk_drewN ?_ _ | refine blk_drew ?_ | refine blk_alloc ?_ _)); refine blk_far ?_ NB206_205.out _; (with_reducible repeat (first | refine blk_drewN ?_ _ | refine blk_drew ?_ | refine blk_alloc ?_ _)); refine blk_far ?_ NB206_205.out _; (with_reducible repeat (first | refine blk_drewN ?_ _ | refine blk_drew ?_ | refine blk_alloc ?_ _)); refine blk_far ?_ NB206_205.out _; (with_reducible repeat (first | refine blk_drewN ?_ _ | refine blk_drew ?_ | refine blk_alloc ?_ _)); refine blk_far ?_ NB206_205.out _; (with_reducible repeat (first | refine blk_drewN ?_ _ | refine blk_drew ?_ | refine blk_alloc ?_ _)); exact BK206.out)) : gb207 ≠ gb206)); clear BK202; clear BK205; clear BK206; clear HB; have BK202 := n0_; have BK205 := n1_; have BK206 := n2_; have HB := n3_; have BK207 := n4_; have GW207 := n5_; have GE207 := n6_; have NB202_207 := n7_; have NB207_202 := n8_; have NB205_207 := n9_; have NB207_205 := n10_; have NB206_207 := n11_; have NB207_206 := n12_; clear n0_ n1_ n2_ n3_ n4_ n5_ n6_ n7_ n8_ n9_ n10_ n11_ n12_; clear hb hbox hg; have hnb33 := NB207_202.out; have hnc33 := NB202_207.out; have hnb34 := NB207_205.out; have hnc34 := NB205_207.out; have hnb35 := NB207_206.out; have hnc35 := NB206_207.out; have hcz36_0 : w32.cell? ⟨gb207, 0, none⟩ = some (.int .i64 0) := (blk_cell BK207.out 0).trans rfl; have hcz36_1 : w32.cell? ⟨gb207, 1, none⟩ = some (.int .i64 0) := (blk_cell BK207.out 1).trans rfl; have hcz36_2 : w32.cell? ⟨gb207, 2, none⟩ = some (.int .i64 0) := (blk_cell BK207.out 2).trans rfl; have hcz36_3 : w32.cell? ⟨gb207, 3, none⟩ = some (.int .i64 0) := (blk_cell BK207.out 3).trans rfl; have hfz36_0 := blk_frozen BK207.out 0; have hfz36_1 := blk_frozen BK207.out 1; have hfz36_2 := blk_frozen BK207.out 2; have hfz36_3 := blk_frozen BK207.out 3))
     go_loopg [8, 44] kj2 (fun kq v8 v44 w' => ∃ (x8_2 : Int) (x44_2 : Int) (x206000_2 : Int) (x206001_2 : Int) (x206002_2 : Int) (x206003_2 : Int) (x207000_2 : Int) (x207001_2 : Int) (x207002_2 : Int) (x207003_2 : Int) (x208000_2 : Int) (x208001_2 : Int) (x208002_2 : Int) (x208003_2 : Int), v8 = .int .i64 x8_2 ∧ v44 = .int .i64 x44_2 ∧ Aside0 (celluloidlaw19_RampLies.l0 kq a1 x8_2 l0 (l0.length : Int) x44_2 t198 t199 t200 t201 x206000_2 x206001_2 x206002_2 x206003_2 x207000_2 x207001_2 x207002_2 x207003_2 x208000_2 x208001_2 x208002_2 x208003_2 = some r) ∧ Aside0 (kq ≤ kj2) ∧ Aside0 (w'.heap[gb202]? = some (.cells #[.int .i64 t198, .int .i64 t199, .int .i64 t200, .int .i64 t201] 27 (0, 0))) ∧ Aside0 (w'.heap[gb205]? = some (.cells #[.int .i64 x206000_2, .int .i64 x206001_2, .int .i64 x206002_2, .int .i64 x206003_2] 27 (0, 0))) ∧ Aside0 (w'.heap[gb206]? = some (.cells #[.int .i64 x207000_2, .int .i64 x207001_2, .int .i64 x207002_2, .int .i64 x207003_2] 27 (0, 0))) ∧ Aside0 (w'.heap[gb207]? = some (.cells #[.int .i64 x208000_2, .int .i64 x208001_2, .int .i64 x208002_2, .int .i64 x208003_2] 27 (0, 0))) ∧ Aside0 (Below w.heap.size w w'))
     case atStart => exact ⟨(0), (0), ((rd_T32 l0 0).f1.f0), ((rd_T32 l0 0).f1.f1), ((rd_T32 l0 0).f1.f2), ((rd_T32 l0 0).f1.f3), ((rd_T32 l0 0).f1.f0), ((rd_T32 l0 0).f1.f1), ((rd_T32 l0 0).f1.f2), ((rd_T32 l0 0).f1.f3), (0), (0), (0), (0), (by first | rfl | (simp; done) | (simp [*]; done)), (by first | rfl | (simp; done) | (simp [*]; done)), H', ⟨Nat.le_refl _⟩, ⟨by (with_reducible repeat (first | refine blk_drewN ?_ _ | refine blk_drew ?_ | refine blk_alloc ?_ _)); refine blk_far ?_ NB202_207.out _; (with_reducible repeat (first | refine blk_drewN ?_ _ | refine blk_drew ?_ | refine blk_alloc ?_ _)); refine blk_far ?_ NB202_207.out _; (with_reducible repeat (first | refine blk_drewN ?_ _ | refine blk_drew ?_ | refine blk_alloc ?_ _)); refine blk_far ?_ NB202_207.out _; (with_reducible repeat (first | refine blk_drewN ?_ _ | refine blk_drew ?_ | refine blk_alloc ?_ _)); refine blk_far ?_ NB202_207.out _; (with_reducible repeat (first | refine blk_drewN ?_ _ | refine blk_drew ?_ | refine blk_alloc ?_ _)); exact BK202.out⟩, ⟨by (with_reducible repeat (first | refine blk_drewN ?_ _ | refine blk_drew ?_ | refine blk_alloc ?_ _)); refine blk_far ?_ NB205_207.out _; (with_reducible repeat (first | refine blk_drewN ?_ _ | refine blk_drew ?_ | refine blk_alloc ?_ _)); refine blk_far ?_ NB205_207.out _; (with_reducible repeat (first | refine blk_drewN ?_ _ | refine blk_drew ?_ | refine blk_alloc ?_ _)); refine blk_far ?_ NB205_207.out _; (with_reducible repeat (first | refine blk_drewN ?_ _ | refine blk_drew ?_ | refine blk_alloc ?_ _)); refine blk_far ?_ NB205_207.out _; (with_reducible repeat (first | refine blk_drewN ?_ _ | refine blk_drew ?_ | refine blk_alloc ?_ _)); exact BK205.out⟩, ⟨by (with_reducible repeat (first | refine blk_drewN ?_ _ | refine blk_drew ?_ | refine blk_alloc ?_ _)); refine blk_far ?_ NB206_207.out _; (with_reducible repeat (first | refine blk_drewN ?_ _ | refine blk_drew ?_ | refine blk_alloc ?_ _)); refine blk_far ?_ NB206_207.out _; (with_reducible repeat (first | refine blk_drewN ?_ _ | refine blk_drew ?_ | refine blk_alloc ?_ _)); refine blk_far ?_ NB206_207.out _; (with_reducible repeat (first | refine blk_drewN ?_ _ | refine blk_drew ?_ | refine blk_alloc ?_ _)); refine blk_far ?_ NB206_207.out _; (with_reducible repeat (first | refine blk_drewN ?_ _ | refine blk_drew ?_ | refine blk_alloc ?_ _)); exact BK206.out⟩, ⟨by (with_reducible repeat (first | refine blk_drewN ?_ _ | refine blk_drew ?_ | refine blk_alloc ?_ _)); refine blk_put (cs := #[.int .i64 0, .int .i64 0, .int .i64 0, .int .i64 0]) ?_ 3 _ rfl; (with_reducible repeat (first | refine blk_drewN ?_ _ | refine blk_drew ?_ | refine blk_alloc ?_ _)); refine blk_put (cs := #[.int .i64 0, .int .i64 0, .int .i64 0, .int .i64 0]) ?_ 2 _ rfl; (with_reducible repeat (first | refine blk_drewN ?_ _ | refine blk_drew ?_ | refine blk_alloc ?_ _)); refine blk_put (cs := #[.int .i64 0, .int .i64 0, .int .i64 0, .int .i64 0]) ?_ 1 _ rfl; (with_reducible repeat (first | refine blk_drewN ?_ _ | refine blk_drew ?_ | refine blk_alloc ?_ _)); refine blk_put (cs := #[.int .i64 0, .int .i64 0, .int .i64 0, .int .i64 0]) ?_ 0 _ rfl; (with_reducible repeat (first | refine blk_drewN ?_ _ | refine blk_drew ?_ | refine blk_alloc ?_ _)); exact BK207.out⟩, ⟨by repeat (first | (with_reducible first | exact HB.out | apply below_alloc | apply pw_below_drewN | apply below_drew1 | refine below_set ?_ GE202.out | refine below_set ?_ GE205.out | refine below_set ?_ GE206.out | refine below_set ?_ GE207.out) | exact HB.out)⟩⟩
     case round =>
      clear H'
      try clear c1
      try clear p2
      try clear q2
      try clear hx2
      try clear qi2
      try clear c3
      try clear c4
      try clear c4b0
      try clear c4b1
      try clear c5
      try clear c6
      try clear c7
      try clear c7b0
      try clear c11
      try clear c12
      try clear c13
      try clear c15
      try clear c15b0
      try clear c15b1
      try clear p20
      try clear q20
      try clear hx20
      try clear qi20
      try clear c33
      try clear c34
      try clear c35
      try clear hcz18_0
      try clear hcz18_1
      try clear hcz18_2
      try clear hcz18_3
      try clear hcz36_0
      try clear hcz36_1
      try clear hcz36_2
      try clear hcz36_3
      try clear hfz18_0
      try clear hfz18_1
      try clear hfz18_2
      try clear hfz18_3
      try clear hfz36_0
      try clear hfz36_1
      try clear hfz36_2
      try clear hfz36_3
      try clear hx203_0
      try clear hx203_1
      try clear hx203_2
      try clear hx203_3
      try clear hx203_4
      try clear hx204_0
      try clear hx204_1
      try clear hx204_2
      try clear hx204_3
      try clear hx204_4
      try clear p2
      try clear p203
      try clear p204
      try clear q203
      try clear q204
      obtain ⟨x8_2, x44_2, x206000_2, x206001_2, x206002_2, x206003_2, x207000_2, x207001_2, x207002_2, x207003_2, x208000_2, x208001_2, x208002_2, x208003_2, rfl, rfl, HA, HK2, BK202, BK205, BK206, BK207, HB⟩ := hrel
      cases gk with
      | zero => exact absurd HA.out (by simp [celluloidlaw19_RampLies.l0])
      | succ k2 =>
       have H := HA.out
       clear HA
       simp only [celluloidlaw19_RampLies.l0] at H
       by_cases c37 : x44_2 < (l0.length : Int)
       ·rw [if_pos c37] at H
        have c37b0 : decide (x44_2 < (l0.length : Int)) = true := decide_eq_true c37
        clear c37
        by_cases c38 : 0 ≤ x44_2
        ·rw [if_pos c38] at H
         have c38b0 : decide (0 ≤ x44_2) = true := decide_eq_true c38
         clear c38
         by_cases c39 : x44_2 < (l0.length : Int)
         ·rw [if_pos c39] at H
          have c39b0 : decide (x44_2 < (l0.length : Int)) = true := decide_eq_true c39
          clear c39
          obtain ⟨ji40, hji40⟩ : ∃ j_ : Int, (mn x206000_2 ((rd_T32 l0 x44_2).f1.f0)) = j_ := ⟨_, rfl⟩
          replace H : (if ((rd_T32 l0 x44_2).f0) = a1 then (celluloidlaw19_RampLies.l0 k2 a1 (wrap64 (x8_2 + 1)) l0 (l0.length : Int) (wrap64 (x44_2 + 1)) t198 t199 t200 t201 ji40 (mn x206001_2 ((rd_T32 l0 x44_2).f1.f1)) (mn x206002_2 ((rd_T32 l0 x44_2).f1.f2)) (mn x206003_2 ((rd_T32 l0 x44_2).f1.f3)) (mx x207000_2 ((rd_T32 l0 x44_2).f1.f0)) (mx x207001_2 ((rd_T32 l0 x44_2).f1.f1)) (mx x207002_2 ((rd_T32 l0 x44_2).f1.f2)) (mx x207003_2 ((rd_T32 l0 x44_2).f1.f3)) ((rd_T32 l0 x44_2).f1.f0) ((rd_T32 l0 x44_2).f1.f1) ((rd_T32 l0 x44_2).f1.f2) ((rd_T32 l0 x44_2).f1.f3)) else (celluloidlaw19_RampLies.l0 k2 a1 x8_2 l0 (l0.length : Int) (wrap64 (x44_2 + 1)) t198 t199 t200 t201 ji40 (mn x206001_2 ((rd_T32 l0 x44_2).f1.f1)) (mn x206002_2 ((rd_T32 l0 x44_2).f1.f2)) (mn x206003_2 ((rd_T32 l0 x44_2).f1.f3)) (mx x207000_2 ((rd_T32 l0 x44_2).f1.f0)) (mx x207001_2 ((rd_T32 l0 x44_2).f1.f1)) (mx x207002_2 ((rd_T32 l0 x44_2).f1.f2)) (mx x207003_2 ((rd_T32 l0 x44_2).f1.f3)) x208000_2 x208001_2 x208002_2 x208003_2)) = some r := by first | (rw [hji40] at H; exact H) | (simp only [hji40] at H ⊢; exact H)
          have hji40_ : (if ((rd_T32 l0 x44_2).f1.f0) < x206000_2 then ((rd_T32 l0 x44_2).f1.f0) else x206000_2) = ji40 := hji40
          obtain ⟨ji41, hji41⟩ : ∃ j_ : Int, (mn x206001_2 ((rd_T32 l0 x44_2).f1.f1)) = j_ := ⟨_, rfl⟩
          replace H : (if ((rd_T32 l0 x44_2).f0) = a1 then (celluloidlaw19_RampLies.l0 k2 a1 (wrap64 (x8_2 + 1)) l0 (l0.length : Int) (wrap64 (x44_2 + 1)) t198 t199 t200 t201 ji40 ji41 (mn x206002_2 ((rd_T32 l0 x44_2).f1.f2)) (mn x206003_2 ((rd_T32 l0 x44_2).f1.f3)) (mx x207000_2 ((rd_T32 l0 x44_2).f1.f0)) (mx x207001_2 ((rd_T32 l0 x44_2).f1.f1)) (mx x207002_2 ((rd_T32 l0 x44_2).f1.f2)) (mx x207003_2 ((rd_T32 l0 x44_2).f1.f3)) ((rd_T32 l0 x44_2).f1.f0) ((rd_T32 l0 x44_2).f1.f1) ((rd_T32 l0 x44_2).f1.f2) ((rd_T32 l0 x44_2).f1.f3)) else (celluloidlaw19_RampLies.l0 k2 a1 x8_2 l0 (l0.length : Int) (wrap64 (x44_2 + 1)) t198 t199 t200 t201 ji40 ji41 (mn x206002_2 ((rd_T32 l0 x44_2).f1.f2)) (mn x206003_2 ((rd_T32 l0 x44_2).f1.f3)) (mx x207000_2 ((rd_T32 l0 x44_2).f1.f0)) (mx x207001_2 ((rd_T32 l0 x44_2).f1.f1)) (mx x207002_2 ((rd_T32 l0 x44_2).f1.f2)) (mx x207003_2 ((rd_T32 l0 x44_2).f1.f3)) x208000_2 x208001_2 x208002_2 x208003_2)) = some r := by first | (rw [hji41] at H; exact H) | (simp only [hji41] at H ⊢; exact H)
          have hji41_ : (if ((rd_T32 l0 x44_2).f1.f1) < x206001_2 then ((rd_T32 l0 x44_2).f1.f1) else x206001_2) = ji41 := hji41
          obtain ⟨ji42, hji42⟩ : ∃ j_ : Int, (mn x206002_2 ((rd_T32 l0 x44_2).f1.f2)) = j_ := ⟨_, rfl⟩
          replace H : (if ((rd_T32 l0 x44_2).f0) = a1 then (celluloidlaw19_RampLies.l0 k2 a1 (wrap64 (x8_2 + 1)) l0 (l0.length : Int) (wrap64 (x44_2 + 1)) t198 t199 t200 t201 ji40 ji41 ji42 (mn x206003_2 ((rd_T32 l0 x44_2).f1.f3)) (mx x207000_2 ((rd_T32 l0 x44_2).f1.f0)) (mx x207001_2 ((rd_T32 l0 x44_2).f1.f1)) (mx x207002_2 ((rd_T32 l0 x44_2).f1.f2)) (mx x207003_2 ((rd_T32 l0 x44_2).f1.f3)) ((rd_T32 l0 x44_2).f1.f0) ((rd_T32 l0 x44_2).f1.f1) ((rd_T32 l0 x44_2).f1.f2) ((rd_T32 l0 x44_2).f1.f3)) else (celluloidlaw19_RampLies.l0 k2 a1 x8_2 l0 (l0.length : Int) (wrap64 (x44_2 + 1)) t198 t199 t200 t201 ji40 ji41 ji42 (mn x206003_2 ((rd_T32 l0 x44_2).f1.f3)) (mx x207000_2 ((rd_T32 l0 x44_2).f1.f0)) (mx x207001_2 ((rd_T32 l0 x44_2).f1.f1)) (mx x207002_2 ((rd_T32 l0 x44_2).f1.f2)) (mx x207003_2 ((rd_T32 l0 x44_2).f1.f3)) x208000_2 x208001_2 x208002_2 x208003_2)) = some r := by first | (rw [hji42] at H; exact H) | (simp only [hji42] at H ⊢; exact H)
          have hji42_ : (if ((rd_T32 l0 x44_2).f1.f2) < x206002_2 then ((rd_T32 l0 x44_2).f1.f2) else x206002_2) = ji42 := hji42
          obtain ⟨ji43, hji43⟩ : ∃ j_ : Int, (mn x206003_2 ((rd_T32 l0 x44_2).f1.f3)) = j_ := ⟨_, rfl⟩
          replace H : (if ((rd_T32 l0 x44_2).f0) = a1 then (celluloidlaw19_RampLies.l0 k2 a1 (wrap64 (x8_2 + 1)) l0 (l0.length : Int) (wrap64 (x44_2 + 1)) t198 t199 t200 t201 ji40 ji41 ji42 ji43 (mx x207000_2 ((rd_T32 l0 x44_2).f1.f0)) (mx x207001_2 ((rd_T32 l0 x44_2).f1.f1)) (mx x207002_2 ((rd_T32 l0 x44_2).f1.f2)) (mx x207003_2 ((rd_T32 l0 x44_2).f1.f3)) ((rd_T32 l0 x44_2).f1.f0) ((rd_T32 l0 x44_2).f1.f1) ((rd_T32 l0 x44_2).f1.f2) ((rd_T32 l0 x44_2).f1.f3)) else (celluloidlaw19_RampLies.l0 k2 a1 x8_2 l0 (l0.length : Int) (wrap64 (x44_2 + 1)) t198 t199 t200 t201 ji40 ji41 ji42 ji43 (mx x207000_2 ((rd_T32 l0 x44_2).f1.f0)) (mx x207001_2 ((rd_T32 l0 x44_2).f1.f1)) (mx x207002_2 ((rd_T32 l0 x44_2).f1.f2)) (mx x207003_2 ((rd_T32 l0 x44_2).f1.f3)) x208000_2 x208001_2 x208002_2 x208003_2)) = some r := by first | (rw [hji43] at H; exact H) | (simp only [hji43] at H ⊢; exact H)
          have hji43_ : (if ((rd_T32 l0 x44_2).f1.f3) < x206003_2 then ((rd_T32 l0 x44_2).f1.f3) else x206003_2) = ji43 := hji43
          obtain ⟨ji44, hji44⟩ : ∃ j_ : Int, (mx x207000_2 ((rd_T32 l0 x44_2).f1.f0)) = j_ := ⟨_, rfl⟩
          replace H : (if ((rd_T32 l0 x44_2).f0) = a1 then (celluloidlaw19_RampLies.l0 k2 a1 (wrap64 (x8_2 + 1)) l0 (l0.length : Int) (wrap64 (x44_2 + 1)) t198 t199 t200 t201 ji40 ji41 ji42 ji43 ji44 (mx x207001_2 ((rd_T32 l0 x44_2).f1.f1)) (mx x207002_2 ((rd_T32 l0 x44_2).f1.f2)) (mx x207003_2 ((rd_T32 l0 x44_2).f1.f3)) ((rd_T32 l0 x44_2).f1.f0) ((rd_T32 l0 x44_2).f1.f1) ((rd_T32 l0 x44_2).f1.f2) ((rd_T32 l0 x44_2).f1.f3)) else (celluloidlaw19_RampLies.l0 k2 a1 x8_2 l0 (l0.length : Int) (wrap64 (x44_2 + 1)) t198 t199 t200 t201 ji40 ji41 ji42 ji43 ji44 (mx x207001_2 ((rd_T32 l0 x44_2).f1.f1)) (mx x207002_2 ((rd_T32 l0 x44_2).f1.f2)) (mx x207003_2 ((rd_T32 l0 x44_2).f1.f3)) x208000_2 x208001_2 x208002_2 x208003_2)) = some r := by first | (rw [hji44] at H; exact H) | (simp only [hji44] at H ⊢; exact H)
          have hji44_ : (if x207000_2 < ((rd_T32 l0 x44_2).f1.f0) then ((rd_T32 l0 x44_2).f1.f0) else x207000_2) = ji44 := hji44
          obtain ⟨ji45, hji45⟩ : ∃ j_ : Int, (mx x207001_2 ((rd_T32 l0 x44_2).f1.f1)) = j_ := ⟨_, rfl⟩
          replace H : (if ((rd_T32 l0 x44_2).f0) = a1 then (celluloidlaw19_RampLies.l0 k2 a1 (wrap64 (x8_2 + 1)) l0 (l0.length : Int) (wrap64 (x44_2 + 1)) t198 t199 t200 t201 ji40 ji41 ji42 ji43 ji44 ji45 (mx x207002_2 ((rd_T32 l0 x44_2).f1.f2)) (mx x207003_2 ((rd_T32 l0 x44_2).f1.f3)) ((rd_T32 l0 x44_2).f1.f0) ((rd_T32 l0 x44_2).f1.f1) ((rd_T32 l0 x44_2).f1.f2) ((rd_T32 l0 x44_2).f1.f3)) else (celluloidlaw19_RampLies.l0 k2 a1 x8_2 l0 (l0.length : Int) (wrap64 (x44_2 + 1)) t198 t199 t200 t201 ji40 ji41 ji42 ji43 ji44 ji45 (mx x207002_2 ((rd_T32 l0 x44_2).f1.f2)) (mx x207003_2 ((rd_T32 l0 x44_2).f1.f3)) x208000_2 x208001_2 x208002_2 x208003_2)) = some r := by first | (rw [hji45] at H; exact H) | (simp only [hji45] at H ⊢; exact H)
          have hji45_ : (if x207001_2 < ((rd_T32 l0 x44_2).f1.f1) then ((rd_T32 l0 x44_2).f1.f1) else x207001_2) = ji45 := hji45
          obtain ⟨ji46, hji46⟩ : ∃ j_ : Int, (mx x207002_2 ((rd_T32 l0 x44_2).f1.f2)) = j_ := ⟨_, rfl⟩
          replace H : (if ((rd_T32 l0 x44_2).f0) = a1 then (celluloidlaw19_RampLies.l0 k2 a1 (wrap64 (x8_2 + 1)) l0 (l0.length : Int) (wrap64 (x44_2 + 1)) t198 t199 t200 t201 ji40 ji41 ji42 ji43 ji44 ji45 ji46 (mx x207003_2 ((rd_T32 l0 x44_2).f1.f3)) ((rd_T32 l0 x44_2).f1.f0) ((rd_T32 l0 x44_2).f1.f1) ((rd_T32 l0 x44_2).f1.f2) ((rd_T32 l0 x44_2).f1.f3)) else (celluloidlaw19_RampLies.l0 k2 a1 x8_2 l0 (l0.length : Int) (wrap64 (x44_2 + 1)) t198 t199 t200 t201 ji40 ji41 ji42 ji43 ji44 ji45 ji46 (mx x207003_2 ((rd_T32 l0 x44_2).f1.f3)) x208000_2 x208001_2 x208002_2 x208003_2)) = some r := by first | (rw [hji46] at H; exact H) | (simp only [hji46] at H ⊢; exact H)
          have hji46_ : (if x207002_2 < ((rd_T32 l0 x44_2).f1.f2) then ((rd_T32 l0 x44_2).f1.f2) else x207002_2) = ji46 := hji46
          obtain ⟨ji47, hji47⟩ : ∃ j_ : Int, (mx x207003_2 ((rd_T32 l0 x44_2).f1.f3)) = j_ := ⟨_, rfl⟩
          replace H : (if ((rd_T32 l0 x44_2).f0) = a1 then (celluloidlaw19_RampLies.l0 k2 a1 (wrap64 (x8_2 + 1)) l0 (l0.length : Int) (wrap64 (x44_2 + 1)) t198 t199 t200 t201 ji40 ji41 ji42 ji43 ji44 ji45 ji46 ji47 ((rd_T32 l0 x44_2).f1.f0) ((rd_T32 l0 x44_2).f1.f1) ((rd_T32 l0 x44_2).f1.f2) ((rd_T32 l0 x44_2).f1.f3)) else (celluloidlaw19_RampLies.l0 k2 a1 x8_2 l0 (l0.length : Int) (wrap64 (x44_2 + 1)) t198 t199 t200 t201 ji40 ji41 ji42 ji43 ji44 ji45 ji46 ji47 x208000_2 x208001_2 x208002_2 x208003_2)) = some r := by first | (rw [hji47] at H; exact H) | (simp only [hji47] at H ⊢; exact H)
          have hji47_ : (if x207003_2 < ((rd_T32 l0 x44_2).f1.f3) then ((rd_T32 l0 x44_2).f1.f3) else x207003_2) = ji47 := hji47
          by_cases c48 : ((rd_T32 l0 x44_2).f0) = a1
          ·rw [if_pos c48] at H
           have c48b0 : (((rd_T32 l0 x44_2).f0) == a1) = true := beq_iff_eq.mpr c48
           have c48b1 : (((rd_T32 l0 x44_2).f0) != a1) = false := bne_eq_false_iff_eq.mpr c48
           clear c48
           have H' := Aside0.mk H
           clear H
           have p208 : 0 ≤ (x44_2 : Int) := of_decide_eq_true (by first | (with_reducible assumption) | assumption)
           have q208 : x44_2 < (l0.length : Int) := of_decide_eq_true (by first | (with_reducible assumption) | assumption)
           obtain ⟨ad208, e208, hx208_0, hx208_1, hx208_2, hx208_3, hx208_4⟩ := at_T32 HR0.out x44_2 p208 q208
           obtain rfl : ad203 = ad208 := (by injection e208)
           replace hx208_0 := (HB.out.cell (World.block_lt_of_cell? w _ hx208_0)).trans hx208_0
           replace hx208_1 := (HB.out.cell (World.block_lt_of_cell? w _ hx208_1)).trans hx208_1
           replace hx208_2 := (HB.out.cell (World.block_lt_of_cell? w _ hx208_2)).trans hx208_2
           replace hx208_3 := (HB.out.cell (World.block_lt_of_cell? w _ hx208_3)).trans hx208_3
           replace hx208_4 := (HB.out.cell (World.block_lt_of_cell? w _ hx208_4)).trans hx208_4
           replace p208 := eq_true p208
           replace q208 := eq_true q208
           try go_wp2_with (first | ((with_reducible refine gate_dst (N := 11) rfl ?_); refine box_event ?hg (N := 11) ?hd (cs := #[.int .i64 0, .int .i64 0, .int .i64 0, .int .i64 0, .int .i64 0]) (t := 32) ?hr ?_; (case hd => rfl); (case hg => rfl); (case hr => first | (go_simp; done) | (go_simp; rfl)); intro gb209 hg w49 hbox hb; have n0_ := Aside0.mk (blk_below (g := gb202) (o := .cells #[.int .i64 t198, .int .i64 t199, .int .i64 t200, .int .i64 t201] 27 (0, 0)) (by (with_reducible repeat (first | refine blk_drewN ?_ _ | refine blk_drew ?_ | refine blk_alloc ?_ _)); exact BK202.out) hb); have n1_ := Aside0.mk (blk_below (g := gb205) (o := .cells #[.int .i64 x206000_2, .int .i64 x206001_2, .int .i64 x206002_2, .int .i64 x206003_2] 27 (0, 0)) (by (with_reducible repeat (first | refine blk_drewN ?_ _ | refine blk_drew ?_ | refine blk_alloc ?_ _)); exact BK205.out) hb); have n2_ := Aside0.mk (blk_below (g := gb206) (o := .cells #[.int .i64 x207000_2, .int .i64 x207001_2, .int .i64 x207002_2, .int .i64 x207003_2] 27 (0, 0)) (by (with_reducible repeat (first | refine blk_drewN ?_ _ | refine blk_drew ?_ | refine blk_alloc ?_ _)); exact BK206.out) hb); have n3_ := Aside0.mk (blk_below (g := gb207) (o := .cells #[.int .i64 x208000_2, .int .i64 x208001_2, .int .i64 x208002_2, .int .i64 x208003_2] 27 (0, 0)) (by (with_reducible repeat (first | refine blk_drewN ?_ _ | refine blk_drew ?_ | refine blk_alloc ?_ _)); exact BK207.out) hb); have n4_ := Aside0.mk (below_step (by repeat (first | (with_reducible first | exact HB.out | apply below_alloc | apply pw_below_drewN | apply below_drew1 | refine below_set ?_ GE202.out | refine below_set ?_ GE205.out | refine below_set ?_ GE206.out | refine below_set ?_ GE207.out) | exact HB.out)) hb); have n5_ := Aside0.mk (hbox); have n6_ := Aside0.mk ((by rw [hg]; exact (below_size (by repeat (first | (with_reducible first | exact HB.out | apply below_alloc | apply pw_below_drewN | apply below_drew1 | refine below_set ?_ GE202.out | refine below_set ?_ GE205.out | refine below_set ?_ GE206.out | refine below_set ?_ GE207.out) | exact HB.out))) : w.heap.size ≤ gb209)); have n7_ := Aside0.mk ((by rw [hg]; exact (below_size (by repeat (first | (with_reducible first | exact HB.out | apply below_alloc | apply pw_below_drewN | apply below_drew1 | refine below_set ?_ GE202.out | refine below_set ?_ GE205.out | refine below_set ?_ GE206.out | refine below_set ?_ GE207.out) | exact HB.out))) : w.heap.size ≤ gb209)); have n8_ := Aside0.mk ((by rw [hg]; exact Nat.ne_of_lt (blk_lt (g := gb202) (o := .cells #[.int .i64 t198, .int .i64 t199, .int .i64 t200, .int .i64 t201] 27 (0, 0)) (by (with_reducible repeat (first | refine blk_drewN ?_ _ | refine blk_drew ?_ | refine blk_alloc ?_ _)); exact BK202.out)) : gb202 ≠ gb209)); have n9_ := Aside0.mk ((by rw [hg]; exact Nat.ne_of_gt (blk_lt (g := gb202) (o := .cells #[.int .i64 t198, .int .i64 t199, .int .i64 t200, .int .i64 t201] 27 (0, 0)) (by (with_reducible repeat (first | refine blk_drewN ?_ _ | refine blk_drew ?_ | refine blk_alloc ?_ _)); exact BK202.out)) : gb209 ≠ gb202)); have n10_ := Aside0.mk ((by rw [hg]; exact Nat.ne_of_lt (blk_lt (g := gb205) (o := .cells #[.int .i64 x206000_2, .int .i64 x206001_2, .int .i64 x206002_2, .int .i64 x206003_2] 27 (0, 0)) (by (with_reducible repeat (first | refine blk_drewN ?_ _ | refine blk_drew ?_ | refine blk_alloc ?_ _)); exact BK205.out)) : gb205 ≠ gb209)); have n11_ := Aside0.mk ((by rw [hg]; exact Nat.ne_of_gt (blk_lt (g := gb205) (o := .cells #[.int .i64 x206000_2, .int .i64 x206001_2, .int .i64 x206002_2, .int .i64 x206003_2] 27 (0, 0)) (by (with_reducible repeat (first | refine blk_drewN ?_ _ | refine blk_drew ?_ | refine blk_alloc ?_ _)); exact BK205.out)) : gb209 ≠ gb205)); have n12_ := Aside0.mk ((by rw [hg]; exact Nat.ne_of_lt (blk_lt (g := gb206) (o := .cells #[.int .i64 x207000_2, .int .i64 x207001_2, .int .i64 x207002_2, .int .i64 x207003_2] 27 (0, 0)) (by (with_reducible repeat (first | refine blk_drewN ?_ _ | refine blk_drew ?_ | refine blk_alloc ?_ _)); exact BK206.out)) : gb206 ≠ gb209)); have n13_ := Aside0.mk ((by rw [hg]; exact Nat.ne_of_gt (blk_lt (g := gb206) (o := .cells #[.int .i64 x207000_2, .int .i64 x207001_2, .int .i64 x207002_2, .int .i64 x207003_2] 27 (0, 0)) (by (with_reducible repeat (first | refine blk_drewN ?_ _ | refine blk_drew ?_ | refine blk_alloc ?_ _)); exact BK206.out)) : gb209 ≠ gb206)); have n14_ := Aside0.mk ((by rw [hg]; exact Nat.ne_of_lt (blk_lt (g := gb207) (o := .cells #[.int .i64 x208000_2, .int .i64 x208001_2, .int .i64 x208002_2, .int .i64 x208003_2] 27 (0, 0)) (by (with_reducible repeat (first | refine blk_drewN ?_ _ | refine blk_drew ?_ | refine blk_alloc ?_ _)); exact BK207.out)) : gb207 ≠ gb209)); have n15_ := Aside0.mk ((by rw [hg]; exact Nat.ne_of_gt (blk_lt (g := gb207) (o := .cells #[.int .i64 x208000_2, .int .i64 x208001_2, .int .i64 x208002_2, .int .i64 x208003_2] 27 (0, 0)) (by (with_reducible repeat (first | refine blk_drewN ?_ _ | refine blk_drew ?_ | refine blk_alloc ?_ _)); exact BK207.out)) : gb209 ≠ gb207)); clear BK202; clear BK205; clear BK206; clear BK207; clear HB; have BK202 := n0_; have BK205 := n1_; have BK206 := n2_; have BK207 := n3_; have HB := n4_; have BK209 := n5_; have GW209 := n6_; have GE209 := n7_; have NB202_209 := n8_; have NB209_202 := n9_; have NB205_209 := n10_; have NB209_205 := n11_; have NB206_209 := n12_; have NB209_206 := n13_; have NB207_209 := n14_; have NB209_207 := n15_; clear n0_ n1_ n2_ n3_ n4_ n5_ n6_ n7_ n8_ n9_ n10_ n11_ n12_ n13_ n14_ n15_; clear hb hbox hg; have hnb50 := NB209_202.out; have hnc50 := NB202_209.out; have hnb51 := NB209_205.out; have hnc51 := NB205_209.out; have hnb52 := NB209_206.out; have hnc52 := NB206_209.out; have hnb53 := NB209_207.out; have hnc53 := NB207_209.out; have hcz54_0 : w49.cell? ⟨gb209, 0, none⟩ = some (.int .i64 0) := (blk_cell BK209.out 0).trans rfl; have hcz54_1 : w49.cell? ⟨gb209, 1, none⟩ = some (.int .i64 0) := (blk_cell BK209.out 1).trans rfl; have hcz54_2 : w49.cell? ⟨gb209, 2, none⟩ = some (.int .i64 0) := (blk_cell BK209.out 2).trans rfl; have hcz54_3 : w49.cell? ⟨gb209, 3, none⟩ = some (.int .i64 0) := (blk_cell BK209.out 3).trans rfl; have hcz54_4 : w49.cell? ⟨gb209, 4, none⟩ = some (.int .i64 0) := (blk_cell BK209.out 4).trans rfl; have hfz54_0 := blk_frozen BK209.out 0; have hfz54_1 := blk_frozen BK209.out 1; have hfz54_2 := blk_frozen BK209.out 2; have hfz54_3 := blk_frozen BK209.out 3; have hfz54_4 := blk_frozen BK209.out 4) | ((with_reducible refine gate_dst (N := 12) rfl ?_); refine box_event ?hg (N := 12) ?hd (cs := #[.int .i64 0, .int .i64 0, .int .i64 0, .int .i64 0]) (t := 27) ?hr ?_; (case hd => rfl); (case hg => rfl); (case hr => first | (go_simp; done) | (go_simp; rfl)); intro gb210 hg w55 hbox hb; have n0_ := Aside0.mk (blk_below (g := gb202) (o := .cells #[.int .i64 t198, .int .i64 t199, .int .i64 t200, .int .i64 t201] 27 (0, 0)) (by (with_reducible repeat (first | refine blk_drewN ?_ _ | refine blk_drew ?_ | refine blk_alloc ?_ _)); refine blk_far ?_ NB202_209.out _; (with_reducible repeat (first | refine blk_drewN ?_ _ | refine blk_drew ?_ | refine blk_alloc ?_ _)); refine blk_far ?_ NB202_209.out _; (with_reducible repeat (first | refine blk_drewN ?_ _ | refine blk_drew ?_ | refine blk_alloc ?_ _)); refine blk_far ?_ NB202_209.out _; (with_reducible repeat (first | refine blk_drewN ?_ _ | refine blk_drew ?_ | refine blk_alloc ?_ _)); refine blk_far ?_ NB202_209.out _; (with_reducible repeat (first | refine blk_drewN ?_ _ | refine blk_drew ?_ | refine blk_alloc ?_ _)); refine blk_far ?_ NB202_209.out _; (with_reducible repeat (first | refine blk_drewN ?_ _ | refine blk_drew ?_ | refine blk_alloc ?_ _)); exact BK202.out) hb); have n1_ := Aside0.mk (blk_below (g := gb205) (o := .cells #[.int .i64 x206000_2, .int .i64 x206001_2, .int .i64 x206002_2, .int .i64 x206003_2] 27 (0, 0)) (by (with_reducible repeat (first | refine blk_drewN ?_ _ | refine blk_drew ?_ | refine blk_alloc ?_ _)); refine blk_far ?_ NB205_209.out _; (with_reducible repeat (first | refine blk_drewN ?_ _ | refine blk_drew ?_ | refine blk_alloc ?_ _)); refine blk_far ?_ NB205_209.out _; (with_reducible repeat (first | refine blk_drewN ?_ _ | refine blk_drew ?_ | refine blk_alloc ?_ _)); refine blk_far ?_ NB205_209.out _; (with_reducible repeat (first | refine blk_drewN ?_ _ | refine blk_drew ?_ | refine blk_alloc ?_ _)); refine blk_far ?_ NB205_209.out _; (with_reducible repeat (first | refine blk_drewN ?_ _ | refine blk_drew ?_ | refine blk_alloc ?_ _)); refine blk_far ?_ NB205_209.out _; (with_reducible repeat (first | refine blk_drewN ?_ _ | refine blk_drew ?_ | refine blk_alloc ?_ _)); exact BK205.out) hb); have n2_ := Aside0.mk (blk_below (g := gb206) (o := .cells #[.int .i64 x207000_2, .int .i64 x207001_2, .int .i64 x207002_2, .int .i64 x207003_2] 27 (0, 0)) (by (with_reducible repeat (first | refine blk_drewN ?_ _ | refine blk_drew ?_ | refine blk_alloc ?_ _)); refine blk_far ?_ NB206_209.out _; (with_reducible repeat (first | refine blk_drewN ?_ _ | refine blk_drew ?_ | refine blk_alloc ?_ _)); refine blk_far ?_ NB206_209.out _; (with_reducible repeat (first | refine blk_drewN ?_ _ | refine blk_drew ?_ | refine blk_alloc ?_ _)); refine blk_far ?_ NB206_209.out _; (with_reducible repeat (first | refine blk_drewN ?_ _ | refine blk_drew ?_ | refine blk_alloc ?_ _)); refine blk_far ?_ NB206_209.out _; (with_reducible repeat (first | refine blk_drewN ?_ _ | refine blk_drew ?_ | refine blk_alloc ?_ _)); refine blk_far ?_ NB206_209.out _; (with_reducible repeat (first | refine blk_drewN ?_ _ | refine blk_drew ?_ | refine blk_alloc ?_ _)); exact BK206.out) hb); have n3_ := Aside0.mk (blk_below (g := gb207) (o := .cells #[.int .i64 x208000_2, .int .i64 x208001_2, .int .i64 x208002_2, .int .i64 x208003_2] 27 (0, 0)) (by (with_reducible repeat (first | refine blk_drewN ?_ _ | refine blk_drew ?_ | refine blk_alloc ?_ _)); refine blk_far ?_ NB207_209.out _; (with_reducible repeat (first | refine blk_drewN ?_ _ | refine blk_drew ?_ | refine blk_alloc ?_ _)); refine blk_far ?_ NB207_209.out _; (with_reducible repeat (first | refine blk_drewN ?_ _ | refine blk_drew ?_ | refine blk_alloc ?_ _)); refine blk_far ?_ NB207_209.out _; (with_reducible repeat (first | refine blk_drewN ?_ _ | refine blk_drew ?_ | refine blk_alloc ?_ _)); refine blk_far ?_ NB207_209.out _; (with_reducible repeat (first | refine blk_drewN ?_ _ | refine blk_drew ?_ | refine blk_alloc ?_ _)); refine blk_far ?_ NB207_209.out _; (with_reducible repeat (first | refine blk_drewN ?_ _ | refine blk_drew ?_ | refine blk_alloc ?_ _)); exact BK207.out) hb); have n4_ := Aside0.mk (blk_below (g := gb209) (o := .cells #[.int .i64 ((rd_T32 l0 x44_2).f0), .int .i64 ((rd_T32 l0 x44_2).f1.f0), .int .i64 ((rd_T32 l0 x44_2).f1.f1), .int .i64 ((rd_T32 l0 x44_2).f1.f2), .int .i64 ((rd_T32 l0 x44_2).f1.f3)] 32 (0, 0)) (by (with_reducible repeat (first | refine blk_drewN ?_ _ | refine blk_drew ?_ | refine blk_alloc ?_ _)); refine blk_put (cs := #[.int .i64 ((rd_T32 l0 x44_2).f0), .int .i64 ((rd_T32 l0 x44_2).f1.f0), .int .i64 ((rd_T32 l0 x44_2).f1.f1), .int .i64 ((rd_T32 l0 x44_2).f1.f2), .int .i64 0]) ?_ 4 _ rfl; (with_reducible repeat (first | refine blk_drewN ?_ _ | refine blk_drew ?_ | refine blk_alloc ?_ _)); refine blk_put (cs := #[.int .i64 ((rd_T32 l0 x44_2).f0), .int .i64 ((rd_T32 l0 x44_2).f1.f0), .int .i64 ((rd_T32 l0 x44_2).f1.f1), .int .i64 0, .int .i64 0]) ?_ 3 _ rfl; (with_reducible repeat (first | refine blk_drewN ?_ _ | refine blk_drew ?_ | refine blk_alloc ?_ _)); refine blk_put (cs := #[.int .i64 ((rd_T32 l0 x44_2).f0), .int .i64 ((rd_T32 l0 x44_2).f1.f0), .int .i64 0, .int .i64 0, .int .i64 0]) ?_ 2 _ rfl; (with_reducible repeat (first | refine blk_drewN ?_ _ | refine blk_drew ?_ | refine blk_alloc ?_ _)); refine blk_put (cs := #[.int .i64 ((rd_T32 l0 x44_2).f0), .int .i64 0, .int .i64 0, .int .i64 0, .int .i64 0]) ?_ 1 _ rfl; (with_reducible repeat (first | refine blk_drewN ?_ _ | refine blk_drew ?_ | refine blk_alloc ?_ _)); refine blk_put (cs := #[.int .i64 0, .int .i64 0, .int .i64 0, .int .i64 0, .int .i64 0]) ?_ 0 _ rfl; (with_reducible repeat (first | refine blk_drewN ?_ _ | refine blk_drew ?_ | refine blk_alloc ?_ _)); exact BK209.out) hb); have n5_ := Aside0.mk (below_step (by repeat (first | (with_reducible first | exact HB.out | apply below_alloc | apply pw_below_drewN | apply below_drew1 | refine below_set ?_ GE202.out | refine below_set ?_ GE205.out | refine below_set ?_ GE206.out | refine below_set ?_ GE207.out | refine below_set ?_ GE209.out) | exact HB.out)) hb); have n6_ := Aside0.mk (hbox); have n7_ := Aside0.mk ((by rw [hg]; exact (below_size (by repeat (first | (with_reducible first | exact HB.out | apply below_alloc | apply pw_below_drewN | apply below_drew1 | refine below_set ?_ GE202.out | refine below_set ?_ GE205.out | refine below_set ?_ GE206.out | refine below_set ?_ GE207.out | refine below_set ?_ GE209.out) | exact HB.out))) : w.heap.size ≤ gb210)); have n8_ := Aside0.mk ((by rw [hg]; exact (below_size (by repeat (first | (with_reducible first | exact HB.out | apply below_alloc | apply pw_below_drewN | apply below_drew1 | refine below_set ?_ GE202.out | refine below_set ?_ GE205.out | refine below_set ?_ GE206.out | refine below_set ?_ GE207.out | refine below_set ?_ GE209.out) | exact HB.out))) : w.heap.size ≤ gb210)); have n9_ := Aside0.mk ((by rw [hg]; exact Nat.ne_of_lt (blk_lt (g := gb202) (o := .cells #[.int .i64 t198, .int .i64 t199, .int .i64 t200, .int .i64 t201] 27 (0, 0)) (by (with_reducible repeat (first | refine blk_drewN ?_ _ | refine blk_drew ?_ | refine blk_alloc ?_ _)); refine blk_far ?_ NB202_209.out _; (with_reducible repeat (first | refine blk_drewN ?_ _ | refine blk_drew ?_ | refine blk_alloc ?_ _)); refine blk_far ?_ NB202_209.out _; (with_reducible repeat (first | refine blk_drewN ?_ _ | refine blk_drew ?_ | refine blk_alloc ?_ _)); refine blk_far ?_ NB202_209.out _; (with_reducible repeat (first | refine blk_drewN ?_ _ | refine blk_drew ?_ | refine blk_alloc ?_ _)); refine blk_far ?_ NB202_209.out _; (with_reducible repeat (first | refine blk_drewN ?_ _ | refine blk_drew ?_ | refine blk_alloc ?_ _)); refine blk_far ?_ NB202_209.out _; (with_reducible repeat (first | refine blk_drewN ?_ _ | refine blk_drew ?_ | refine blk_alloc ?_ _)); exact BK202.out)) : gb202 ≠ gb210)); have n10_ := Aside0.mk ((by rw [hg]; exact Nat.ne_of_gt (blk_lt (g := gb202) (o := .cells #[.int .i64 t198, .int .i64 t199, .int .i64 t200, .int .i64 t201] 27 (0, 0)) (by (with_reducible repeat (first | refine blk_drewN ?_ _ | refine blk_drew ?_ | refine blk_alloc ?_ _)); refine blk_far ?_ NB202_209.out _; (with_reducible repeat (first | refine blk_drewN ?_ _ | refine blk_drew ?_ | refine blk_alloc ?_ _)); refine blk_far ?_ NB202_209.out _; (with_reducible repeat (first | refine blk_drewN ?_ _ | refine blk_drew ?_ | refine blk_alloc ?_ _)); refine blk_far ?_ NB202_209.out _; (with_reducible repeat (first | refine blk_drewN ?_ _ | refine blk_drew ?_ | refine blk_alloc ?_ _)); refine blk_far ?_ NB202_209.out _; (with_reducible repeat (first | refine blk_drewN ?_ _ | refine blk_drew ?_ | refine blk_alloc ?_ _)); refine blk_far ?_ NB202_209.out _; (with_reducible repeat (first | refine blk_drewN ?_ _ | refine blk_drew ?_ | refine blk_alloc ?_ _)); exact BK202.out)) : gb210 ≠ gb202)); have n11_ := Aside0.mk ((by rw [hg]; exact Nat.ne_of_lt (blk_lt (g := gb205) (o := .cells #[.int .i64 x206000_2, .int .i64 x206001_2, .int .i64 x206002_2, .int .i64 x206003_2] 27 (0, 0)) (by (with_reducible repeat (first | refine blk_drewN ?_ _ | refine blk_drew ?_ | refine blk_alloc ?_ _)); refine blk_far ?_ NB205_209.out _; (with_reducible repeat (first | refine blk_drewN ?_ _ | refine blk_drew ?_ | refine blk_alloc ?_ _)); refine blk_far ?_ NB205_209.out _; (with_reducible repeat (first | refine blk_drewN ?_ _ | refine blk_drew ?_ | refine blk_alloc ?_ _)); refine blk_far ?_ NB205_209.out _; (with_reducible repeat (first | refine blk_drewN ?_ _ | refine blk_drew ?_ | refine blk_alloc ?_ _)); refine blk_far ?_ NB205_209.out _; (with_reducible repeat (first | refine blk_drewN ?_ _ | refine blk_drew ?_ | refine blk_alloc ?_ _)); refine blk_far ?_ NB205_209.out _; (with_reducible repeat (first | refine blk_drewN ?_ _ | refine blk_drew ?_ | refine blk_alloc ?_ _)); exact BK205.out)) : gb205 ≠ gb210)); have n12_ := Aside0.mk ((by rw [hg]; exact Nat.ne_of_gt (blk_lt (g := gb205) (o := .cells #[.int .i64 x206000_2, .int .i64 x206001_2, .int .i64 x206002_2, .int .i64 x206003_2] 27 (0, 0)) (by (with_reducible repeat (first | refine blk_drewN ?_ _ | refine blk_drew ?_ | refine blk_alloc ?_ _)); refine blk_far ?_ NB205_209.out _; (with_reducible repeat (first | refine blk_drewN ?_ _ | refine blk_drew ?_ | refine blk_alloc ?_ _)); refine blk_far ?_ NB205_209.out _; (with_reducible repeat (first | refine blk_drewN ?_ _ | refine blk_drew ?_ | refine blk_alloc ?_ _)); refine blk_far ?_ NB205_209.out _; (with_reducible repeat (first | refine blk_drewN ?_ _ | refine blk_drew ?_ | refine blk_alloc ?_ _)); refine blk_far ?_ NB205_209.out _; (with_reducible repeat (first | refine blk_drewN ?_ _ | refine blk_drew ?_ | refine blk_alloc ?_ _)); refine blk_far ?_ NB205_209.out _; (with_reducible repeat (first | refine blk_drewN ?_ _ | refine blk_drew ?_ | refine blk_alloc ?_ _)); exact BK205.out)) : gb210 ≠ gb205)); have n13_ := Aside0.mk ((by rw [hg]; exact Nat.ne_of_lt (blk_lt (g := gb206) (o := .cells #[.int .i64 x207000_2, .int .i64 x207001_2, .int .i64 x207002_2, .int .i64 x207003_2] 27 (0, 0)) (by (with_reducible repeat (first | refine blk_drewN ?_ _ | refine blk_drew ?_ | refine blk_alloc ?_ _)); refine blk_far ?_ NB206_209.out _; (with_reducible repeat (first | refine blk_drewN ?_ _ | refine blk_drew ?_ | refine blk_alloc ?_ _)); refine blk_far ?_ NB206_209.out _; (with_reducible repeat (first | refine blk_drewN ?_ _ | refine blk_drew ?_ | refine blk_alloc ?_ _)); refine blk_far ?_ NB206_209.out _; (with_reducible repeat (first | refine blk_drewN ?_ _ | refine blk_drew ?_ | refine blk_alloc ?_ _)); refine blk_far ?_ NB206_209.out _; (with_reducible repeat (first | refine blk_drewN ?_ _ | refine blk_drew ?_ | refine blk_alloc ?_ _)); refine blk_far ?_ NB206_209.out _; (with_reducible repeat (first | refine blk_drewN ?_ _ | refine blk_drew ?_ | refine blk_alloc ?_ _)); exact BK206.out)) : gb206 ≠ gb210)); have n14_ := Aside0.mk ((by rw [hg]; exact Nat.ne_of_gt (blk_lt (g := gb206) (o := .cells #[.int .i64 x207000_2, .int .i64 x207001_2, .int .i64 x207002_2, .int .i64 x207003_2] 27 (0, 0)) (by (with_reducible repeat (first | refine blk_drewN ?_ _ | refine blk_drew ?_ | refine blk_alloc ?_ _)); refine blk_far ?_ NB206_209.out _; (with_reducible repeat (first | refine blk_drewN ?_ _ | refine blk_drew ?_ | refine blk_alloc ?_ _)); refine blk_far ?_ NB206_209.out _; (with_reducible repeat (first | refine blk_drewN ?_ _ | refine blk_drew ?_ | refine blk_alloc ?_ _)); refine blk_far ?_ NB206_209.out _; (with_reducible repeat (first | refine blk_drewN ?_ _ | refine blk_drew ?_ | refine blk_alloc ?_ _)); refine blk_far ?_ NB206_209.out _; (with_reducible repeat (first | refine blk_drewN ?_ _ | refine blk_drew ?_ | refine blk_alloc ?_ _)); refine blk_far ?_ NB206_209.out _; (with_reducible repeat (first | refine blk_drewN ?_ _ | refine blk_drew ?_ | refine blk_alloc ?_ _)); exact BK206.out)) : gb210 ≠ gb206)); have n15_ := Aside0.mk ((by rw [hg]; exact Nat.ne_of_lt (blk_lt (g := gb207) (o := .cells #[.int .i64 x208000_2, .int .i64 x208001_2, .int .i64 x208002_2, .int .i64 x208003_2] 27 (0, 0)) (by (with_reducible repeat (first | refine blk_drewN ?_ _ | refine blk_drew ?_ | refine blk_alloc ?_ _)); refine blk_far ?_ NB207_209.out _; (with_reducible repeat (first | refine blk_drewN ?_ _ | refine blk_drew ?_ | refine blk_alloc ?_ _)); refine blk_far ?_ NB207_209.out _; (with_reducible repeat (first | refine blk_drewN ?_ _ | refine blk_drew ?_ | refine blk_alloc ?_ _)); refine blk_far ?_ NB207_209.out _; (with_reducible repeat (first | refine blk_drewN ?_ _ | refine blk_drew ?_ | refine blk_alloc ?_ _)); refine blk_far ?_ NB207_209.out _; (with_reducible repeat (first | refine blk_drewN ?_ _ | refine blk_drew ?_ | refine blk_alloc ?_ _)); refine blk_far ?_ NB207_209.out _; (with_reducible repeat (first | refine blk_drewN ?_ _ | refine blk_drew ?_ | refine blk_alloc ?_ _)); exact BK207.out)) : gb207 ≠ gb210)); have n16_ := Aside0.mk ((by rw [hg]; exact Nat.ne_of_gt (blk_lt (g := gb207) (o := .cells #[.int .i64 x208000_2, .int .i64 x208001_2, .int .i64 x208002_2, .int .i64 x208003_2] 27 (0, 0)) (by (with_reducible repeat (first | refine blk_drewN ?_ _ | refine blk_drew ?_ | refine blk_alloc ?_ _)); refine blk_far ?_ NB207_209.out _; (with_reducible repeat (first | refine blk_drewN ?_ _ | refine blk_drew ?_ | refine blk_alloc ?_ _)); refine blk_far ?_ NB207_209.out _; (with_reducible repeat (first | refine blk_drewN ?_ _ | refine blk_drew ?_ | refine blk_alloc ?_ _)); refine blk_far ?_ NB207_209.out _; (with_reducible repeat (first | refine blk_drewN ?_ _ | refine blk_drew ?_ | refine blk_alloc ?_ _)); refine blk_far ?_ NB207_209.out _; (with_reducible repeat (first | refine blk_drewN ?_ _ | refine blk_drew ?_ | refine blk_alloc ?_ _)); refine blk_far ?_ NB207_209.out _; (with_reducible repeat (first | refine blk_drewN ?_ _ | refine blk_drew ?_ | refine blk_alloc ?_ _)); exact BK207.out)) : gb210 ≠ gb207)); have n17_ := Aside0.mk ((by rw [hg]; exact Nat.ne_of_lt (blk_lt (g := gb209) (o := .cells #[.int .i64 ((rd_T32 l0 x44_2).f0), .int .i64 ((rd_T32 l0 x44_2).f1.f0), .int .i64 ((rd_T32 l0 x44_2).f1.f1), .int .i64 ((rd_T32 l0 x44_2).f1.f2), .int .i64 ((rd_T32 l0 x44_2).f1.f3)] 32 (0, 0)) (by (with_reducible repeat (first | refine blk_drewN ?_ _ | refine blk_drew ?_ | refine blk_alloc ?_ _)); refine blk_put (cs := #[.int .i64 ((rd_T32 l0 x44_2).f0), .int .i64 ((rd_T32 l0 x44_2).f1.f0), .int .i64 ((rd_T32 l0 x44_2).f1.f1), .int .i64 ((rd_T32 l0 x44_2).f1.f2), .int .i64 0]) ?_ 4 _ rfl; (with_reducible repeat (first | refine blk_drewN ?_ _ | refine blk_drew ?_ | refine blk_alloc ?_ _)); refine blk_put (cs := #[.int .i64 ((rd_T32 l0 x44_2).f0), .int .i64 ((rd_T32 l0 x44_2).f1.f0), .int .i64 ((rd_T32 l0 x44_2).f1.f1), .int .i64 0, .int .i64 0]) ?_ 3 _ rfl; (with_reducible repeat (first | refine blk_drewN ?_ _ | refine blk_drew ?_ | refine blk_alloc ?_ _)); refine blk_put (cs := #[.int .i64 ((rd_T32 l0 x44_2).f0), .int .i64 ((rd_T32 l0 x44_2).f1.f0), .int .i64 0, .int .i64 0, .int .i64 0]) ?_ 2 _ rfl; (with_reducible repeat (first | refine blk_drewN ?_ _ | refine blk_drew ?_ | refine blk_alloc ?_ _)); refine blk_put (cs := #[.int .i64 ((rd_T32 l0 x44_2).f0), .int .i64 0, .int .i64 0, .int .i64 0, .int .i64 0]) ?_ 1 _ rfl; (with_reducible repeat (first | refine blk_drewN ?_ _ | refine blk_drew ?_ | refine blk_alloc ?_ _)); refine blk_put (cs := #[.int .i64 0, .int .i64 0, .int .i64 0, .int .i64 0, .int .i64 0]) ?_ 0 _ rfl; (with_reducible repeat (first | refine blk_drewN ?_ _ | refine blk_drew ?_ | refine blk_alloc ?_ _)); exact BK209.out)) : gb209 ≠ gb210)); have n18_ := Aside0.mk ((by rw [hg]; exact Nat.ne_of_gt (blk_lt (g := gb209) (o := .cells #[.int .i64 ((rd_T32 l0 x44_2).f0), .int .i64 ((rd_T32 l0 x44_2).f1.f0), .int .i64 ((rd_T32 l0 x44_2).f1.f1), .int .i64 ((rd_T32 l0 x44_2).f1.f2), .int .i64 ((rd_T32 l0 x44_2).f1.f3)] 32 (0, 0)) (by (with_reducible repeat (first | refine blk_drewN ?_ _ | refine blk_drew ?_ | refine blk_alloc ?_ _)); refine blk_put (cs := #[.int .i64 ((rd_T32 l0 x44_2).f0), .int .i64 ((rd_T32 l0 x44_2).f1.f0), .int .i64 ((rd_T32 l0 x44_2).f1.f1), .int .i64 ((rd_T32 l0 x44_2).f1.f2), .int .i64 0]) ?_ 4 _ rfl; (with_reducible repeat (first | refine blk_drewN ?_ _ | refine blk_drew ?_ | refine blk_alloc ?_ _)); refine blk_put (cs := #[.int .i64 ((rd_T32 l0 x44_2).f0), .int .i64 ((rd_T32 l0 x44_2).f1.f0), .int .i64 ((rd_T32 l0 x44_2).f1.f1), .int .i64 0, .int .i64 0]) ?_ 3 _ rfl; (with_reducible repeat (first | refine blk_drewN ?_ _ | refine blk_drew ?_ | refine blk_alloc ?_ _)); refine blk_put (cs := #[.int .i64 ((rd_T32 l0 x44_2).f0), .int .i64 ((rd_T32 l0 x44_2).f1.f0), .int .i64 0, .int .i64 0, .int .i64 0]) ?_ 2 _ rfl; (with_reducible repeat (first | refine blk_drewN ?_ _ | refine blk_drew ?_ | refine blk_alloc ?_ _)); refine blk_put (cs := #[.int .i64 ((rd_T32 l0 x44_2).f0), .int .i64 0, .int .i64 0, .int .i64 0, .int .i64 0]) ?_ 1 _ rfl; (with_reducible repeat (first | refine blk_drewN ?_ _ | refine blk_drew ?_ | refine blk_alloc ?_ _)); refine blk_put (cs := #[.int .i64 0, .int .i64 0, .int .i64 0, .int .i64 0, .int .i64 0]) ?_ 0 _ rfl; (with_reducible repeat (first | refine blk_drewN ?_ _ | refine blk_drew ?_ | refine blk_alloc ?_ _)); exact BK209.out)) : gb210 ≠ gb209)); clear BK202; clear BK205; clear BK206; clear BK207; clear BK209; clear HB; have BK202 := n0_; have BK205 := n1_; have BK206 := n2_; have BK207 := n3_; have BK209 := n4_; have HB := n5_; have BK210 := n6_; have GW210 := n7_; have GE210 := n8_; have NB202_210 := n9_; have NB210_202 := n10_; have NB205_210 := n11_; have NB210_205 := n12_; have NB206_210 := n13_; have NB210_206 := n14_; have NB207_210 := n15_; have NB210_207 := n16_; have NB209_210 := n17_; have NB210_209 := n18_; clear n0_ n1_ n2_ n3_ n4_ n5_ n6_ n7_ n8_ n9_ n10_ n11_ n12_ n13_ n14_ n15_ n16_ n17_ n18_; clear hb hbox hg; have hnb56 := NB210_202.out; have hnc56 := NB202_210.out; have hnb57 := NB210_205.out; have hnc57 := NB205_210.out; have hnb58 := NB210_206.out; have hnc58 := NB206_210.out; have hnb59 := NB210_207.out; have hnc59 := NB207_210.out; have hnb60 := NB210_209.out; have hnc60 := NB209_210.out; have hcz61_0 : w55.cell? ⟨gb210, 0, none⟩ = some (.int .i64 0) := (blk_cell BK210.out 0).trans rfl; have hcz61_1 : w55.cell? ⟨gb210, 1, none⟩ = some (.int .i64 0) := (blk_cell BK210.out 1).trans rfl; have hcz61_2 : w55.cell? ⟨gb210, 2, none⟩ = some (.int .i64 0) := (blk_cell BK210.out 2).trans rfl; have hcz61_3 : w55.cell? ⟨gb210, 3, none⟩ = some (.int .i64 0) := (blk_cell BK210.out 3).trans rfl; have hfz61_0 := blk_frozen BK210.out 0; have hfz61_1 := blk_frozen BK210.out 1; have hfz61_2 := blk_frozen BK210.out 2; have hfz61_3 := blk_frozen BK210.out 3; have hnb62 := NB205_202.out; have hnc62 := NB202_205.out; have hnb63 := NB205_206.out; have hnc63 := NB206_205.out; have hnb64 := NB205_207.out; have hnc64 := NB207_205.out; have hcz65_0 : w55.cell? ⟨gb205, 0, none⟩ = some (.int .i64 x206000_2) := (blk_cell BK205.out 0).trans rfl; have hcz65_1 : w55.cell? ⟨gb205, 1, none⟩ = some (.int .i64 x206001_2) := (blk_cell BK205.out 1).trans rfl; have hcz65_2 : w55.cell? ⟨gb205, 2, none⟩ = some (.int .i64 x206002_2) := (blk_cell BK205.out 2).trans rfl; have hcz65_3 : w55.cell? ⟨gb205, 3, none⟩ = some (.int .i64 x206003_2) := (blk_cell BK205.out 3).trans rfl; have hfz65_0 := blk_frozen BK205.out 0; have hfz65_1 := blk_frozen BK205.out 1; have hfz65_2 := blk_frozen BK205.out 2; have hfz65_3 := blk_frozen BK205.out 3; have hnb66 := NB206_202.out; have hnc66 := NB202_206.out; have hnb67 := NB206_207.out; have hnc67 := NB207_206.out; have hcz68_0 : w55.cell? ⟨gb206, 0, none⟩ = some (.int .i64 x207000_2) := (blk_cell BK206.out 0).trans rfl; have hcz68_1 : w55.cell? ⟨gb206, 1, none⟩ = some (.int .i64 x207001_2) := (blk_cell BK206.out 1).trans rfl; have hcz68_2 : w55.cell? ⟨gb206, 2, none⟩ = some (.int .i64 x207002_2) := (blk_cell BK206.out 2).trans rfl; have hcz68_3 : w55.cell? ⟨gb206, 3, none⟩ = some (.int .i64 x207003_2) := (blk_cell BK206.out 3).trans rfl; have hfz68_0 := blk_frozen BK206.out 0; have hfz68_1 := blk_frozen BK206.out 1; have hfz68_2 := blk_frozen BK206.out 2; have hfz68_3 := blk_frozen BK206.out 3; have hcz69_0 : w55.cell? ⟨gb209, 0, none⟩ = some (.int .i64 ((rd_T32 l0 x44_2).f0)) := (blk_cell BK209.out 0).trans rfl; have hcz69_1 : w55.cell? ⟨gb209, 1, none⟩ = some (.int .i64 ((rd_T32 l0 x44_2).f1.f0)) := (blk_cell BK209.out 1).trans rfl; have hcz69_2 : w55.cell? ⟨gb209, 2, none⟩ = some (.int .i64 ((rd_T32 l0 x44_2).f1.f1)) := (blk_cell BK209.out 2).trans rfl; have hcz69_3 : w55.cell? ⟨gb209, 3, none⟩ = some (.int .i64 ((rd_T32 l0 x44_2).f1.f2)) := (blk_cell BK209.out 3).trans rfl; have hcz69_4 : w55.cell? ⟨gb209, 4, none⟩ = some (.int .i64 ((rd_T32 l0 x44_2).f1.f3)) := (blk_cell BK209.out 4).trans rfl; have hfz69_0 := blk_frozen BK209.out 0; have hfz69_1 := blk_frozen BK209.out 1; have hfz69_2 := blk_frozen BK209.out 2; have hfz69_3 := blk_frozen BK209.out 3; have hfz69_4 := blk_frozen BK209.out 4))
           have n0_ : Aside0 (((((((((((((w55.setCell ⟨gb210, 0, none⟩ (.int .i64 ((rd_T32 l0 x44_2).f1.f0))).setCell ⟨gb210, 1, none⟩ (.int .i64 ((rd_T32 l0 x44_2).f1.f1))).setCell ⟨gb210, 2, none⟩ (.int .i64 ((rd_T32 l0 x44_2).f1.f2))).setCell ⟨gb210, 3, none⟩ (.int .i64 ((rd_T32 l0 x44_2).f1.f3))).setCell ⟨gb205, 0, none⟩ (.int .i64 ji40)).setCell ⟨gb205, 1, none⟩ (.int .i64 ji41)).setCell ⟨gb205, 2, none⟩ (.int .i64 ji42)).setCell ⟨gb205, 3, none⟩ (.int .i64 ji43)).setCell ⟨gb206, 0, none⟩ (.int .i64 ji44)).setCell ⟨gb206, 1, none⟩ (.int .i64 ji45)).setCell ⟨gb206, 2, none⟩ (.int .i64 ji46)).setCell ⟨gb206, 3, none⟩ (.int .i64 ji47)).heap[gb202]? = some (.cells #[.int .i64 t198, .int .i64 t199, .int .i64 t200, .int .i64 t201] 27 (0, 0))) := ⟨by (with_reducible repeat (first | refine blk_drewN ?_ _ | refine blk_drew ?_ | refine blk_alloc ?_ _)); refine blk_far ?_ NB202_206.out _; (with_reducible repeat (first | refine blk_drewN ?_ _ | refine blk_drew ?_ | refine blk_alloc ?_ _)); refine blk_far ?_ NB202_206.out _; (with_reducible repeat (first | refine blk_drewN ?_ _ | refine blk_drew ?_ | refine blk_alloc ?_ _)); refine blk_far ?_ NB202_206.out _; (with_reducible repeat (first | refine blk_drewN ?_ _ | refine blk_drew ?_ | refine blk_alloc ?_ _)); refine blk_far ?_ NB202_206.out _; (with_reducible repeat (first | refine blk_drewN ?_ _ | refine blk_drew ?_ | refine blk_alloc ?_ _)); refine blk_far ?_ NB202_205.out _; (with_reducible repeat (first | refine blk_drewN ?_ _ | refine blk_drew ?_ | refine blk_alloc ?_ _)); refine blk_far ?_ NB202_205.out _; (with_reducible repeat (first | refine blk_drewN ?_ _ | refine blk_drew ?_ | refine blk_alloc ?_ _)); refine blk_far ?_ NB202_205.out _; (with_reducible repeat (first | refine blk_drewN ?_ _ | refine blk_drew ?_ | refine blk_alloc ?_ _)); refine blk_far ?_ NB202_205.out _; (with_reducible repeat (first | refine blk_drewN ?_ _ | refine blk_drew ?_ | refine blk_alloc ?_ _)); refine blk_far ?_ NB202_210.out _; (with_reducible repeat (first | refine blk_drewN ?_ _ | refine blk_drew ?_ | refine blk_alloc ?_ _)); refine blk_far ?_ NB202_210.out _; (with_reducible repeat (first | refine blk_drewN ?_ _ | refine blk_drew ?_ | refine blk_alloc ?_ _)); refine blk_far ?_ NB202_210.out _; (with_reducible repeat (first | refine blk_drewN ?_ _ | refine blk_drew ?_ | refine blk_alloc ?_ _)); refine blk_far ?_ NB202_210.out _; (with_reducible repeat (first | refine blk_drewN ?_ _ | refine blk_drew ?_ | refine blk_alloc ?_ _)); exact BK202.out⟩
           have n1_ : Aside0 (((((((((((((w55.setCell ⟨gb210, 0, none⟩ (.int .i64 ((rd_T32 l0 x44_2).f1.f0))).setCell ⟨gb210, 1, none⟩ (.int .i64 ((rd_T32 l0 x44_2).f1.f1))).setCell ⟨gb210, 2, none⟩ (.int .i64 ((rd_T32 l0 x44_2).f1.f2))).setCell ⟨gb210, 3, none⟩ (.int .i64 ((rd_T32 l0 x44_2).f1.f3))).setCell ⟨gb205, 0, none⟩ (.int .i64 ji40)).setCell ⟨gb205, 1, none⟩ (.int .i64 ji41)).setCell ⟨gb205, 2, none⟩ (.int .i64 ji42)).setCell ⟨gb205, 3, none⟩ (.int .i64 ji43)).setCell ⟨gb206, 0, none⟩ (.int .i64 ji44)).setCell ⟨gb206, 1, none⟩ (.int .i64 ji45)).setCell ⟨gb206, 2, none⟩ (.int .i64 ji46)).setCell ⟨gb206, 3, none⟩ (.int .i64 ji47)).heap[gb205]? = some (.cells #[.int .i64 ji40, .int .i64 ji41, .int .i64 ji42, .int .i64 ji43] 27 (0, 0))) := ⟨by (with_reducible repeat (first | refine blk_drewN ?_ _ | refine blk_drew ?_ | refine blk_alloc ?_ _)); refine blk_far ?_ NB205_206.out _; (with_reducible repeat (first | refine blk_drewN ?_ _ | refine blk_drew ?_ | refine blk_alloc ?_ _)); refine blk_far ?_ NB205_206.out _; (with_reducible repeat (first | refine blk_drewN ?_ _ | refine blk_drew ?_ | refine blk_alloc ?_ _)); refine blk_far ?_ NB205_206.out _; (with_reducible repeat (first | refine blk_drewN ?_ _ | refine blk_drew ?_ | refine blk_alloc ?_ _)); refine blk_far ?_ NB205_206.out _; (with_reducible repeat (first | refine blk_drewN ?_ _ | refine blk_drew ?_ | refine blk_alloc ?_ _)); refine blk_put (cs := #[.int .i64 ji40, .int .i64 ji41, .int .i64 ji42, .int .i64 x206003_2]) ?_ 3 _ rfl; (with_reducible repeat (first | refine blk_drewN ?_ _ | refine blk_drew ?_ | refine blk_alloc ?_ _)); refine blk_put (cs := #[.int .i64 ji40, .int .i64 ji41, .int .i64 x206002_2, .int .i64 x206003_2]) ?_ 2 _ rfl; (with_reducible repeat (first | refine blk_drewN ?_ _ | refine blk_drew ?_ | refine blk_alloc ?_ _)); refine blk_put (cs := #[.int .i64 ji40, .int .i64 x206001_2, .int .i64 x206002_2, .int .i64 x206003_2]) ?_ 1 _ rfl; (with_reducible repeat (first | refine blk_drewN ?_ _ | refine blk_drew ?_ | refine blk_alloc ?_ _)); refine blk_put (cs := #[.int .i64 x206000_2, .int .i64 x206001_2, .int .i64 x206002_2, .int .i64 x206003_2]) ?_ 0 _ rfl; (with_reducible repeat (first | refine blk_drewN ?_ _ | refine blk_drew ?_ | refine blk_alloc ?_ _)); refine blk_far ?_ NB205_210.out _; (with_reducible repeat (first | refine blk_drewN ?_ _ | refine blk_drew ?_ | refine blk_alloc ?_ _)); refine blk_far ?_ NB205_210.out _; (with_reducible repeat (first | refine blk_drewN ?_ _ | refine blk_drew ?_ | refine blk_alloc ?_ _)); refine blk_far ?_ NB205_210.out _; (with_reducible repeat (first | refine blk_drewN ?_ _ | refine blk_drew ?_ | refine blk_alloc ?_ _)); refine blk_far ?_ NB205_210.out _; (with_reducible repeat (first | refine blk_drewN ?_ _ | refine blk_drew ?_ | refine blk_alloc ?_ _)); exact BK205.out⟩
           have n2_ : Aside0 (((((((((((((w55.setCell ⟨gb210, 0, none⟩ (.int .i64 ((rd_T32 l0 x44_2).f1.f0))).setCell ⟨gb210, 1, none⟩ (.int .i64 ((rd_T32 l0 x44_2).f1.f1))).setCell ⟨gb210, 2, none⟩ (.int .i64 ((rd_T32 l0 x44_2).f1.f2))).setCell ⟨gb210, 3, none⟩ (.int .i64 ((rd_T32 l0 x44_2).f1.f3))).setCell ⟨gb205, 0, none⟩ (.int .i64 ji40)).setCell ⟨gb205, 1, none⟩ (.int .i64 ji41)).setCell ⟨gb205, 2, none⟩ (.int .i64 ji42)).setCell ⟨gb205, 3, none⟩ (.int .i64 ji43)).setCell ⟨gb206, 0, none⟩ (.int .i64 ji44)).setCell ⟨gb206, 1, none⟩ (.int .i64 ji45)).setCell ⟨gb206, 2, none⟩ (.int .i64 ji46)).setCell ⟨gb206, 3, none⟩ (.int .i64 ji47)).heap[gb206]? = some (.cells #[.int .i64 ji44, .int .i64 ji45, .int .i64 ji46, .int .i64 ji47] 27 (0, 0))) := ⟨by (with_reducible repeat (first | refine blk_drewN ?_ _ | refine blk_drew ?_ | refine blk_alloc ?_ _)); refine blk_put (cs := #[.int .i64 ji44, .int .i64 ji45, .int .i64 ji46, .int .i64 x207003_2]) ?_ 3 _ rfl; (with_reducible repeat (first | refine blk_drewN ?_ _ | refine blk_drew ?_ | refine blk_alloc ?_ _)); refine blk_put (cs := #[.int .i64 ji44, .int .i64 ji45, .int .i64 x207002_2, .int .i64 x207003_2]) ?_ 2 _ rfl; (with_reducible repeat (first | refine blk_drewN ?_ _ | refine blk_drew ?_ | refine blk_alloc ?_ _)); refine blk_put (cs := #[.int .i64 ji44, .int .i64 x207001_2, .int .i64 x207002_2, .int .i64 x207003_2]) ?_ 1 _ rfl; (with_reducible repeat (first | refine blk_drewN ?_ _ | refine blk_drew ?_ | refine blk_alloc ?_ _)); refine blk_put (cs := #[.int .i64 x207000_2, .int .i64 x207001_2, .int .i64 x207002_2, .int .i64 x207003_2]) ?_ 0 _ rfl; (with_reducible repeat (first | refine blk_drewN ?_ _ | refine blk_drew ?_ | refine blk_alloc ?_ _)); refine blk_far ?_ NB206_205.out _; (with_reducible repeat (first | refine blk_drewN ?_ _ | refine blk_drew ?_ | refine blk_alloc ?_ _)); refine blk_far ?_ NB206_205.out _; (with_reducible repeat (first | refine blk_drewN ?_ _ | refine blk_drew ?_ | refine blk_alloc ?_ _)); refine blk_far ?_ NB206_205.out _; (with_reducible repeat (first | refine blk_drewN ?_ _ | refine blk_drew ?_ | refine blk_alloc ?_ _)); refine blk_far ?_ NB206_205.out _; (with_reducible repeat (first | refine blk_drewN ?_ _ | refine blk_drew ?_ | refine blk_alloc ?_ _)); refine blk_far ?_ NB206_210.out _; (with_reducible repeat (first | refine blk_drewN ?_ _ | refine blk_drew ?_ | refine blk_alloc ?_ _)); refine blk_far ?_ NB206_210.out _; (with_reducible repeat (first | refine blk_drewN ?_ _ | refine blk_drew ?_ | refine blk_alloc ?_ _)); refine blk_far ?_ NB206_210.out _; (with_reducible repeat (first | refine blk_drewN ?_ _ | refine blk_drew ?_ | refine blk_alloc ?_ _)); refine blk_far ?_ NB206_210.out _; (with_reducible repeat (first | refine blk_drewN ?_ _ | refine blk_drew ?_ | refine blk_alloc ?_ _)); exact BK206.out⟩
           have n3_ : Aside0 (((((((((((((w55.setCell ⟨gb210, 0, none⟩ (.int .i64 ((rd_T32 l0 x44_2).f1.f0))).setCell ⟨gb210, 1, none⟩ (.int .i64 ((rd_T32 l0 x44_2).f1.f1))).setCell ⟨gb210, 2, none⟩ (.int .i64 ((rd_T32 l0 x44_2).f1.f2))).setCell ⟨gb210, 3, none⟩ (.int .i64 ((rd_T32 l0 x44_2).f1.f3))).setCell ⟨gb205, 0, none⟩ (.int .i64 ji40)).setCell ⟨gb205, 1, none⟩ (.int .i64 ji41)).setCell ⟨gb205, 2, none⟩ (.int .i64 ji42)).setCell ⟨gb205, 3, none⟩ (.int .i64 ji43)).setCell ⟨gb206, 0, none⟩ (.int .i64 ji44)).setCell ⟨gb206, 1, none⟩ (.int .i64 ji45)).setCell ⟨gb206, 2, none⟩ (.int .i64 ji46)).setCell ⟨gb206, 3, none⟩ (.int .i64 ji47)).heap[gb207]? = some (.cells #[.int .i64 x208000_2, .int .i64 x208001_2, .int .i64 x208002_2, .int .i64 x208003_2] 27 (0, 0))) := ⟨by (with_reducible repeat (first | refine blk_drewN ?_ _ | refine blk_drew ?_ | refine blk_alloc ?_ _)); refine blk_far ?_ NB207_206.out _; (with_reducible repeat (first | refine blk_drewN ?_ _ | refine blk_drew ?_ | refine blk_alloc ?_ _)); refine blk_far ?_ NB207_206.out _; (with_reducible repeat (first | refine blk_drewN ?_ _ | refine blk_drew ?_ | refine blk_alloc ?_ _)); refine blk_far ?_ NB207_206.out _; (with_reducible repeat (first | refine blk_drewN ?_ _ | refine blk_drew ?_ | refine blk_alloc ?_ _)); refine blk_far ?_ NB207_206.out _; (with_reducible repeat (first | refine blk_drewN ?_ _ | refine blk_drew ?_ | refine blk_alloc ?_ _)); refine blk_far ?_ NB207_205.out _; (with_reducible repeat (first | refine blk_drewN ?_ _ | refine blk_drew ?_ | refine blk_alloc ?_ _)); refine blk_far ?_ NB207_205.out _; (with_reducible repeat (first | refine blk_drewN ?_ _ | refine blk_drew ?_ | refine blk_alloc ?_ _)); refine blk_far ?_ NB207_205.out _; (with_reducible repeat (first | refine blk_drewN ?_ _ | refine blk_drew ?_ | refine blk_alloc ?_ _)); refine blk_far ?_ NB207_205.out _; (with_reducible repeat (first | refine blk_drewN ?_ _ | refine blk_drew ?_ | refine blk_alloc ?_ _)); refine blk_far ?_ NB207_210.out _; (with_reducible repeat (first | refine blk_drewN ?_ _ | refine blk_drew ?_ | refine blk_alloc ?_ _)); refine blk_far ?_ NB207_210.out _; (with_reducible repeat (first | refine blk_drewN ?_ _ | refine blk_drew ?_ | refine blk_alloc ?_ _)); refine blk_far ?_ NB207_210.out _; (with_reducible repeat (first | refine blk_drewN ?_ _ | refine blk_drew ?_ | refine blk_alloc ?_ _)); refine blk_far ?_ NB207_210.out _; (with_reducible repeat (first | refine blk_drewN ?_ _ | refine blk_drew ?_ | refine blk_alloc ?_ _)); exact BK207.out⟩
           have n4_ : Aside0 (((((((((((((w55.setCell ⟨gb210, 0, none⟩ (.int .i64 ((rd_T32 l0 x44_2).f1.f0))).setCell ⟨gb210, 1, none⟩ (.int .i64 ((rd_T32 l0 x44_2).f1.f1))).setCell ⟨gb210, 2, none⟩ (.int .i64 ((rd_T32 l0 x44_2).f1.f2))).setCell ⟨gb210, 3, none⟩ (.int .i64 ((rd_T32 l0 x44_2).f1.f3))).setCell ⟨gb205, 0, none⟩ (.int .i64 ji40)).setCell ⟨gb205, 1, none⟩ (.int .i64 ji41)).setCell ⟨gb205, 2, none⟩ (.int .i64 ji42)).setCell ⟨gb205, 3, none⟩ (.int .i64 ji43)).setCell ⟨gb206, 0, none⟩ (.int .i64 ji44)).setCell ⟨gb206, 1, none⟩ (.int .i64 ji45)).setCell ⟨gb206, 2, none⟩ (.int .i64 ji46)).setCell ⟨gb206, 3, none⟩ (.int .i64 ji47)).heap[gb209]? = some (.cells #[.int .i64 ((rd_T32 l0 x44_2).f0), .int .i64 ((rd_T32 l0 x44_2).f1.f0), .int .i64 ((rd_T32 l0 x44_2).f1.f1), .int .i64 ((rd_T32 l0 x44_2).f1.f2), .int .i64 ((rd_T32 l0 x44_2).f1.f3)] 32 (0, 0))) := ⟨by (with_reducible repeat (first | refine blk_drewN ?_ _ | refine blk_drew ?_ | refine blk_alloc ?_ _)); refine blk_far ?_ NB209_206.out _; (with_reducible repeat (first | refine blk_drewN ?_ _ | refine blk_drew ?_ | refine blk_alloc ?_ _)); refine blk_far ?_ NB209_206.out _; (with_reducible repeat (first | refine blk_drewN ?_ _ | refine blk_drew ?_ | refine blk_alloc ?_ _)); refine blk_far ?_ NB209_206.out _; (with_reducible repeat (first | refine blk_drewN ?_ _ | refine blk_drew ?_ | refine blk_alloc ?_ _)); refine blk_far ?_ NB209_206.out _; (with_reducible repeat (first | refine blk_drewN ?_ _ | refine blk_drew ?_ | refine blk_alloc ?_ _)); refine blk_far ?_ NB209_205.out _; (with_reducible repeat (first | refine blk_drewN ?_ _ | refine blk_drew ?_ | refine blk_alloc ?_ _)); refine blk_far ?_ NB209_205.out _; (with_reducible repeat (first | refine blk_drewN ?_ _ | refine blk_drew ?_ | refine blk_alloc ?_ _)); refine blk_far ?_ NB209_205.out _; (with_reducible repeat (first | refine blk_drewN ?_ _ | refine blk_drew ?_ | refine blk_alloc ?_ _)); refine blk_far ?_ NB209_205.out _; (with_reducible repeat (first | refine blk_drewN ?_ _ | refine blk_drew ?_ | refine blk_alloc ?_ _)); refine blk_far ?_ NB209_210.out _; (with_reducible repeat (first | refine blk_drewN ?_ _ | refine blk_drew ?_ | refine blk_alloc ?_ _)); refine blk_far ?_ NB209_210.out _; (with_reducible repeat (first | refine blk_drewN ?_ _ | refine blk_drew ?_ | refine blk_alloc ?_ _)); refine blk_far ?_ NB209_210.out _; (with_reducible repeat (first | refine blk_drewN ?_ _ | refine blk_drew ?_ | refine blk_alloc ?_ _)); refine blk_far ?_ NB209_210.out _; (with_reducible repeat (first | refine blk_drewN ?_ _ | refine blk_drew ?_ | refine blk_alloc ?_ _)); exact BK209.out⟩
           have n5_ : Aside0 (((((((((((((w55.setCell ⟨gb210, 0, none⟩ (.int .i64 ((rd_T32 l0 x44_2).f1.f0))).setCell ⟨gb210, 1, none⟩ (.int .i64 ((rd_T32 l0 x44_2).f1.f1))).setCell ⟨gb210, 2, none⟩ (.int .i64 ((rd_T32 l0 x44_2).f1.f2))).setCell ⟨gb210, 3, none⟩ (.int .i64 ((rd_T32 l0 x44_2).f1.f3))).setCell ⟨gb205, 0, none⟩ (.int .i64 ji40)).setCell ⟨gb205, 1, none⟩ (.int .i64 ji41)).setCell ⟨gb205, 2, none⟩ (.int .i64 ji42)).setCell ⟨gb205, 3, none⟩ (.int .i64 ji43)).setCell ⟨gb206, 0, none⟩ (.int .i64 ji44)).setCell ⟨gb206, 1, none⟩ (.int .i64 ji45)).setCell ⟨gb206, 2, none⟩ (.int .i64 ji46)).setCell ⟨gb206, 3, none⟩ (.int .i64 ji47)).heap[gb210]? = some (.cells #[.int .i64 ((rd_T32 l0 x44_2).f1.f0), .int .i64 ((rd_T32 l0 x44_2).f1.f1), .int .i64 ((rd_T32 l0 x44_2).f1.f2), .int .i64 ((rd_T32 l0 x44_2).f1.f3)] 27 (0, 0))) := ⟨by (with_reducible repeat (first | refine blk_drewN ?_ _ | refine blk_drew ?_ | refine blk_alloc ?_ _)); refine blk_far ?_ NB210_206.out _; (with_reducible repeat (first | refine blk_drewN ?_ _ | refine blk_drew ?_ | refine blk_alloc ?_ _)); refine blk_far ?_ NB210_206.out _; (with_reducible repeat (first | refine blk_drewN ?_ _ | refine blk_drew ?_ | refine blk_alloc ?_ _)); refine blk_far ?_ NB210_206.out _; (with_reducible repeat (first | refine blk_drewN ?_ _ | refine blk_drew ?_ | refine blk_alloc ?_ _)); refine blk_far ?_ NB210_206.out _; (with_reducible repeat (first | refine blk_drewN ?_ _ | refine blk_drew ?_ | refine blk_alloc ?_ _)); refine blk_far ?_ NB210_205.out _; (with_reducible repeat (first | refine blk_drewN ?_ _ | refine blk_drew ?_ | refine blk_alloc ?_ _)); refine blk_far ?_ NB210_205.out _; (with_reducible repeat (first | refine blk_drewN ?_ _ | refine blk_drew ?_ | refine blk_alloc ?_ _)); refine blk_far ?_ NB210_205.out _; (with_reducible repeat (first | refine blk_drewN ?_ _ | refine blk_drew ?_ | refine blk_alloc ?_ _)); refine blk_far ?_ NB210_205.out _; (with_reducible repeat (first | refine blk_drewN ?_ _ | refine blk_drew ?_ | refine blk_alloc ?_ _)); refine blk_put (cs := #[.int .i64 ((rd_T32 l0 x44_2).f1.f0), .int .i64 ((rd_T32 l0 x44_2).f1.f1), .int .i64 ((rd_T32 l0 x44_2).f1.f2), .int .i64 0]) ?_ 3 _ rfl; (with_reducible repeat (first | refine blk_drewN ?_ _ | refine blk_drew ?_ | refine blk_alloc ?_ _)); refine blk_put (cs := #[.int .i64 ((rd_T32 l0 x44_2).f1.f0), .int .i64 ((rd_T32 l0 x44_2).f1.f1), .int .i64 0, .int .i64 0]) ?_ 2 _ rfl; (with_reducible repeat (first | refine blk_drewN ?_ _ | refine blk_drew ?_ | refine blk_alloc ?_ _)); refine blk_put (cs := #[.int .i64 ((rd_T32 l0 x44_2).f1.f0), .int .i64 0, .int .i64 0, .int .i64 0]) ?_ 1 _ rfl; (with_reducible repeat (first | refine blk_drewN ?_ _ | refine blk_drew ?_ | refine blk_alloc ?_ _)); refine blk_put (cs := #[.int .i64 0, .int .i64 0, .int .i64 0, .int .i64 0]) ?_ 0 _ rfl; (with_reducible repeat (first | refine blk_drewN ?_ _ | refine blk_drew ?_ | refine blk_alloc ?_ _)); exact BK210.out⟩
           have n6_ : Aside0 (Below w.heap.size w ((((((((((((w55.setCell ⟨gb210, 0, none⟩ (.int .i64 ((rd_T32 l0 x44_2).f1.f0))).setCell ⟨gb210, 1, none⟩ (.int .i64 ((rd_T32 l0 x44_2).f1.f1))).setCell ⟨gb210, 2, none⟩ (.int .i64 ((rd_T32 l0 x44_2).f1.f2))).setCell ⟨gb210, 3, none⟩ (.int .i64 ((rd_T32 l0 x44_2).f1.f3))).setCell ⟨gb205, 0, none⟩ (.int .i64 ji40)).setCell ⟨gb205, 1, none⟩ (.int .i64 ji41)).setCell ⟨gb205, 2, none⟩ (.int .i64 ji42)).setCell ⟨gb205, 3, none⟩ (.int .i64 ji43)).setCell ⟨gb206, 0, none⟩ (.int .i64 ji44)).setCell ⟨gb206, 1, none⟩ (.int .i64 ji45)).setCell ⟨gb206, 2, none⟩ (.int .i64 ji46)).setCell ⟨gb206, 3, none⟩ (.int .i64 ji47))) := ⟨by repeat (first | (with_reducible first | exact HB.out | apply below_alloc | apply pw_below_drewN | apply below_drew1 | refine below_set ?_ GE202.out | refine below_set ?_ GE205.out | refine below_set ?_ GE206.out | refine below_set ?_ GE207.out | refine below_set ?_ GE209.out | refine below_set ?_ GE210.out) | exact HB.out)⟩
           (try clear BK202)
           (try clear BK205)
           (try clear BK206)
           (try clear BK207)
           (try clear BK209)
           (try clear BK210)
           (try clear HB)
           generalize ((((((((((((w55.setCell ⟨gb210, 0, none⟩ (.int .i64 ((rd_T32 l0 x44_2).f1.f0))).setCell ⟨gb210, 1, none⟩ (.int .i64 ((rd_T32 l0 x44_2).f1.f1))).setCell ⟨gb210, 2, none⟩ (.int .i64 ((rd_T32 l0 x44_2).f1.f2))).setCell ⟨gb210, 3, none⟩ (.int .i64 ((rd_T32 l0 x44_2).f1.f3))).setCell ⟨gb205, 0, none⟩ (.int .i64 ji40)).setCell ⟨gb205, 1, none⟩ (.int .i64 ji41)).setCell ⟨gb205, 2, none⟩ (.int .i64 ji42)).setCell ⟨gb205, 3, none⟩ (.int .i64 ji43)).setCell ⟨gb206, 0, none⟩ (.int .i64 ji44)).setCell ⟨gb206, 1, none⟩ (.int .i64 ji45)).setCell ⟨gb206, 2, none⟩ (.int .i64 ji46)).setCell ⟨gb206, 3, none⟩ (.int .i64 ji47)) = w70 at n0_ n1_ n2_ n3_ n4_ n5_ n6_ ⊢
           have BK202 := n0_
           have BK205 := n1_
           have BK206 := n2_
           have BK207 := n3_
           have BK209 := n4_
           have BK210 := n5_
           have HB := n6_
           clear n0_ n1_ n2_ n3_ n4_ n5_ n6_
           have n0_ := Aside0.mk (blk_drew BK202.out)
           have n1_ := Aside0.mk (blk_drew BK205.out)
           have n2_ := Aside0.mk (blk_drew BK206.out)
           have n3_ := Aside0.mk (blk_drew BK207.out)
           have n4_ := Aside0.mk (blk_drew BK209.out)
           have n5_ := Aside0.mk (blk_drew BK210.out)
           have n6_ := Aside0.mk (below_drew1 HB.out)
           clear BK202
           clear BK205
           clear BK206
           clear BK207
           clear BK209
           clear BK210
           clear HB
           have BK202 := n0_
           have BK205 := n1_
           have BK206 := n2_
           have BK207 := n3_
           have BK209 := n4_
           have BK210 := n5_
           have HB := n6_
           clear n0_ n1_ n2_ n3_ n4_ n5_ n6_
           refine start_ (n := 5) (S := fun w' => w'.cell? ⟨gb210, 0, none⟩ = some (.int .i64 ((rd_T32 l0 x44_2).f1.f0)) ∧ w'.cell? ⟨gb210, 1, none⟩ = some (.int .i64 ((rd_T32 l0 x44_2).f1.f1)) ∧ w'.cell? ⟨gb210, 2, none⟩ = some (.int .i64 ((rd_T32 l0 x44_2).f1.f2)) ∧ w'.cell? ⟨gb210, 3, none⟩ = some (.int .i64 ((rd_T32 l0 x44_2).f1.f3))) (ds := []) #[false, false, false, false, false] (by kernel_rfl) rfl rfl ⟨(blk_cell BK210.out 0).trans rfl, (blk_cell BK210.out 1).trans rfl, (blk_cell BK210.out 2).trans rfl, (blk_cell BK210.out 3).trans rfl⟩ (fun hHeld => ?_)
           generalize w70.drew = w71 at BK202 BK205 BK206 BK207 BK209 BK210 HB hHeld ⊢
           refine pure_ (i := 0) (N := some 96) (v := ?_) (a' := ?_) #[true, false, false, false, false] rfl rfl (by kernel_rfl) (fun _ _ _ h => h) (Or.inl ⟨by rfl, ?_⟩) ?_ ?_
           rotate_left
           ·intro w'
            go_simp
            with_reducible rfl
           rotate_left
           ·simp only [Act.put, List.setIfInBounds_toArray, List.set_cons_zero, List.set_cons_succ, i64_w, i32_w]
            rfl
           refine pure_ (i := 1) (N := some 97) (v := ?_) (a' := ?_) #[true, true, false, false, false] rfl rfl (by kernel_rfl) (fun _ _ _ h => h) (Or.inl ⟨by rfl, ?_⟩) ?_ ?_
           rotate_left
           ·intro w'
            go_simp
            with_reducible rfl
           rotate_left
           ·simp only [Act.put, List.setIfInBounds_toArray, List.set_cons_zero, List.set_cons_succ, i64_w, i32_w]
            rfl
           refine pure_ (i := 3) (N := some 8) (v := ?_) (a' := ?_) #[true, true, false, true, false] rfl rfl (by kernel_rfl) (fun _ _ _ h => h) (Or.inl ⟨by rfl, ?_⟩) ?_ ?_
           rotate_left
           ·intro w'
            go_simp
            with_reducible rfl
           rotate_left
           ·simp only [Act.put, List.setIfInBounds_toArray, List.set_cons_zero, List.set_cons_succ, i64_w, i32_w]
            rfl
           refine take_ (i := 2) (N := some 98) (v := ?_) (a' := ?_) #[true, true, true, true, false] rfl rfl (by kernel_rfl) (fun _ _ _ h => h) (Or.inl ⟨by rfl, ?_⟩) hHeld ?_ ?_
           rotate_left
           ·rintro w' ⟨s0, s1, s2, s3⟩
            go_simp
            with_reducible rfl
           rotate_left
           ·simp only [Act.put, List.setIfInBounds_toArray, List.set_cons_zero, List.set_cons_succ, i64_w, i32_w]
            rfl
           refine one_ (i := 4) (N := none) #[true, true, true, true, true] rfl rfl (by kernel_rfl) (by decide) (fun K hK => ?_)
           have hs72 : w71.cell? ⟨gb207, 0, none⟩ = some (.int .i64 x208000_2) := (blk_cell BK207.out 0).trans rfl
           have hfs72 := blk_frozen BK207.out 0
           have hns72_0 := NB202_207.out
           have hns72_1 := NB205_207.out
           have hns72_2 := NB206_207.out
           have hns72_4 := NB209_207.out
           have hns72_5 := NB210_207.out
           have hms72_0 := NB207_202.out
           have hms72_1 := NB207_205.out
           have hms72_2 := NB207_206.out
           have hms72_4 := NB207_209.out
           have hms72_5 := NB207_210.out
           have hs73 : w71.cell? ⟨gb207, 1, none⟩ = some (.int .i64 x208001_2) := (blk_cell BK207.out 1).trans rfl
           have hfs73 := blk_frozen BK207.out 1
           have hns73_0 := NB202_207.out
           have hns73_1 := NB205_207.out
           have hns73_2 := NB206_207.out
           have hns73_4 := NB209_207.out
           have hns73_5 := NB210_207.out
           have hms73_0 := NB207_202.out
           have hms73_1 := NB207_205.out
           have hms73_2 := NB207_206.out
           have hms73_4 := NB207_209.out
           have hms73_5 := NB207_210.out
           have hs74 : w71.cell? ⟨gb207, 2, none⟩ = some (.int .i64 x208002_2) := (blk_cell BK207.out 2).trans rfl
           have hfs74 := blk_frozen BK207.out 2
           have hns74_0 := NB202_207.out
           have hns74_1 := NB205_207.out
           have hns74_2 := NB206_207.out
           have hns74_4 := NB209_207.out
           have hns74_5 := NB210_207.out
           have hms74_0 := NB207_202.out
           have hms74_1 := NB207_205.out
           have hms74_2 := NB207_206.out
           have hms74_4 := NB207_209.out
           have hms74_5 := NB207_210.out
           have hs75 : w71.cell? ⟨gb207, 3, none⟩ = some (.int .i64 x208003_2) := (blk_cell BK207.out 3).trans rfl
           have hfs75 := blk_frozen BK207.out 3
           have hns75_0 := NB202_207.out
           have hns75_1 := NB205_207.out
           have hns75_2 := NB206_207.out
           have hns75_4 := NB209_207.out
           have hns75_5 := NB210_207.out
           have hms75_0 := NB207_202.out
           have hms75_1 := NB207_205.out
           have hms75_2 := NB207_206.out
           have hms75_4 := NB207_209.out
           have hms75_5 := NB207_210.out
           refine skip_ (w1 := ?_) (by rfl) rfl ?_ ?_
           rotate_left
           ·go_simp
            rfl
           refine hK.out _ _ ⟨((cell_far (p := ⟨gb207, _, none⟩) NB210_207.out _).trans (((cell_far (p := ⟨gb207, _, none⟩) NB210_207.out _).trans (((cell_far (p := ⟨gb207, _, none⟩) NB210_207.out _).trans (((cell_far (p := ⟨gb207, _, none⟩) NB210_207.out _).trans (hHeld.1)))))))), ((cell_far (p := ⟨gb207, _, none⟩) NB210_207.out _).trans (((cell_far (p := ⟨gb207, _, none⟩) NB210_207.out _).trans (((cell_far (p := ⟨gb207, _, none⟩) NB210_207.out _).trans (((cell_far (p := ⟨gb207, _, none⟩) NB210_207.out _).trans (hHeld.2.1)))))))), ((cell_far (p := ⟨gb207, _, none⟩) NB210_207.out _).trans (((cell_far (p := ⟨gb207, _, none⟩) NB210_207.out _).trans (((cell_far (p := ⟨gb207, _, none⟩) NB210_207.out _).trans (((cell_far (p := ⟨gb207, _, none⟩) NB210_207.out _).trans (hHeld.2.2.1)))))))), ((cell_far (p := ⟨gb207, _, none⟩) NB210_207.out _).trans (((cell_far (p := ⟨gb207, _, none⟩) NB210_207.out _).trans (((cell_far (p := ⟨gb207, _, none⟩) NB210_207.out _).trans (((cell_far (p := ⟨gb207, _, none⟩) NB210_207.out _).trans (hHeld.2.2.2))))))))⟩ (fun hHeld => ?_)
           clear hK K
           refine done_ (by kernel_rfl) ?_
           try go_wp2
           go_roundg k2
           case measure => have := HJ2.out; have := HK2.out; omega
           case rel => exact ⟨(wrap64 (x8_2 + 1)), (wrap64 (x44_2 + 1)), (ji40), (ji41), (ji42), (ji43), (ji44), (ji45), (ji46), (ji47), ((rd_T32 l0 x44_2).f1.f0), ((rd_T32 l0 x44_2).f1.f1), ((rd_T32 l0 x44_2).f1.f2), ((rd_T32 l0 x44_2).f1.f3), (by first | rfl | (simp; done) | (simp [*]; done)), (by first | rfl | (simp; done) | (simp [*]; done)), H', ⟨by have := HJ2.out; have := HK2.out; omega⟩, ⟨by (with_reducible repeat (first | refine blk_drewN ?_ _ | refine blk_drew ?_ | refine blk_alloc ?_ _)); refine blk_far ?_ NB202_207.out _; (with_reducible repeat (first | refine blk_drewN ?_ _ | refine blk_drew ?_ | refine blk_alloc ?_ _)); refine blk_far ?_ NB202_207.out _; (with_reducible repeat (first | refine blk_drewN ?_ _ | refine blk_drew ?_ | refine blk_alloc ?_ _)); refine blk_far ?_ NB202_207.out _; (with_reducible repeat (first | refine blk_drewN ?_ _ | refine blk_drew ?_ | refine blk_alloc ?_ _)); refine blk_far ?_ NB202_207.out _; (with_reducible repeat (first | refine blk_drewN ?_ _ | refine blk_drew ?_ | refine blk_alloc ?_ _)); exact BK202.out⟩, ⟨by (with_reducible repeat (first | refine blk_drewN ?_ _ | refine blk_drew ?_ | refine blk_alloc ?_ _)); refine blk_far ?_ NB205_207.out _; (with_reducible repeat (first | refine blk_drewN ?_ _ | refine blk_drew ?_ | refine blk_alloc ?_ _)); refine blk_far ?_ NB205_207.out _; (with_reducible repeat (first | refine blk_drewN ?_ _ | refine blk_drew ?_ | refine blk_alloc ?_ _)); refine blk_far ?_ NB205_207.out _; (with_reducible repeat (first | refine blk_drewN ?_ _ | refine blk_drew ?_ | refine blk_alloc ?_ _)); refine blk_far ?_ NB205_207.out _; (with_reducible repeat (first | refine blk_drewN ?_ _ | refine blk_drew ?_ | refine blk_alloc ?_ _)); exact BK205.out⟩, ⟨by (with_reducible repeat (first | refine blk_drewN ?_ _ | refine blk_drew ?_ | refine blk_alloc ?_ _)); refine blk_far ?_ NB206_207.out _; (with_reducible repeat (first | refine blk_drewN ?_ _ | refine blk_drew ?_ | refine blk_alloc ?_ _)); refine blk_far ?_ NB206_207.out _; (with_reducible repeat (first | refine blk_drewN ?_ _ | refine blk_drew ?_ | refine blk_alloc ?_ _)); refine blk_far ?_ NB206_207.out _; (with_reducible repeat (first | refine blk_drewN ?_ _ | refine blk_drew ?_ | refine blk_alloc ?_ _)); refine blk_far ?_ NB206_207.out _; (with_reducible repeat (first | refine blk_drewN ?_ _ | refine blk_drew ?_ | refine blk_alloc ?_ _)); exact BK206.out⟩, ⟨by (with_reducible repeat (first | refine blk_drewN ?_ _ | refine blk_drew ?_ | refine blk_alloc ?_ _)); refine blk_put (cs := #[.int .i64 ((rd_T32 l0 x44_2).f1.f0), .int .i64 ((rd_T32 l0 x44_2).f1.f1), .int .i64 ((rd_T32 l0 x44_2).f1.f2), .int .i64 x208003_2]) ?_ 3 _ rfl; (with_reducible repeat (first | refine blk_drewN ?_ _ | refine blk_drew ?_ | refine blk_alloc ?_ _)); refine blk_put (cs := #[.int .i64 ((rd_T32 l0 x44_2).f1.f0), .int .i64 ((rd_T32 l0 x44_2).f1.f1), .int .i64 x208002_2, .int .i64 x208003_2]) ?_ 2 _ rfl; (with_reducible repeat (first | refine blk_drewN ?_ _ | refine blk_drew ?_ | refine blk_alloc ?_ _)); refine blk_put (cs := #[.int .i64 ((rd_T32 l0 x44_2).f1.f0), .int .i64 x208001_2, .int .i64 x208002_2, .int .i64 x208003_2]) ?_ 1 _ rfl; (with_reducible repeat (first | refine blk_drewN ?_ _ | refine blk_drew ?_ | refine blk_alloc ?_ _)); refine blk_put (cs := #[.int .i64 x208000_2, .int .i64 x208001_2, .int .i64 x208002_2, .int .i64 x208003_2]) ?_ 0 _ rfl; (with_reducible repeat (first | refine blk_drewN ?_ _ | refine blk_drew ?_ | refine blk_alloc ?_ _)); exact BK207.out⟩, ⟨by repeat (first | (with_reducible first | exact HB.out | apply below_alloc | apply pw_below_drewN | apply below_drew1 | refine below_set ?_ GE202.out | refine below_set ?_ GE205.out | refine below_set ?_ GE206.out | refine below_set ?_ GE207.out | refine below_set ?_ GE209.out | refine below_set ?_ GE210.out) | exact HB.out)⟩⟩
          ·rw [if_neg c48] at H
           have c48b0 : (((rd_T32 l0 x44_2).f0) == a1) = false := beq_eq_false_iff_ne.mpr c48
           have c48b1 : (((rd_T32 l0 x44_2).f0) != a1) = true := bne_iff_ne.mpr c48
           have H' := Aside0.mk H
           clear H
           have p208 : 0 ≤ (x44_2 : Int) := of_decide_eq_true (by first | (with_reducible assumption) | assumption)
           have q208 : x44_2 < (l0.length : Int) := of_decide_eq_true (by first | (with_reducible assumption) | assumption)
           obtain ⟨ad208, e208, hx208_0, hx208_1, hx208_2, hx208_3, hx208_4⟩ := at_T32 HR0.out x44_2 p208 q208
           obtain rfl : ad203 = ad208 := (by injection e208)
           replace hx208_0 := (HB.out.cell (World.block_lt_of_cell? w _ hx208_0)).trans hx208_0
           replace hx208_1 := (HB.out.cell (World.block_lt_of_cell? w _ hx208_1)).trans hx208_1
           replace hx208_2 := (HB.out.cell (World.block_lt_of_cell? w _ hx208_2)).trans hx208_2
           replace hx208_3 := (HB.out.cell (World.block_lt_of_cell? w _ hx208_3)).trans hx208_3
           replace hx208_4 := (HB.out.cell (World.block_lt_of_cell? w _ hx208_4)).trans hx208_4
           replace p208 := eq_true p208
           replace q208 := eq_true q208
           go_wp2_with (first | ((with_reducible refine gate_dst (N := 11) rfl ?_); refine box_event ?hg (N := 11) ?hd (cs := #[.int .i64 0, .int .i64 0, .int .i64 0, .int .i64 0, .int .i64 0]) (t := 32) ?hr ?_; (case hd => rfl); (case hg => rfl); (case hr => first | (go_simp; done) | (go_simp; rfl)); intro gb209 hg w76 hbox hb; have n0_ := Aside0.mk (blk_below (g := gb202) (o := .cells #[.int .i64 t198, .int .i64 t199, .int .i64 t200, .int .i64 t201] 27 (0, 0)) (by (with_reducible repeat (first | refine blk_drewN ?_ _ | refine blk_drew ?_ | refine blk_alloc ?_ _)); exact BK202.out) hb); have n1_ := Aside0.mk (blk_below (g := gb205) (o := .cells #[.int .i64 x206000_2, .int .i64 x206001_2, .int .i64 x206002_2, .int .i64 x206003_2] 27 (0, 0)) (by (with_reducible repeat (first | refine blk_drewN ?_ _ | refine blk_drew ?_ | refine blk_alloc ?_ _)); exact BK205.out) hb); have n2_ := Aside0.mk (blk_below (g := gb206) (o := .cells #[.int .i64 x207000_2, .int .i64 x207001_2, .int .i64 x207002_2, .int .i64 x207003_2] 27 (0, 0)) (by (with_reducible repeat (first | refine blk_drewN ?_ _ | refine blk_drew ?_ | refine blk_alloc ?_ _)); exact BK206.out) hb); have n3_ := Aside0.mk (blk_below (g := gb207) (o := .cells #[.int .i64 x208000_2, .int .i64 x208001_2, .int .i64 x208002_2, .int .i64 x208003_2] 27 (0, 0)) (by (with_reducible repeat (first | refine blk_drewN ?_ _ | refine blk_drew ?_ | refine blk_alloc ?_ _)); exact BK207.out) hb); have n4_ := Aside0.mk (below_step (by repeat (first | (with_reducible first | exact HB.out | apply below_alloc | apply pw_below_drewN | apply below_drew1 | refine below_set ?_ GE202.out | refine below_set ?_ GE205.out | refine below_set ?_ GE206.out | refine below_set ?_ GE207.out) | exact HB.out)) hb); have n5_ := Aside0.mk (hbox); have n6_ := Aside0.mk ((by rw [hg]; exact (below_size (by repeat (first | (with_reducible first | exact HB.out | apply below_alloc | apply pw_below_drewN | apply below_drew1 | refine below_set ?_ GE202.out | refine below_set ?_ GE205.out | refine below_set ?_ GE206.out | refine below_set ?_ GE207.out) | exact HB.out))) : w.heap.size ≤ gb209)); have n7_ := Aside0.mk ((by rw [hg]; exact (below_size (by repeat (first | (with_reducible first | exact HB.out | apply below_alloc | apply pw_below_drewN | apply below_drew1 | refine below_set ?_ GE202.out | refine below_set ?_ GE205.out | refine below_set ?_ GE206.out | refine below_set ?_ GE207.out) | exact HB.out))) : w.heap.size ≤ gb209)); have n8_ := Aside0.mk ((by rw [hg]; exact Nat.ne_of_lt (blk_lt (g := gb202) (o := .cells #[.int .i64 t198, .int .i64 t199, .int .i64 t200, .int .i64 t201] 27 (0, 0)) (by (with_reducible repeat (first | refine blk_drewN ?_ _ | refine blk_drew ?_ | refine blk_alloc ?_ _)); exact BK202.out)) : gb202 ≠ gb209)); have n9_ := Aside0.mk ((by rw [hg]; exact Nat.ne_of_gt (blk_lt (g := gb202) (o := .cells #[.int .i64 t198, .int .i64 t199, .int .i64 t200, .int .i64 t201] 27 (0, 0)) (by (with_reducible repeat (first | refine blk_drewN ?_ _ | refine blk_drew ?_ | refine blk_alloc ?_ _)); exact BK202.out)) : gb209 ≠ gb202)); have n10_ := Aside0.mk ((by rw [hg]; exact Nat.ne_of_lt (blk_lt (g := gb205) (o := .cells #[.int .i64 x206000_2, .int .i64 x206001_2, .int .i64 x206002_2, .int .i64 x206003_2] 27 (0, 0)) (by (with_reducible repeat (first | refine blk_drewN ?_ _ | refine blk_drew ?_ | refine blk_alloc ?_ _)); exact BK205.out)) : gb205 ≠ gb209)); have n11_ := Aside0.mk ((by rw [hg]; exact Nat.ne_of_gt (blk_lt (g := gb205) (o := .cells #[.int .i64 x206000_2, .int .i64 x206001_2, .int .i64 x206002_2, .int .i64 x206003_2] 27 (0, 0)) (by (with_reducible repeat (first | refine blk_drewN ?_ _ | refine blk_drew ?_ | refine blk_alloc ?_ _)); exact BK205.out)) : gb209 ≠ gb205)); have n12_ := Aside0.mk ((by rw [hg]; exact Nat.ne_of_lt (blk_lt (g := gb206) (o := .cells #[.int .i64 x207000_2, .int .i64 x207001_2, .int .i64 x207002_2, .int .i64 x207003_2] 27 (0, 0)) (by (with_reducible repeat (first | refine blk_drewN ?_ _ | refine blk_drew ?_ | refine blk_alloc ?_ _)); exact BK206.out)) : gb206 ≠ gb209)); have n13_ := Aside0.mk ((by rw [hg]; exact Nat.ne_of_gt (blk_lt (g := gb206) (o := .cells #[.int .i64 x207000_2, .int .i64 x207001_2, .int .i64 x207002_2, .int .i64 x207003_2] 27 (0, 0)) (by (with_reducible repeat (first | refine blk_drewN ?_ _ | refine blk_drew ?_ | refine blk_alloc ?_ _)); exact BK206.out)) : gb209 ≠ gb206)); have n14_ := Aside0.mk ((by rw [hg]; exact Nat.ne_of_lt (blk_lt (g := gb207) (o := .cells #[.int .i64 x208000_2, .int .i64 x208001_2, .int .i64 x208002_2, .int .i64 x208003_2] 27 (0, 0)) (by (with_reducible repeat (first | refine blk_drewN ?_ _ | refine blk_drew ?_ | refine blk_alloc ?_ _)); exact BK207.out)) : gb207 ≠ gb209)); have n15_ := Aside0.mk ((by rw [hg]; exact Nat.ne_of_gt (blk_lt (g := gb207) (o := .cells #[.int .i64 x208000_2, .int .i64 x208001_2, .int .i64 x208002_2, .int .i64 x208003_2] 27 (0, 0)) (by (with_reducible repeat (first | refine blk_drewN ?_ _ | refine blk_drew ?_ | refine blk_alloc ?_ _)); exact BK207.out)) : gb209 ≠ gb207)); clear BK202; clear BK205; clear BK206; clear BK207; clear HB; have BK202 := n0_; have BK205 := n1_; have BK206 := n2_; have BK207 := n3_; have HB := n4_; have BK209 := n5_; have GW209 := n6_; have GE209 := n7_; have NB202_209 := n8_; have NB209_202 := n9_; have NB205_209 := n10_; have NB209_205 := n11_; have NB206_209 := n12_; have NB209_206 := n13_; have NB207_209 := n14_; have NB209_207 := n15_; clear n0_ n1_ n2_ n3_ n4_ n5_ n6_ n7_ n8_ n9_ n10_ n11_ n12_ n13_ n14_ n15_; clear hb hbox hg; have hnb77 := NB209_202.out; have hnc77 := NB202_209.out; have hnb78 := NB209_205.out; have hnc78 := NB205_209.out; have hnb79 := NB209_206.out; have hnc79 := NB206_209.out; have hnb80 := NB209_207.out; have hnc80 := NB207_209.out; have hcz81_0 : w76.cell? ⟨gb209, 0, none⟩ = some (.int .i64 0) := (blk_cell BK209.out 0).trans rfl; have hcz81_1 : w76.cell? ⟨gb209, 1, none⟩ = some (.int .i64 0) := (blk_cell BK209.out 1).trans rfl; have hcz81_2 : w76.cell? ⟨gb209, 2, none⟩ = some (.int .i64 0) := (blk_cell BK209.out 2).trans rfl; have hcz81_3 : w76.cell? ⟨gb209, 3, none⟩ = some (.int .i64 0) := (blk_cell BK209.out 3).trans rfl; have hcz81_4 : w76.cell? ⟨gb209, 4, none⟩ = some (.int .i64 0) := (blk_cell BK209.out 4).trans rfl; have hfz81_0 := blk_frozen BK209.out 0; have hfz81_1 := blk_frozen BK209.out 1; have hfz81_2 := blk_frozen BK209.out 2; have hfz81_3 := blk_frozen BK209.out 3; have hfz81_4 := blk_frozen BK209.out 4) | ((with_reducible refine gate_dst (N := 12) rfl ?_); refine box_event ?hg (N := 12) ?hd (cs := #[.int .i64 0, .int .i64 0, .int .i64 0, .int .i64 0]) (t := 27) ?hr ?_; (case hd => rfl); (case hg => rfl); (case hr => first | (go_simp; done) | (go_simp; rfl)); intro gb210 hg w82 hbox hb; have n0_ := Aside0.mk (blk_below (g := gb202) (o := .cells #[.int .i64 t198, .int .i64 t199, .int .i64 t200, .int .i64 t201] 27 (0, 0)) (by (with_reducible repeat (first | refine blk_drewN ?_ _ | refine blk_drew ?_ | refine blk_alloc ?_ _)); refine blk_far ?_ NB202_209.out _; (with_reducible repeat (first | refine blk_drewN ?_ _ | refine blk_drew ?_ | refine blk_alloc ?_ _)); refine blk_far ?_ NB202_209.out _; (with_reducible repeat (first | refine blk_drewN ?_ _ | refine blk_drew ?_ | refine blk_alloc ?_ _)); refine blk_far ?_ NB202_209.out _; (with_reducible repeat (first | refine blk_drewN ?_ _ | refine blk_drew ?_ | refine blk_alloc ?_ _)); refine blk_far ?_ NB202_209.out _; (with_reducible repeat (first | refine blk_drewN ?_ _ | refine blk_drew ?_ | refine blk_alloc ?_ _)); refine blk_far ?_ NB202_209.out _; (with_reducible repeat (first | refine blk_drewN ?_ _ | refine blk_drew ?_ | refine blk_alloc ?_ _)); exact BK202.out) hb); have n1_ := Aside0.mk (blk_below (g := gb205) (o := .cells #[.int .i64 x206000_2, .int .i64 x206001_2, .int .i64 x206002_2, .int .i64 x206003_2] 27 (0, 0)) (by (with_reducible repeat (first | refine blk_drewN ?_ _ | refine blk_drew ?_ | refine blk_alloc ?_ _)); refine blk_far ?_ NB205_209.out _; (with_reducible repeat (first | refine blk_drewN ?_ _ | refine blk_drew ?_ | refine blk_alloc ?_ _)); refine blk_far ?_ NB205_209.out _; (with_reducible repeat (first | refine blk_drewN ?_ _ | refine blk_drew ?_ | refine blk_alloc ?_ _)); refine blk_far ?_ NB205_209.out _; (with_reducible repeat (first | refine blk_drewN ?_ _ | refine blk_drew ?_ | refine blk_alloc ?_ _)); refine blk_far ?_ NB205_209.out _; (with_reducible repeat (first | refine blk_drewN ?_ _ | refine blk_drew ?_ | refine blk_alloc ?_ _)); refine blk_far ?_ NB205_209.out _; (with_reducible repeat (first | refine blk_drewN ?_ _ | refine blk_drew ?_ | refine blk_alloc ?_ _)); exact BK205.out) hb); have n2_ := Aside0.mk (blk_below (g := gb206) (o := .cells #[.int .i64 x207000_2, .int .i64 x207001_2, .int .i64 x207002_2, .int .i64 x207003_2] 27 (0, 0)) (by (with_reducible repeat (first | refine blk_drewN ?_ _ | refine blk_drew ?_ | refine blk_alloc ?_ _)); refine blk_far ?_ NB206_209.out _; (with_reducible repeat (first | refine blk_drewN ?_ _ | refine blk_drew ?_ | refine blk_alloc ?_ _)); refine blk_far ?_ NB206_209.out _; (with_reducible repeat (first | refine blk_drewN ?_ _ | refine blk_drew ?_ | refine blk_alloc ?_ _)); refine blk_far ?_ NB206_209.out _; (with_reducible repeat (first | refine blk_drewN ?_ _ | refine blk_drew ?_ | refine blk_alloc ?_ _)); refine blk_far ?_ NB206_209.out _; (with_reducible repeat (first | refine blk_drewN ?_ _ | refine blk_drew ?_ | refine blk_alloc ?_ _)); refine blk_far ?_ NB206_209.out _; (with_reducible repeat (first | refine blk_drewN ?_ _ | refine blk_drew ?_ | refine blk_alloc ?_ _)); exact BK206.out) hb); have n3_ := Aside0.mk (blk_below (g := gb207) (o := .cells #[.int .i64 x208000_2, .int .i64 x208001_2, .int .i64 x208002_2, .int .i64 x208003_2] 27 (0, 0)) (by (with_reducible repeat (first | refine blk_drewN ?_ _ | refine blk_drew ?_ | refine blk_alloc ?_ _)); refine blk_far ?_ NB207_209.out _; (with_reducible repeat (first | refine blk_drewN ?_ _ | refine blk_drew ?_ | refine blk_alloc ?_ _)); refine blk_far ?_ NB207_209.out _; (with_reducible repeat (first | refine blk_drewN ?_ _ | refine blk_drew ?_ | refine blk_alloc ?_ _)); refine blk_far ?_ NB207_209.out _; (with_reducible repeat (first | refine blk_drewN ?_ _ | refine blk_drew ?_ | refine blk_alloc ?_ _)); refine blk_far ?_ NB207_209.out _; (with_reducible repeat (first | refine blk_drewN ?_ _ | refine blk_drew ?_ | refine blk_alloc ?_ _)); refine blk_far ?_ NB207_209.out _; (with_reducible repeat (first | refine blk_drewN ?_ _ | refine blk_drew ?_ | refine blk_alloc ?_ _)); exact BK207.out) hb); have n4_ := Aside0.mk (blk_below (g := gb209) (o := .cells #[.int .i64 ((rd_T32 l0 x44_2).f0), .int .i64 ((rd_T32 l0 x44_2).f1.f0), .int .i64 ((rd_T32 l0 x44_2).f1.f1), .int .i64 ((rd_T32 l0 x44_2).f1.f2), .int .i64 ((rd_T32 l0 x44_2).f1.f3)] 32 (0, 0)) (by (with_reducible repeat (first | refine blk_drewN ?_ _ | refine blk_drew ?_ | refine blk_alloc ?_ _)); refine blk_put (cs := #[.int .i64 ((rd_T32 l0 x44_2).f0), .int .i64 ((rd_T32 l0 x44_2).f1.f0), .int .i64 ((rd_T32 l0 x44_2).f1.f1), .int .i64 ((rd_T32 l0 x44_2).f1.f2), .int .i64 0]) ?_ 4 _ rfl; (with_reducible repeat (first | refine blk_drewN ?_ _ | refine blk_drew ?_ | refine blk_alloc ?_ _)); refine blk_put (cs := #[.int .i64 ((rd_T32 l0 x44_2).f0), .int .i64 ((rd_T32 l0 x44_2).f1.f0), .int .i64 ((rd_T32 l0 x44_2).f1.f1), .int .i64 0, .int .i64 0]) ?_ 3 _ rfl; (with_reducible repeat (first | refine blk_drewN ?_ _ | refine blk_drew ?_ | refine blk_alloc ?_ _)); refine blk_put (cs := #[.int .i64 ((rd_T32 l0 x44_2).f0), .int .i64 ((rd_T32 l0 x44_2).f1.f0), .int .i64 0, .int .i64 0, .int .i64 0]) ?_ 2 _ rfl; (with_reducible repeat (first | refine blk_drewN ?_ _ | refine blk_drew ?_ | refine blk_alloc ?_ _)); refine blk_put (cs := #[.int .i64 ((rd_T32 l0 x44_2).f0), .int .i64 0, .int .i64 0, .int .i64 0, .int .i64 0]) ?_ 1 _ rfl; (with_reducible repeat (first | refine blk_drewN ?_ _ | refine blk_drew ?_ | refine blk_alloc ?_ _)); refine blk_put (cs := #[.int .i64 0, .int .i64 0, .int .i64 0, .int .i64 0, .int .i64 0]) ?_ 0 _ rfl; (with_reducible repeat (first | refine blk_drewN ?_ _ | refine blk_drew ?_ | refine blk_alloc ?_ _)); exact BK209.out) hb); have n5_ := Aside0.mk (below_step (by repeat (first | (with_reducible first | exact HB.out | apply below_alloc | apply pw_below_drewN | apply below_drew1 | refine below_set ?_ GE202.out | refine below_set ?_ GE205.out | refine below_set ?_ GE206.out | refine below_set ?_ GE207.out | refine below_set ?_ GE209.out) | exact HB.out)) hb); have n6_ := Aside0.mk (hbox); have n7_ := Aside0.mk ((by rw [hg]; exact (below_size (by repeat (first | (with_reducible first | exact HB.out | apply below_alloc | apply pw_below_drewN | apply below_drew1 | refine below_set ?_ GE202.out | refine below_set ?_ GE205.out | refine below_set ?_ GE206.out | refine below_set ?_ GE207.out | refine below_set ?_ GE209.out) | exact HB.out))) : w.heap.size ≤ gb210)); have n8_ := Aside0.mk ((by rw [hg]; exact (below_size (by repeat (first | (with_reducible first | exact HB.out | apply below_alloc | apply pw_below_drewN | apply below_drew1 | refine below_set ?_ GE202.out | refine below_set ?_ GE205.out | refine below_set ?_ GE206.out | refine below_set ?_ GE207.out | refine below_set ?_ GE209.out) | exact HB.out))) : w.heap.size ≤ gb210)); have n9_ := Aside0.mk ((by rw [hg]; exact Nat.ne_of_lt (blk_lt (g := gb202) (o := .cells #[.int .i64 t198, .int .i64 t199, .int .i64 t200, .int .i64 t201] 27 (0, 0)) (by (with_reducible repeat (first | refine blk_drewN ?_ _ | refine blk_drew ?_ | refine blk_alloc ?_ _)); refine blk_far ?_ NB202_209.out _; (with_reducible repeat (first | refine blk_drewN ?_ _ | refine blk_drew ?_ | refine blk_alloc ?_ _)); refine blk_far ?_ NB202_209.out _; (with_reducible repeat (first | refine blk_drewN ?_ _ | refine blk_drew ?_ | refine blk_alloc ?_ _)); refine blk_far ?_ NB202_209.out _; (with_reducible repeat (first | refine blk_drewN ?_ _ | refine blk_drew ?_ | refine blk_alloc ?_ _)); refine blk_far ?_ NB202_209.out _; (with_reducible repeat (first | refine blk_drewN ?_ _ | refine blk_drew ?_ | refine blk_alloc ?_ _)); refine blk_far ?_ NB202_209.out _; (with_reducible repeat (first | refine blk_drewN ?_ _ | refine blk_drew ?_ | refine blk_alloc ?_ _)); exact BK202.out)) : gb202 ≠ gb210)); have n10_ := Aside0.mk ((by rw [hg]; exact Nat.ne_of_gt (blk_lt (g := gb202) (o := .cells #[.int .i64 t198, .int .i64 t199, .int .i64 t200, .int .i64 t201] 27 (0, 0)) (by (with_reducible repeat (first | refine blk_drewN ?_ _ | refine blk_drew ?_ | refine blk_alloc ?_ _)); refine blk_far ?_ NB202_209.out _; (with_reducible repeat (first | refine blk_drewN ?_ _ | refine blk_drew ?_ | refine blk_alloc ?_ _)); refine blk_far ?_ NB202_209.out _; (with_reducible repeat (first | refine blk_drewN ?_ _ | refine blk_drew ?_ | refine blk_alloc ?_ _)); refine blk_far ?_ NB202_209.out _; (with_reducible repeat (first | refine blk_drewN ?_ _ | refine blk_drew ?_ | refine blk_alloc ?_ _)); refine blk_far ?_ NB202_209.out _; (with_reducible repeat (first | refine blk_drewN ?_ _ | refine blk_drew ?_ | refine blk_alloc ?_ _)); refine blk_far ?_ NB202_209.out _; (with_reducible repeat (first | refine blk_drewN ?_ _ | refine blk_drew ?_ | refine blk_alloc ?_ _)); exact BK202.out)) : gb210 ≠ gb202)); have n11_ := Aside0.mk ((by rw [hg]; exact Nat.ne_of_lt (blk_lt (g := gb205) (o := .cells #[.int .i64 x206000_2, .int .i64 x206001_2, .int .i64 x206002_2, .int .i64 x206003_2] 27 (0, 0)) (by (with_reducible repeat (first | refine blk_drewN ?_ _ | refine blk_drew ?_ | refine blk_alloc ?_ _)); refine blk_far ?_ NB205_209.out _; (with_reducible repeat (first | refine blk_drewN ?_ _ | refine blk_drew ?_ | refine blk_alloc ?_ _)); refine blk_far ?_ NB205_209.out _; (with_reducible repeat (first | refine blk_drewN ?_ _ | refine blk_drew ?_ | refine blk_alloc ?_ _)); refine blk_far ?_ NB205_209.out _; (with_reducible repeat (first | refine blk_drewN ?_ _ | refine blk_drew ?_ | refine blk_alloc ?_ _)); refine blk_far ?_ NB205_209.out _; (with_reducible repeat (first | refine blk_drewN ?_ _ | refine blk_drew ?_ | refine blk_alloc ?_ _)); refine blk_far ?_ NB205_209.out _; (with_reducible repeat (first | refine blk_drewN ?_ _ | refine blk_drew ?_ | refine blk_alloc ?_ _)); exact BK205.out)) : gb205 ≠ gb210)); have n12_ := Aside0.mk ((by rw [hg]; exact Nat.ne_of_gt (blk_lt (g := gb205) (o := .cells #[.int .i64 x206000_2, .int .i64 x206001_2, .int .i64 x206002_2, .int .i64 x206003_2] 27 (0, 0)) (by (with_reducible repeat (first | refine blk_drewN ?_ _ | refine blk_drew ?_ | refine blk_alloc ?_ _)); refine blk_far ?_ NB205_209.out _; (with_reducible repeat (first | refine blk_drewN ?_ _ | refine blk_drew ?_ | refine blk_alloc ?_ _)); refine blk_far ?_ NB205_209.out _; (with_reducible repeat (first | refine blk_drewN ?_ _ | refine blk_drew ?_ | refine blk_alloc ?_ _)); refine blk_far ?_ NB205_209.out _; (with_reducible repeat (first | refine blk_drewN ?_ _ | refine blk_drew ?_ | refine blk_alloc ?_ _)); refine blk_far ?_ NB205_209.out _; (with_reducible repeat (first | refine blk_drewN ?_ _ | refine blk_drew ?_ | refine blk_alloc ?_ _)); refine blk_far ?_ NB205_209.out _; (with_reducible repeat (first | refine blk_drewN ?_ _ | refine blk_drew ?_ | refine blk_alloc ?_ _)); exact BK205.out)) : gb210 ≠ gb205)); have n13_ := Aside0.mk ((by rw [hg]; exact Nat.ne_of_lt (blk_lt (g := gb206) (o := .cells #[.int .i64 x207000_2, .int .i64 x207001_2, .int .i64 x207002_2, .int .i64 x207003_2] 27 (0, 0)) (by (with_reducible repeat (first | refine blk_drewN ?_ _ | refine blk_drew ?_ | refine blk_alloc ?_ _)); refine blk_far ?_ NB206_209.out _; (with_reducible repeat (first | refine blk_drewN ?_ _ | refine blk_drew ?_ | refine blk_alloc ?_ _)); refine blk_far ?_ NB206_209.out _; (with_reducible repeat (first | refine blk_drewN ?_ _ | refine blk_drew ?_ | refine blk_alloc ?_ _)); refine blk_far ?_ NB206_209.out _; (with_reducible repeat (first | refine blk_drewN ?_ _ | refine blk_drew ?_ | refine blk_alloc ?_ _)); refine blk_far ?_ NB206_209.out _; (with_reducible repeat (first | refine blk_drewN ?_ _ | refine blk_drew ?_ | refine blk_alloc ?_ _)); refine blk_far ?_ NB206_209.out _; (with_reducible repeat (first | refine blk_drewN ?_ _ | refine blk_drew ?_ | refine blk_alloc ?_ _)); exact BK206.out)) : gb206 ≠ gb210)); have n14_ := Aside0.mk ((by rw [hg]; exact Nat.ne_of_gt (blk_lt (g := gb206) (o := .cells #[.int .i64 x207000_2, .int .i64 x207001_2, .int .i64 x207002_2, .int .i64 x207003_2] 27 (0, 0)) (by (with_reducible repeat (first | refine blk_drewN ?_ _ | refine blk_drew ?_ | refine blk_alloc ?_ _)); refine blk_far ?_ NB206_209.out _; (with_reducible repeat (first | refine blk_drewN ?_ _ | refine blk_drew ?_ | refine blk_alloc ?_ _)); refine blk_far ?_ NB206_209.out _; (with_reducible repeat (first | refine blk_drewN ?_ _ | refine blk_drew ?_ | refine blk_alloc ?_ _)); refine blk_far ?_ NB206_209.out _; (with_reducible repeat (first | refine blk_drewN ?_ _ | refine blk_drew ?_ | refine blk_alloc ?_ _)); refine blk_far ?_ NB206_209.out _; (with_reducible repeat (first | refine blk_drewN ?_ _ | refine blk_drew ?_ | refine blk_alloc ?_ _)); refine blk_far ?_ NB206_209.out _; (with_reducible repeat (first | refine blk_drewN ?_ _ | refine blk_drew ?_ | refine blk_alloc ?_ _)); exact BK206.out)) : gb210 ≠ gb206)); have n15_ := Aside0.mk ((by rw [hg]; exact Nat.ne_of_lt (blk_lt (g := gb207) (o := .cells #[.int .i64 x208000_2, .int .i64 x208001_2, .int .i64 x208002_2, .int .i64 x208003_2] 27 (0, 0)) (by (with_reducible repeat (first | refine blk_drewN ?_ _ | refine blk_drew ?_ | refine blk_alloc ?_ _)); refine blk_far ?_ NB207_209.out _; (with_reducible repeat (first | refine blk_drewN ?_ _ | refine blk_drew ?_ | refine blk_alloc ?_ _)); refine blk_far ?_ NB207_209.out _; (with_reducible repeat (first | refine blk_drewN ?_ _ | refine blk_drew ?_ | refine blk_alloc ?_ _)); refine blk_far ?_ NB207_209.out _; (with_reducible repeat (first | refine blk_drewN ?_ _ | refine blk_drew ?_ | refine blk_alloc ?_ _)); refine blk_far ?_ NB207_209.out _; (with_reducible repeat (first | refine blk_drewN ?_ _ | refine blk_drew ?_ | refine blk_alloc ?_ _)); refine blk_far ?_ NB207_209.out _; (with_reducible repeat (first | refine blk_drewN ?_ _ | refine blk_drew ?_ | refine blk_alloc ?_ _)); exact BK207.out)) : gb207 ≠ gb210)); have n16_ := Aside0.mk ((by rw [hg]; exact Nat.ne_of_gt (blk_lt (g := gb207) (o := .cells #[.int .i64 x208000_2, .int .i64 x208001_2, .int .i64 x208002_2, .int .i64 x208003_2] 27 (0, 0)) (by (with_reducible repeat (first | refine blk_drewN ?_ _ | refine blk_drew ?_ | refine blk_alloc ?_ _)); refine blk_far ?_ NB207_209.out _; (with_reducible repeat (first | refine blk_drewN ?_ _ | refine blk_drew ?_ | refine blk_alloc ?_ _)); refine blk_far ?_ NB207_209.out _; (with_reducible repeat (first | refine blk_drewN ?_ _ | refine blk_drew ?_ | refine blk_alloc ?_ _)); refine blk_far ?_ NB207_209.out _; (with_reducible repeat (first | refine blk_drewN ?_ _ | refine blk_drew ?_ | refine blk_alloc ?_ _)); refine blk_far ?_ NB207_209.out _; (with_reducible repeat (first | refine blk_drewN ?_ _ | refine blk_drew ?_ | refine blk_alloc ?_ _)); refine blk_far ?_ NB207_209.out _; (with_reducible repeat (first | refine blk_drewN ?_ _ | refine blk_drew ?_ | refine blk_alloc ?_ _)); exact BK207.out)) : gb210 ≠ gb207)); have n17_ := Aside0.mk ((by rw [hg]; exact Nat.ne_of_lt (blk_lt (g := gb209) (o := .cells #[.int .i64 ((rd_T32 l0 x44_2).f0), .int .i64 ((rd_T32 l0 x44_2).f1.f0), .int .i64 ((rd_T32 l0 x44_2).f1.f1), .int .i64 ((rd_T32 l0 x44_2).f1.f2), .int .i64 ((rd_T32 l0 x44_2).f1.f3)] 32 (0, 0)) (by (with_reducible repeat (first | refine blk_drewN ?_ _ | refine blk_drew ?_ | refine blk_alloc ?_ _)); refine blk_put (cs := #[.int .i64 ((rd_T32 l0 x44_2).f0), .int .i64 ((rd_T32 l0 x44_2).f1.f0), .int .i64 ((rd_T32 l0 x44_2).f1.f1), .int .i64 ((rd_T32 l0 x44_2).f1.f2), .int .i64 0]) ?_ 4 _ rfl; (with_reducible repeat (first | refine blk_drewN ?_ _ | refine blk_drew ?_ | refine blk_alloc ?_ _)); refine blk_put (cs := #[.int .i64 ((rd_T32 l0 x44_2).f0), .int .i64 ((rd_T32 l0 x44_2).f1.f0), .int .i64 ((rd_T32 l0 x44_2).f1.f1), .int .i64 0, .int .i64 0]) ?_ 3 _ rfl; (with_reducible repeat (first | refine blk_drewN ?_ _ | refine blk_drew ?_ | refine blk_alloc ?_ _)); refine blk_put (cs := #[.int .i64 ((rd_T32 l0 x44_2).f0), .int .i64 ((rd_T32 l0 x44_2).f1.f0), .int .i64 0, .int .i64 0, .int .i64 0]) ?_ 2 _ rfl; (with_reducible repeat (first | refine blk_drewN ?_ _ | refine blk_drew ?_ | refine blk_alloc ?_ _)); refine blk_put (cs := #[.int .i64 ((rd_T32 l0 x44_2).f0), .int .i64 0, .int .i64 0, .int .i64 0, .int .i64 0]) ?_ 1 _ rfl; (with_reducible repeat (first | refine blk_drewN ?_ _ | refine blk_drew ?_ | refine blk_alloc ?_ _)); refine blk_put (cs := #[.int .i64 0, .int .i64 0, .int .i64 0, .int .i64 0, .int .i64 0]) ?_ 0 _ rfl; (with_reducible repeat (first | refine blk_drewN ?_ _ | refine blk_drew ?_ | refine blk_alloc ?_ _)); exact BK209.out)) : gb209 ≠ gb210)); have n18_ := Aside0.mk ((by rw [hg]; exact Nat.ne_of_gt (blk_lt (g := gb209) (o := .cells #[.int .i64 ((rd_T32 l0 x44_2).f0), .int .i64 ((rd_T32 l0 x44_2).f1.f0), .int .i64 ((rd_T32 l0 x44_2).f1.f1), .int .i64 ((rd_T32 l0 x44_2).f1.f2), .int .i64 ((rd_T32 l0 x44_2).f1.f3)] 32 (0, 0)) (by (with_reducible repeat (first | refine blk_drewN ?_ _ | refine blk_drew ?_ | refine blk_alloc ?_ _)); refine blk_put (cs := #[.int .i64 ((rd_T32 l0 x44_2).f0), .int .i64 ((rd_T32 l0 x44_2).f1.f0), .int .i64 ((rd_T32 l0 x44_2).f1.f1), .int .i64 ((rd_T32 l0 x44_2).f1.f2), .int .i64 0]) ?_ 4 _ rfl; (with_reducible repeat (first | refine blk_drewN ?_ _ | refine blk_drew ?_ | refine blk_alloc ?_ _)); refine blk_put (cs := #[.int .i64 ((rd_T32 l0 x44_2).f0), .int .i64 ((rd_T32 l0 x44_2).f1.f0), .int .i64 ((rd_T32 l0 x44_2).f1.f1), .int .i64 0, .int .i64 0]) ?_ 3 _ rfl; (with_reducible repeat (first | refine blk_drewN ?_ _ | refine blk_drew ?_ | refine blk_alloc ?_ _)); refine blk_put (cs := #[.int .i64 ((rd_T32 l0 x44_2).f0), .int .i64 ((rd_T32 l0 x44_2).f1.f0), .int .i64 0, .int .i64 0, .int .i64 0]) ?_ 2 _ rfl; (with_reducible repeat (first | refine blk_drewN ?_ _ | refine blk_drew ?_ | refine blk_alloc ?_ _)); refine blk_put (cs := #[.int .i64 ((rd_T32 l0 x44_2).f0), .int .i64 0, .int .i64 0, .int .i64 0, .int .i64 0]) ?_ 1 _ rfl; (with_reducible repeat (first | refine blk_drewN ?_ _ | refine blk_drew ?_ | refine blk_alloc ?_ _)); refine blk_put (cs := #[.int .i64 0, .int .i64 0, .int .i64 0, .int .i64 0, .int .i64 0]) ?_ 0 _ rfl; (with_reducible repeat (first | refine blk_drewN ?_ _ | refine blk_drew ?_ | refine blk_alloc ?_ _)); exact BK209.out)) : gb210 ≠ gb209)); clear BK202; clear BK205; clear BK206; clear BK207; clear BK209; clear HB; have BK202 := n0_; have BK205 := n1_; have BK206 := n2_; have BK207 := n3_; have BK209 := n4_; have HB := n5_; have BK210 := n6_; have GW210 := n7_; have GE210 := n8_; have NB202_210 := n9_; have NB210_202 := n10_; have NB205_210 := n11_; have NB210_205 := n12_; have NB206_210 := n13_; have NB210_206 := n14_; have NB207_210 := n15_; have NB210_207 := n16_; have NB209_210 := n17_; have NB210_209 := n18_; clear n0_ n1_ n2_ n3_ n4_ n5_ n6_ n7_ n8_ n9_ n10_ n11_ n12_ n13_ n14_ n15_ n16_ n17_ n18_; clear hb hbox hg; have hnb83 := NB210_202.out; have hnc83 := NB202_210.out; have hnb84 := NB210_205.out; have hnc84 := NB205_210.out; have hnb85 := NB210_206.out; have hnc85 := NB206_210.out; have hnb86 := NB210_207.out; have hnc86 := NB207_210.out; have hnb87 := NB210_209.out; have hnc87 := NB209_210.out; have hcz88_0 : w82.cell? ⟨gb210, 0, none⟩ = some (.int .i64 0) := (blk_cell BK210.out 0).trans rfl; have hcz88_1 : w82.cell? ⟨gb210, 1, none⟩ = some (.int .i64 0) := (blk_cell BK210.out 1).trans rfl; have hcz88_2 : w82.cell? ⟨gb210, 2, none⟩ = some (.int .i64 0) := (blk_cell BK210.out 2).trans rfl; have hcz88_3 : w82.cell? ⟨gb210, 3, none⟩ = some (.int .i64 0) := (blk_cell BK210.out 3).trans rfl; have hfz88_0 := blk_frozen BK210.out 0; have hfz88_1 := blk_frozen BK210.out 1; have hfz88_2 := blk_frozen BK210.out 2; have hfz88_3 := blk_frozen BK210.out 3; have hnb89 := NB205_202.out; have hnc89 := NB202_205.out; have hnb90 := NB205_206.out; have hnc90 := NB206_205.out; have hnb91 := NB205_207.out; have hnc91 := NB207_205.out; have hcz92_0 : w82.cell? ⟨gb205, 0, none⟩ = some (.int .i64 x206000_2) := (blk_cell BK205.out 0).trans rfl; have hcz92_1 : w82.cell? ⟨gb205, 1, none⟩ = some (.int .i64 x206001_2) := (blk_cell BK205.out 1).trans rfl; have hcz92_2 : w82.cell? ⟨gb205, 2, none⟩ = some (.int .i64 x206002_2) := (blk_cell BK205.out 2).trans rfl; have hcz92_3 : w82.cell? ⟨gb205, 3, none⟩ = some (.int .i64 x206003_2) := (blk_cell BK205.out 3).trans rfl; have hfz92_0 := blk_frozen BK205.out 0; have hfz92_1 := blk_frozen BK205.out 1; have hfz92_2 := blk_frozen BK205.out 2; have hfz92_3 := blk_frozen BK205.out 3; have hnb93 := NB206_202.out; have hnc93 := NB202_206.out; have hnb94 := NB206_207.out; have hnc94 := NB207_206.out; have hcz95_0 : w82.cell? ⟨gb206, 0, none⟩ = some (.int .i64 x207000_2) := (blk_cell BK206.out 0).trans rfl; have hcz95_1 : w82.cell? ⟨gb206, 1, none⟩ = some (.int .i64 x207001_2) := (blk_cell BK206.out 1).trans rfl; have hcz95_2 : w82.cell? ⟨gb206, 2, none⟩ = some (.int .i64 x207002_2) := (blk_cell BK206.out 2).trans rfl; have hcz95_3 : w82.cell? ⟨gb206, 3, none⟩ = some (.int .i64 x207003_2) := (blk_cell BK206.out 3).trans rfl; have hfz95_0 := blk_frozen BK206.out 0; have hfz95_1 := blk_frozen BK206.out 1; have hfz95_2 := blk_frozen BK206.out 2; have hfz95_3 := blk_frozen BK206.out 3; have hcz96_0 : w82.cell? ⟨gb209, 0, none⟩ = some (.int .i64 ((rd_T32 l0 x44_2).f0)) := (blk_cell BK209.out 0).trans rfl; have hcz96_1 : w82.cell? ⟨gb209, 1, none⟩ = some (.int .i64 ((rd_T32 l0 x44_2).f1.f0)) := (blk_cell BK209.out 1).trans rfl; have hcz96_2 : w82.cell? ⟨gb209, 2, none⟩ = some (.int .i64 ((rd_T32 l0 x44_2).f1.f1)) := (blk_cell BK209.out 2).trans rfl; have hcz96_3 : w82.cell? ⟨gb209, 3, none⟩ = some (.int .i64 ((rd_T32 l0 x44_2).f1.f2)) := (blk_cell BK209.out 3).trans rfl; have hcz96_4 : w82.cell? ⟨gb209, 4, none⟩ = some (.int .i64 ((rd_T32 l0 x44_2).f1.f3)) := (blk_cell BK209.out 4).trans rfl; have hfz96_0 := blk_frozen BK209.out 0; have hfz96_1 := blk_frozen BK209.out 1; have hfz96_2 := blk_frozen BK209.out 2; have hfz96_3 := blk_frozen BK209.out 3; have hfz96_4 := blk_frozen BK209.out 4))
           go_roundg k2
           case measure => have := HJ2.out; have := HK2.out; omega
           case rel => exact ⟨(x8_2), (wrap64 (x44_2 + 1)), (ji40), (ji41), (ji42), (ji43), (ji44), (ji45), (ji46), (ji47), (x208000_2), (x208001_2), (x208002_2), (x208003_2), (by first | rfl | (simp; done) | (simp [*]; done)), (by first | rfl | (simp; done) | (simp [*]; done)), H', ⟨by have := HJ2.out; have := HK2.out; omega⟩, ⟨by (with_reducible repeat (first | refine blk_drewN ?_ _ | refine blk_drew ?_ | refine blk_alloc ?_ _)); refine blk_far ?_ NB202_206.out _; (with_reducible repeat (first | refine blk_drewN ?_ _ | refine blk_drew ?_ | refine blk_alloc ?_ _)); refine blk_far ?_ NB202_206.out _; (with_reducible repeat (first | refine blk_drewN ?_ _ | refine blk_drew ?_ | refine blk_alloc ?_ _)); refine blk_far ?_ NB202_206.out _; (with_reducible repeat (first | refine blk_drewN ?_ _ | refine blk_drew ?_ | refine blk_alloc ?_ _)); refine blk_far ?_ NB202_206.out _; (with_reducible repeat (first | refine blk_drewN ?_ _ | refine blk_drew ?_ | refine blk_alloc ?_ _)); refine blk_far ?_ NB202_205.out _; (with_reducible repeat (first | refine blk_drewN ?_ _ | refine blk_drew ?_ | refine blk_alloc ?_ _)); refine blk_far ?_ NB202_205.out _; (with_reducible repeat (first | refine blk_drewN ?_ _ | refine blk_drew ?_ | refine blk_alloc ?_ _)); refine blk_far ?_ NB202_205.out _; (with_reducible repeat (first | refine blk_drewN ?_ _ | refine blk_drew ?_ | refine blk_alloc ?_ _)); refine blk_far ?_ NB202_205.out _; (with_reducible repeat (first | refine blk_drewN ?_ _ | refine blk_drew ?_ | refine blk_alloc ?_ _)); refine blk_far ?_ NB202_210.out _; (with_reducible repeat (first | refine blk_drewN ?_ _ | refine blk_drew ?_ | refine blk_alloc ?_ _)); refine blk_far ?_ NB202_210.out _; (with_reducible repeat (first | refine blk_drewN ?_ _ | refine blk_drew ?_ | refine blk_alloc ?_ _)); refine blk_far ?_ NB202_210.out _; (with_reducible repeat (first | refine blk_drewN ?_ _ | refine blk_drew ?_ | refine blk_alloc ?_ _)); refine blk_far ?_ NB202_210.out _; (with_reducible repeat (first | refine blk_drewN ?_ _ | refine blk_drew ?_ | refine blk_alloc ?_ _)); exact BK202.out⟩, ⟨by (with_reducible repeat (first | refine blk_drewN ?_ _ | refine blk_drew ?_ | refine blk_alloc ?_ _)); refine blk_far ?_ NB205_206.out _; (with_reducible repeat (first | refine blk_drewN ?_ _ | refine blk_drew ?_ | refine blk_alloc ?_ _)); refine blk_far ?_ NB205_206.out _; (with_reducible repeat (first | refine blk_drewN ?_ _ | refine blk_drew ?_ | refine blk_alloc ?_ _)); refine blk_far ?_ NB205_206.out _; (with_reducible repeat (first | refine blk_drewN ?_ _ | refine blk_drew ?_ | refine blk_alloc ?_ _)); refine blk_far ?_ NB205_206.out _; (with_reducible repeat (first | refine blk_drewN ?_ _ | refine blk_drew ?_ | refine blk_alloc ?_ _)); refine blk_put (cs := #[.int .i64 ji40, .int .i64 ji41, .int .i64 ji42, .int .i64 x206003_2]) ?_ 3 _ rfl; (with_reducible repeat (first | refine blk_drewN ?_ _ | refine blk_drew ?_ | refine blk_alloc ?_ _)); refine blk_put (cs := #[.int .i64 ji40, .int .i64 ji41, .int .i64 x206002_2, .int .i64 x206003_2]) ?_ 2 _ rfl; (with_reducible repeat (first | refine blk_drewN ?_ _ | refine blk_drew ?_ | refine blk_alloc ?_ _)); refine blk_put (cs := #[.int .i64 ji40, .int .i64 x206001_2, .int .i64 x206002_2, .int .i64 x206003_2]) ?_ 1 _ rfl; (with_reducible repeat (first | refine blk_drewN ?_ _ | refine blk_drew ?_ | refine blk_alloc ?_ _)); refine blk_put (cs := #[.int .i64 x206000_2, .int .i64 x206001_2, .int .i64 x206002_2, .int .i64 x206003_2]) ?_ 0 _ rfl; (with_reducible repeat (first | refine blk_drewN ?_ _ | refine blk_drew ?_ | refine blk_alloc ?_ _)); refine blk_far ?_ NB205_210.out _; (with_reducible repeat (first | refine blk_drewN ?_ _ | refine blk_drew ?_ | refine blk_alloc ?_ _)); refine blk_far ?_ NB205_210.out _; (with_reducible repeat (first | refine blk_drewN ?_ _ | refine blk_drew ?_ | refine blk_alloc ?_ _)); refine blk_far ?_ NB205_210.out _; (with_reducible repeat (first | refine blk_drewN ?_ _ | refine blk_drew ?_ | refine blk_alloc ?_ _)); refine blk_far ?_ NB205_210.out _; (with_reducible repeat (first | refine blk_drewN ?_ _ | refine blk_drew ?_ | refine blk_alloc ?_ _)); exact BK205.out⟩, ⟨by (with_reducible repeat (first | refine blk_drewN ?_ _ | refine blk_drew ?_ | refine blk_alloc ?_ _)); refine blk_put (cs := #[.int .i64 ji44, .int .i64 ji45, .int .i64 ji46, .int .i64 x207003_2]) ?_ 3 _ rfl; (with_reducible repeat (first | refine blk_drewN ?_ _ | refine blk_drew ?_ | refine blk_alloc ?_ _)); refine blk_put (cs := #[.int .i64 ji44, .int .i64 ji45, .int .i64 x207002_2, .int .i64 x207003_2]) ?_ 2 _ rfl; (with_reducible repeat (first | refine blk_drewN ?_ _ | refine blk_drew ?_ | refine blk_alloc ?_ _)); refine blk_put (cs := #[.int .i64 ji44, .int .i64 x207001_2, .int .i64 x207002_2, .int .i64 x207003_2]) ?_ 1 _ rfl; (with_reducible repeat (first | refine blk_drewN ?_ _ | refine blk_drew ?_ | refine blk_alloc ?_ _)); refine blk_put (cs := #[.int .i64 x207000_2, .int .i64 x207001_2, .int .i64 x207002_2, .int .i64 x207003_2]) ?_ 0 _ rfl; (with_reducible repeat (first | refine blk_drewN ?_ _ | refine blk_drew ?_ | refine blk_alloc ?_ _)); refine blk_far ?_ NB206_205.out _; (with_reducible repeat (first | refine blk_drewN ?_ _ | refine blk_drew ?_ | refine blk_alloc ?_ _)); refine blk_far ?_ NB206_205.out _; (with_reducible repeat (first | refine blk_drewN ?_ _ | refine blk_drew ?_ | refine blk_alloc ?_ _)); refine blk_far ?_ NB206_205.out _; (with_reducible repeat (first | refine blk_drewN ?_ _ | refine blk_drew ?_ | refine blk_alloc ?_ _)); refine blk_far ?_ NB206_205.out _; (with_reducible repeat (first | refine blk_drewN ?_ _ | refine blk_drew ?_ | refine blk_alloc ?_ _)); refine blk_far ?_ NB206_210.out _; (with_reducible repeat (first | refine blk_drewN ?_ _ | refine blk_drew ?_ | refine blk_alloc ?_ _)); refine blk_far ?_ NB206_210.out _; (with_reducible repeat (first | refine blk_drewN ?_ _ | refine blk_drew ?_ | refine blk_alloc ?_ _)); refine blk_far ?_ NB206_210.out _; (with_reducible repeat (first | refine blk_drewN ?_ _ | refine blk_drew ?_ | refine blk_alloc ?_ _)); refine blk_far ?_ NB206_210.out _; (with_reducible repeat (first | refine blk_drewN ?_ _ | refine blk_drew ?_ | refine blk_alloc ?_ _)); exact BK206.out⟩, ⟨by (with_reducible repeat (first | refine blk_drewN ?_ _ | refine blk_drew ?_ | refine blk_alloc ?_ _)); refine blk_far ?_ NB207_206.out _; (with_reducible repeat (first | refine blk_drewN ?_ _ | refine blk_drew ?_ | refine blk_alloc ?_ _)); refine blk_far ?_ NB207_206.out _; (with_reducible repeat (first | refine blk_drewN ?_ _ | refine blk_drew ?_ | refine blk_alloc ?_ _)); refine blk_far ?_ NB207_206.out _; (with_reducible repeat (first | refine blk_drewN ?_ _ | refine blk_drew ?_ | refine blk_alloc ?_ _)); refine blk_far ?_ NB207_206.out _; (with_reducible repeat (first | refine blk_drewN ?_ _ | refine blk_drew ?_ | refine blk_alloc ?_ _)); refine blk_far ?_ NB207_205.out _; (with_reducible repeat (first | refine blk_drewN ?_ _ | refine blk_drew ?_ | refine blk_alloc ?_ _)); refine blk_far ?_ NB207_205.out _; (with_reducible repeat (first | refine blk_drewN ?_ _ | refine blk_drew ?_ | refine blk_alloc ?_ _)); refine blk_far ?_ NB207_205.out _; (with_reducible repeat (first | refine blk_drewN ?_ _ | refine blk_drew ?_ | refine blk_alloc ?_ _)); refine blk_far ?_ NB207_205.out _; (with_reducible repeat (first | refine blk_drewN ?_ _ | refine blk_drew ?_ | refine blk_alloc ?_ _)); refine blk_far ?_ NB207_210.out _; (with_reducible repeat (first | refine blk_drewN ?_ _ | refine blk_drew ?_ | refine blk_alloc ?_ _)); refine blk_far ?_ NB207_210.out _; (with_reducible repeat (first | refine blk_drewN ?_ _ | refine blk_drew ?_ | refine blk_alloc ?_ _)); refine blk_far ?_ NB207_210.out _; (with_reducible repeat (first | refine blk_drewN ?_ _ | refine blk_drew ?_ | refine blk_alloc ?_ _)); refine blk_far ?_ NB207_210.out _; (with_reducible repeat (first | refine blk_drewN ?_ _ | refine blk_drew ?_ | refine blk_alloc ?_ _)); exact BK207.out⟩, ⟨by repeat (first | (with_reducible first | exact HB.out | apply below_alloc | apply pw_below_drewN | apply below_drew1 | refine below_set ?_ GE202.out | refine below_set ?_ GE205.out | refine below_set ?_ GE206.out | refine below_set ?_ GE207.out | refine below_set ?_ GE209.out | refine below_set ?_ GE210.out) | exact HB.out)⟩⟩
         ·rw [if_neg c39] at H
          exact absurd H (by simp)
        ·rw [if_neg c38] at H
         exact absurd H (by simp)
       ·rw [if_neg c37] at H
        have c37b0 : decide (x44_2 < (l0.length : Int)) = false := decide_eq_false c37
        clear c37
        by_cases c97 : t198 < x206000_2
        ·rw [if_pos c97] at H
         have c97b0 : decide (t198 < x206000_2) = true := decide_eq_true c97
         clear c97
         obtain rfl := Option.some.inj H
         have hnb98 := NB202_205.out
         have hnc98 := NB205_202.out
         have hnb99 := NB202_206.out
         have hnc99 := NB206_202.out
         have hnb100 := NB202_207.out
         have hnc100 := NB207_202.out
         have hcz101_0 : wr.cell? ⟨gb202, 0, none⟩ = some (.int .i64 t198) := (blk_cell BK202.out 0).trans rfl
         have hcz101_1 : wr.cell? ⟨gb202, 1, none⟩ = some (.int .i64 t199) := (blk_cell BK202.out 1).trans rfl
         have hcz101_2 : wr.cell? ⟨gb202, 2, none⟩ = some (.int .i64 t200) := (blk_cell BK202.out 2).trans rfl
         have hcz101_3 : wr.cell? ⟨gb202, 3, none⟩ = some (.int .i64 t201) := (blk_cell BK202.out 3).trans rfl
         have hfz101_0 := blk_frozen BK202.out 0
         have hfz101_1 := blk_frozen BK202.out 1
         have hfz101_2 := blk_frozen BK202.out 2
         have hfz101_3 := blk_frozen BK202.out 3
         have hnb102 := NB205_206.out
         have hnc102 := NB206_205.out
         have hnb103 := NB205_207.out
         have hnc103 := NB207_205.out
         have hcz104_0 : wr.cell? ⟨gb205, 0, none⟩ = some (.int .i64 x206000_2) := (blk_cell BK205.out 0).trans rfl
         have hcz104_1 : wr.cell? ⟨gb205, 1, none⟩ = some (.int .i64 x206001_2) := (blk_cell BK205.out 1).trans rfl
         have hcz104_2 : wr.cell? ⟨gb205, 2, none⟩ = some (.int .i64 x206002_2) := (blk_cell BK205.out 2).trans rfl
         have hcz104_3 : wr.cell? ⟨gb205, 3, none⟩ = some (.int .i64 x206003_2) := (blk_cell BK205.out 3).trans rfl
         have hfz104_0 := blk_frozen BK205.out 0
         have hfz104_1 := blk_frozen BK205.out 1
         have hfz104_2 := blk_frozen BK205.out 2
         have hfz104_3 := blk_frozen BK205.out 3
         go_wp2
         go_ret
         exact ⟨by first | rfl | (simp [errW_none, errW_some] <;> rfl) | (simp [*, errW_none, errW_some] <;> rfl), by repeat (first | (with_reducible first | exact HB.out | apply below_alloc | apply pw_below_drewN | apply below_drew1 | refine below_set ?_ GE202.out | refine below_set ?_ GE205.out | refine below_set ?_ GE206.out | refine below_set ?_ GE207.out) | exact HB.out)⟩
        ·rw [if_neg c97] at H
         have c97b0 : decide (t198 < x206000_2) = false := decide_eq_false c97
         clear c97
         by_cases c105 : t198 > x207000_2
         ·rw [if_pos c105] at H
          have c105b0 : decide (x207000_2 < t198) = true := decide_eq_true c105
          clear c105
          obtain rfl := Option.some.inj H
          have hnb106 := NB202_205.out
          have hnc106 := NB205_202.out
          have hnb107 := NB202_206.out
          have hnc107 := NB206_202.out
          have hnb108 := NB202_207.out
          have hnc108 := NB207_202.out
          have hcz109_0 : wr.cell? ⟨gb202, 0, none⟩ = some (.int .i64 t198) := (blk_cell BK202.out 0).trans rfl
          have hcz109_1 : wr.cell? ⟨gb202, 1, none⟩ = some (.int .i64 t199) := (blk_cell BK202.out 1).trans rfl
          have hcz109_2 : wr.cell? ⟨gb202, 2, none⟩ = some (.int .i64 t200) := (blk_cell BK202.out 2).trans rfl
          have hcz109_3 : wr.cell? ⟨gb202, 3, none⟩ = some (.int .i64 t201) := (blk_cell BK202.out 3).trans rfl
          have hfz109_0 := blk_frozen BK202.out 0
          have hfz109_1 := blk_frozen BK202.out 1
          have hfz109_2 := blk_frozen BK202.out 2
          have hfz109_3 := blk_frozen BK202.out 3
          have hnb110 := NB205_206.out
          have hnc110 := NB206_205.out
          have hnb111 := NB205_207.out
          have hnc111 := NB207_205.out
          have hcz112_0 : wr.cell? ⟨gb205, 0, none⟩ = some (.int .i64 x206000_2) := (blk_cell BK205.out 0).trans rfl
          have hcz112_1 : wr.cell? ⟨gb205, 1, none⟩ = some (.int .i64 x206001_2) := (blk_cell BK205.out 1).trans rfl
          have hcz112_2 : wr.cell? ⟨gb205, 2, none⟩ = some (.int .i64 x206002_2) := (blk_cell BK205.out 2).trans rfl
          have hcz112_3 : wr.cell? ⟨gb205, 3, none⟩ = some (.int .i64 x206003_2) := (blk_cell BK205.out 3).trans rfl
          have hfz112_0 := blk_frozen BK205.out 0
          have hfz112_1 := blk_frozen BK205.out 1
          have hfz112_2 := blk_frozen BK205.out 2
          have hfz112_3 := blk_frozen BK205.out 3
          have hnb113 := NB206_207.out
          have hnc113 := NB207_206.out
          have hcz114_0 : wr.cell? ⟨gb206, 0, none⟩ = some (.int .i64 x207000_2) := (blk_cell BK206.out 0).trans rfl
          have hcz114_1 : wr.cell? ⟨gb206, 1, none⟩ = some (.int .i64 x207001_2) := (blk_cell BK206.out 1).trans rfl
          have hcz114_2 : wr.cell? ⟨gb206, 2, none⟩ = some (.int .i64 x207002_2) := (blk_cell BK206.out 2).trans rfl
          have hcz114_3 : wr.cell? ⟨gb206, 3, none⟩ = some (.int .i64 x207003_2) := (blk_cell BK206.out 3).trans rfl
          have hfz114_0 := blk_frozen BK206.out 0
          have hfz114_1 := blk_frozen BK206.out 1
          have hfz114_2 := blk_frozen BK206.out 2
          have hfz114_3 := blk_frozen BK206.out 3
          go_wp2
          go_ret
          exact ⟨by first | rfl | (simp [errW_none, errW_some] <;> rfl) | (simp [*, errW_none, errW_some] <;> rfl), by repeat (first | (with_reducible first | exact HB.out | apply below_alloc | apply pw_below_drewN | apply below_drew1 | refine below_set ?_ GE202.out | refine below_set ?_ GE205.out | refine below_set ?_ GE206.out | refine below_set ?_ GE207.out) | exact HB.out)⟩
         ·rw [if_neg c105] at H
          have c105b0 : decide (x207000_2 < t198) = false := decide_eq_false c105
          clear c105
          by_cases c115 : t199 < x206001_2
          ·rw [if_pos c115] at H
           have c115b0 : decide (t199 < x206001_2) = true := decide_eq_true c115
           clear c115
           obtain rfl := Option.some.inj H
           have hnb116 := NB202_205.out
           have hnc116 := NB205_202.out
           have hnb117 := NB202_206.out
           have hnc117 := NB206_202.out
           have hnb118 := NB202_207.out
           have hnc118 := NB207_202.out
           have hcz119_0 : wr.cell? ⟨gb202, 0, none⟩ = some (.int .i64 t198) := (blk_cell BK202.out 0).trans rfl
           have hcz119_1 : wr.cell? ⟨gb202, 1, none⟩ = some (.int .i64 t199) := (blk_cell BK202.out 1).trans rfl
           have hcz119_2 : wr.cell? ⟨gb202, 2, none⟩ = some (.int .i64 t200) := (blk_cell BK202.out 2).trans rfl
           have hcz119_3 : wr.cell? ⟨gb202, 3, none⟩ = some (.int .i64 t201) := (blk_cell BK202.out 3).trans rfl
           have hfz119_0 := blk_frozen BK202.out 0
           have hfz119_1 := blk_frozen BK202.out 1
           have hfz119_2 := blk_frozen BK202.out 2
           have hfz119_3 := blk_frozen BK202.out 3
           have hnb120 := NB205_206.out
           have hnc120 := NB206_205.out
           have hnb121 := NB205_207.out
           have hnc121 := NB207_205.out
           have hcz122_0 : wr.cell? ⟨gb205, 0, none⟩ = some (.int .i64 x206000_2) := (blk_cell BK205.out 0).trans rfl
           have hcz122_1 : wr.cell? ⟨gb205, 1, none⟩ = some (.int .i64 x206001_2) := (blk_cell BK205.out 1).trans rfl
           have hcz122_2 : wr.cell? ⟨gb205, 2, none⟩ = some (.int .i64 x206002_2) := (blk_cell BK205.out 2).trans rfl
           have hcz122_3 : wr.cell? ⟨gb205, 3, none⟩ = some (.int .i64 x206003_2) := (blk_cell BK205.out 3).trans rfl
           have hfz122_0 := blk_frozen BK205.out 0
           have hfz122_1 := blk_frozen BK205.out 1
           have hfz122_2 := blk_frozen BK205.out 2
           have hfz122_3 := blk_frozen BK205.out 3
           have hnb123 := NB206_207.out
           have hnc123 := NB207_206.out
           have hcz124_0 : wr.cell? ⟨gb206, 0, none⟩ = some (.int .i64 x207000_2) := (blk_cell BK206.out 0).trans rfl
           have hcz124_1 : wr.cell? ⟨gb206, 1, none⟩ = some (.int .i64 x207001_2) := (blk_cell BK206.out 1).trans rfl
           have hcz124_2 : wr.cell? ⟨gb206, 2, none⟩ = some (.int .i64 x207002_2) := (blk_cell BK206.out 2).trans rfl
           have hcz124_3 : wr.cell? ⟨gb206, 3, none⟩ = some (.int .i64 x207003_2) := (blk_cell BK206.out 3).trans rfl
           have hfz124_0 := blk_frozen BK206.out 0
           have hfz124_1 := blk_frozen BK206.out 1
           have hfz124_2 := blk_frozen BK206.out 2
           have hfz124_3 := blk_frozen BK206.out 3
           go_wp2
           go_ret
           exact ⟨by first | rfl | (simp [errW_none, errW_some] <;> rfl) | (simp [*, errW_none, errW_some] <;> rfl), by repeat (first | (with_reducible first | exact HB.out | apply below_alloc | apply pw_below_drewN | apply below_drew1 | refine below_set ?_ GE202.out | refine below_set ?_ GE205.out | refine below_set ?_ GE206.out | refine below_set ?_ GE207.out) | exact HB.out)⟩
          ·rw [if_neg c115] at H
           have c115b0 : decide (t199 < x206001_2) = false := decide_eq_false c115
           clear c115
           by_cases c125 : t199 > x207001_2
           ·rw [if_pos c125] at H
            have c125b0 : decide (x207001_2 < t199) = true := decide_eq_true c125
            clear c125
            obtain rfl := Option.some.inj H
            have hnb126 := NB202_205.out
            have hnc126 := NB205_202.out
            have hnb127 := NB202_206.out
            have hnc127 := NB206_202.out
            have hnb128 := NB202_207.out
            have hnc128 := NB207_202.out
            have hcz129_0 : wr.cell? ⟨gb202, 0, none⟩ = some (.int .i64 t198) := (blk_cell BK202.out 0).trans rfl
            have hcz129_1 : wr.cell? ⟨gb202, 1, none⟩ = some (.int .i64 t199) := (blk_cell BK202.out 1).trans rfl
            have hcz129_2 : wr.cell? ⟨gb202, 2, none⟩ = some (.int .i64 t200) := (blk_cell BK202.out 2).trans rfl
            have hcz129_3 : wr.cell? ⟨gb202, 3, none⟩ = some (.int .i64 t201) := (blk_cell BK202.out 3).trans rfl
            have hfz129_0 := blk_frozen BK202.out 0
            have hfz129_1 := blk_frozen BK202.out 1
            have hfz129_2 := blk_frozen BK202.out 2
            have hfz129_3 := blk_frozen BK202.out 3
            have hnb130 := NB205_206.out
            have hnc130 := NB206_205.out
            have hnb131 := NB205_207.out
            have hnc131 := NB207_205.out
            have hcz132_0 : wr.cell? ⟨gb205, 0, none⟩ = some (.int .i64 x206000_2) := (blk_cell BK205.out 0).trans rfl
            have hcz132_1 : wr.cell? ⟨gb205, 1, none⟩ = some (.int .i64 x206001_2) := (blk_cell BK205.out 1).trans rfl
            have hcz132_2 : wr.cell? ⟨gb205, 2, none⟩ = some (.int .i64 x206002_2) := (blk_cell BK205.out 2).trans rfl
            have hcz132_3 : wr.cell? ⟨gb205, 3, none⟩ = some (.int .i64 x206003_2) := (blk_cell BK205.out 3).trans rfl
            have hfz132_0 := blk_frozen BK205.out 0
            have hfz132_1 := blk_frozen BK205.out 1
            have hfz132_2 := blk_frozen BK205.out 2
            have hfz132_3 := blk_frozen BK205.out 3
            have hnb133 := NB206_207.out
            have hnc133 := NB207_206.out
            have hcz134_0 : wr.cell? ⟨gb206, 0, none⟩ = some (.int .i64 x207000_2) := (blk_cell BK206.out 0).trans rfl
            have hcz134_1 : wr.cell? ⟨gb206, 1, none⟩ = some (.int .i64 x207001_2) := (blk_cell BK206.out 1).trans rfl
            have hcz134_2 : wr.cell? ⟨gb206, 2, none⟩ = some (.int .i64 x207002_2) := (blk_cell BK206.out 2).trans rfl
            have hcz134_3 : wr.cell? ⟨gb206, 3, none⟩ = some (.int .i64 x207003_2) := (blk_cell BK206.out 3).trans rfl
            have hfz134_0 := blk_frozen BK206.out 0
            have hfz134_1 := blk_frozen BK206.out 1
            have hfz134_2 := blk_frozen BK206.out 2
            have hfz134_3 := blk_frozen BK206.out 3
            go_wp2
            go_ret
            exact ⟨by first | rfl | (simp [errW_none, errW_some] <;> rfl) | (simp [*, errW_none, errW_some] <;> rfl), by repeat (first | (with_reducible first | exact HB.out | apply below_alloc | apply pw_below_drewN | apply below_drew1 | refine below_set ?_ GE202.out | refine below_set ?_ GE205.out | refine below_set ?_ GE206.out | refine below_set ?_ GE207.out) | exact HB.out)⟩
           ·rw [if_neg c125] at H
            have c125b0 : decide (x207001_2 < t199) = false := decide_eq_false c125
            clear c125
            by_cases c135 : t200 < x206002_2
            ·rw [if_pos c135] at H
             have c135b0 : decide (t200 < x206002_2) = true := decide_eq_true c135
             clear c135
             obtain rfl := Option.some.inj H
             have hnb136 := NB202_205.out
             have hnc136 := NB205_202.out
             have hnb137 := NB202_206.out
             have hnc137 := NB206_202.out
             have hnb138 := NB202_207.out
             have hnc138 := NB207_202.out
             have hcz139_0 : wr.cell? ⟨gb202, 0, none⟩ = some (.int .i64 t198) := (blk_cell BK202.out 0).trans rfl
             have hcz139_1 : wr.cell? ⟨gb202, 1, none⟩ = some (.int .i64 t199) := (blk_cell BK202.out 1).trans rfl
             have hcz139_2 : wr.cell? ⟨gb202, 2, none⟩ = some (.int .i64 t200) := (blk_cell BK202.out 2).trans rfl
             have hcz139_3 : wr.cell? ⟨gb202, 3, none⟩ = some (.int .i64 t201) := (blk_cell BK202.out 3).trans rfl
             have hfz139_0 := blk_frozen BK202.out 0
             have hfz139_1 := blk_frozen BK202.out 1
             have hfz139_2 := blk_frozen BK202.out 2
             have hfz139_3 := blk_frozen BK202.out 3
             have hnb140 := NB205_206.out
             have hnc140 := NB206_205.out
             have hnb141 := NB205_207.out
             have hnc141 := NB207_205.out
             have hcz142_0 : wr.cell? ⟨gb205, 0, none⟩ = some (.int .i64 x206000_2) := (blk_cell BK205.out 0).trans rfl
             have hcz142_1 : wr.cell? ⟨gb205, 1, none⟩ = some (.int .i64 x206001_2) := (blk_cell BK205.out 1).trans rfl
             have hcz142_2 : wr.cell? ⟨gb205, 2, none⟩ = some (.int .i64 x206002_2) := (blk_cell BK205.out 2).trans rfl
             have hcz142_3 : wr.cell? ⟨gb205, 3, none⟩ = some (.int .i64 x206003_2) := (blk_cell BK205.out 3).trans rfl
             have hfz142_0 := blk_frozen BK205.out 0
             have hfz142_1 := blk_frozen BK205.out 1
             have hfz142_2 := blk_frozen BK205.out 2
             have hfz142_3 := blk_frozen BK205.out 3
             have hnb143 := NB206_207.out
             have hnc143 := NB207_206.out
             have hcz144_0 : wr.cell? ⟨gb206, 0, none⟩ = some (.int .i64 x207000_2) := (blk_cell BK206.out 0).trans rfl
             have hcz144_1 : wr.cell? ⟨gb206, 1, none⟩ = some (.int .i64 x207001_2) := (blk_cell BK206.out 1).trans rfl
             have hcz144_2 : wr.cell? ⟨gb206, 2, none⟩ = some (.int .i64 x207002_2) := (blk_cell BK206.out 2).trans rfl
             have hcz144_3 : wr.cell? ⟨gb206, 3, none⟩ = some (.int .i64 x207003_2) := (blk_cell BK206.out 3).trans rfl
             have hfz144_0 := blk_frozen BK206.out 0
             have hfz144_1 := blk_frozen BK206.out 1
             have hfz144_2 := blk_frozen BK206.out 2
             have hfz144_3 := blk_frozen BK206.out 3
             go_wp2
             go_ret
             exact ⟨by first | rfl | (simp [errW_none, errW_some] <;> rfl) | (simp [*, errW_none, errW_some] <;> rfl), by repeat (first | (with_reducible first | exact HB.out | apply below_alloc | apply pw_below_drewN | apply below_drew1 | refine below_set ?_ GE202.out | refine below_set ?_ GE205.out | refine below_set ?_ GE206.out | refine below_set ?_ GE207.out) | exact HB.out)⟩
            ·rw [if_neg c135] at H
             have c135b0 : decide (t200 < x206002_2) = false := decide_eq_false c135
             clear c135
             by_cases c145 : t200 > x207002_2
             ·rw [if_pos c145] at H
              have c145b0 : decide (x207002_2 < t200) = true := decide_eq_true c145
              clear c145
              obtain rfl := Option.some.inj H
              have hnb146 := NB202_205.out
              have hnc146 := NB205_202.out
              have hnb147 := NB202_206.out
              have hnc147 := NB206_202.out
              have hnb148 := NB202_207.out
              have hnc148 := NB207_202.out
              have hcz149_0 : wr.cell? ⟨gb202, 0, none⟩ = some (.int .i64 t198) := (blk_cell BK202.out 0).trans rfl
              have hcz149_1 : wr.cell? ⟨gb202, 1, none⟩ = some (.int .i64 t199) := (blk_cell BK202.out 1).trans rfl
              have hcz149_2 : wr.cell? ⟨gb202, 2, none⟩ = some (.int .i64 t200) := (blk_cell BK202.out 2).trans rfl
              have hcz149_3 : wr.cell? ⟨gb202, 3, none⟩ = some (.int .i64 t201) := (blk_cell BK202.out 3).trans rfl
              have hfz149_0 := blk_frozen BK202.out 0
              have hfz149_1 := blk_frozen BK202.out 1
              have hfz149_2 := blk_frozen BK202.out 2
              have hfz149_3 := blk_frozen BK202.out 3
              have hnb150 := NB205_206.out
              have hnc150 := NB206_205.out
              have hnb151 := NB205_207.out
              have hnc151 := NB207_205.out
              have hcz152_0 : wr.cell? ⟨gb205, 0, none⟩ = some (.int .i64 x206000_2) := (blk_cell BK205.out 0).trans rfl
              have hcz152_1 : wr.cell? ⟨gb205, 1, none⟩ = some (.int .i64 x206001_2) := (blk_cell BK205.out 1).trans rfl
              have hcz152_2 : wr.cell? ⟨gb205, 2, none⟩ = some (.int .i64 x206002_2) := (blk_cell BK205.out 2).trans rfl
              have hcz152_3 : wr.cell? ⟨gb205, 3, none⟩ = some (.int .i64 x206003_2) := (blk_cell BK205.out 3).trans rfl
              have hfz152_0 := blk_frozen BK205.out 0
              have hfz152_1 := blk_frozen BK205.out 1
              have hfz152_2 := blk_frozen BK205.out 2
              have hfz152_3 := blk_frozen BK205.out 3
              have hnb153 := NB206_207.out
              have hnc153 := NB207_206.out
              have hcz154_0 : wr.cell? ⟨gb206, 0, none⟩ = some (.int .i64 x207000_2) := (blk_cell BK206.out 0).trans rfl
              have hcz154_1 : wr.cell? ⟨gb206, 1, none⟩ = some (.int .i64 x207001_2) := (blk_cell BK206.out 1).trans rfl
              have hcz154_2 : wr.cell? ⟨gb206, 2, none⟩ = some (.int .i64 x207002_2) := (blk_cell BK206.out 2).trans rfl
              have hcz154_3 : wr.cell? ⟨gb206, 3, none⟩ = some (.int .i64 x207003_2) := (blk_cell BK206.out 3).trans rfl
              have hfz154_0 := blk_frozen BK206.out 0
              have hfz154_1 := blk_frozen BK206.out 1
              have hfz154_2 := blk_frozen BK206.out 2
              have hfz154_3 := blk_frozen BK206.out 3
              go_wp2
              go_ret
              exact ⟨by first | rfl | (simp [errW_none, errW_some] <;> rfl) | (simp [*, errW_none, errW_some] <;> rfl), by repeat (first | (with_reducible first | exact HB.out | apply below_alloc | apply pw_below_drewN | apply below_drew1 | refine below_set ?_ GE202.out | refine below_set ?_ GE205.out | refine below_set ?_ GE206.out | refine below_set ?_ GE207.out) | exact HB.out)⟩
             ·rw [if_neg c145] at H
              have c145b0 : decide (x207002_2 < t200) = false := decide_eq_false c145
              clear c145
              by_cases c155 : t201 < x206003_2
              ·rw [if_pos c155] at H
               have c155b0 : decide (t201 < x206003_2) = true := decide_eq_true c155
               clear c155
               obtain rfl := Option.some.inj H
               have hnb156 := NB202_205.out
               have hnc156 := NB205_202.out
               have hnb157 := NB202_206.out
               have hnc157 := NB206_202.out
               have hnb158 := NB202_207.out
               have hnc158 := NB207_202.out
               have hcz159_0 : wr.cell? ⟨gb202, 0, none⟩ = some (.int .i64 t198) := (blk_cell BK202.out 0).trans rfl
               have hcz159_1 : wr.cell? ⟨gb202, 1, none⟩ = some (.int .i64 t199) := (blk_cell BK202.out 1).trans rfl
               have hcz159_2 : wr.cell? ⟨gb202, 2, none⟩ = some (.int .i64 t200) := (blk_cell BK202.out 2).trans rfl
               have hcz159_3 : wr.cell? ⟨gb202, 3, none⟩ = some (.int .i64 t201) := (blk_cell BK202.out 3).trans rfl
               have hfz159_0 := blk_frozen BK202.out 0
               have hfz159_1 := blk_frozen BK202.out 1
               have hfz159_2 := blk_frozen BK202.out 2
               have hfz159_3 := blk_frozen BK202.out 3
               have hnb160 := NB205_206.out
               have hnc160 := NB206_205.out
               have hnb161 := NB205_207.out
               have hnc161 := NB207_205.out
               have hcz162_0 : wr.cell? ⟨gb205, 0, none⟩ = some (.int .i64 x206000_2) := (blk_cell BK205.out 0).trans rfl
               have hcz162_1 : wr.cell? ⟨gb205, 1, none⟩ = some (.int .i64 x206001_2) := (blk_cell BK205.out 1).trans rfl
               have hcz162_2 : wr.cell? ⟨gb205, 2, none⟩ = some (.int .i64 x206002_2) := (blk_cell BK205.out 2).trans rfl
               have hcz162_3 : wr.cell? ⟨gb205, 3, none⟩ = some (.int .i64 x206003_2) := (blk_cell BK205.out 3).trans rfl
               have hfz162_0 := blk_frozen BK205.out 0
               have hfz162_1 := blk_frozen BK205.out 1
               have hfz162_2 := blk_frozen BK205.out 2
               have hfz162_3 := blk_frozen BK205.out 3
               have hnb163 := NB206_207.out
               have hnc163 := NB207_206.out
               have hcz164_0 : wr.cell? ⟨gb206, 0, none⟩ = some (.int .i64 x207000_2) := (blk_cell BK206.out 0).trans rfl
               have hcz164_1 : wr.cell? ⟨gb206, 1, none⟩ = some (.int .i64 x207001_2) := (blk_cell BK206.out 1).trans rfl
               have hcz164_2 : wr.cell? ⟨gb206, 2, none⟩ = some (.int .i64 x207002_2) := (blk_cell BK206.out 2).trans rfl
               have hcz164_3 : wr.cell? ⟨gb206, 3, none⟩ = some (.int .i64 x207003_2) := (blk_cell BK206.out 3).trans rfl
               have hfz164_0 := blk_frozen BK206.out 0
               have hfz164_1 := blk_frozen BK206.out 1
               have hfz164_2 := blk_frozen BK206.out 2
               have hfz164_3 := blk_frozen BK206.out 3
               go_wp2
               go_ret
               exact ⟨by first | rfl | (simp [errW_none, errW_some] <;> rfl) | (simp [*, errW_none, errW_some] <;> rfl), by repeat (first | (with_reducible first | exact HB.out | apply below_alloc | apply pw_below_drewN | apply below_drew1 | refine below_set ?_ GE202.out | refine below_set ?_ GE205.out | refine below_set ?_ GE206.out | refine below_set ?_ GE207.out) | exact HB.out)⟩
              ·rw [if_neg c155] at H
               have c155b0 : decide (t201 < x206003_2) = false := decide_eq_false c155
               clear c155
               by_cases c165 : t201 > x207003_2
               ·rw [if_pos c165] at H
                have c165b0 : decide (x207003_2 < t201) = true := decide_eq_true c165
                clear c165
                obtain rfl := Option.some.inj H
                have hnb166 := NB202_205.out
                have hnc166 := NB205_202.out
                have hnb167 := NB202_206.out
                have hnc167 := NB206_202.out
                have hnb168 := NB202_207.out
                have hnc168 := NB207_202.out
                have hcz169_0 : wr.cell? ⟨gb202, 0, none⟩ = some (.int .i64 t198) := (blk_cell BK202.out 0).trans rfl
                have hcz169_1 : wr.cell? ⟨gb202, 1, none⟩ = some (.int .i64 t199) := (blk_cell BK202.out 1).trans rfl
                have hcz169_2 : wr.cell? ⟨gb202, 2, none⟩ = some (.int .i64 t200) := (blk_cell BK202.out 2).trans rfl
                have hcz169_3 : wr.cell? ⟨gb202, 3, none⟩ = some (.int .i64 t201) := (blk_cell BK202.out 3).trans rfl
                have hfz169_0 := blk_frozen BK202.out 0
                have hfz169_1 := blk_frozen BK202.out 1
                have hfz169_2 := blk_frozen BK202.out 2
                have hfz169_3 := blk_frozen BK202.out 3
                have hnb170 := NB205_206.out
                have hnc170 := NB206_205.out
                have hnb171 := NB205_207.out
                have hnc171 := NB207_205.out
                have hcz172_0 : wr.cell? ⟨gb205, 0, none⟩ = some (.int .i64 x206000_2) := (blk_cell BK205.out 0).trans rfl
                have hcz172_1 : wr.cell? ⟨gb205, 1, none⟩ = some (.int .i64 x206001_2) := (blk_cell BK205.out 1).trans rfl
                have hcz172_2 : wr.cell? ⟨gb205, 2, none⟩ = some (.int .i64 x206002_2) := (blk_cell BK205.out 2).trans rfl
                have hcz172_3 : wr.cell? ⟨gb205, 3, none⟩ = some (.int .i64 x206003_2) := (blk_cell BK205.out 3).trans rfl
                have hfz172_0 := blk_frozen BK205.out 0
                have hfz172_1 := blk_frozen BK205.out 1
                have hfz172_2 := blk_frozen BK205.out 2
                have hfz172_3 := blk_frozen BK205.out 3
                have hnb173 := NB206_207.out
                have hnc173 := NB207_206.out
                have hcz174_0 : wr.cell? ⟨gb206, 0, none⟩ = some (.int .i64 x207000_2) := (blk_cell BK206.out 0).trans rfl
                have hcz174_1 : wr.cell? ⟨gb206, 1, none⟩ = some (.int .i64 x207001_2) := (blk_cell BK206.out 1).trans rfl
                have hcz174_2 : wr.cell? ⟨gb206, 2, none⟩ = some (.int .i64 x207002_2) := (blk_cell BK206.out 2).trans rfl
                have hcz174_3 : wr.cell? ⟨gb206, 3, none⟩ = some (.int .i64 x207003_2) := (blk_cell BK206.out 3).trans rfl
                have hfz174_0 := blk_frozen BK206.out 0
                have hfz174_1 := blk_frozen BK206.out 1
                have hfz174_2 := blk_frozen BK206.out 2
                have hfz174_3 := blk_frozen BK206.out 3
                go_wp2
                go_ret
                exact ⟨by first | rfl | (simp [errW_none, errW_some] <;> rfl) | (simp [*, errW_none, errW_some] <;> rfl), by repeat (first | (with_reducible first | exact HB.out | apply below_alloc | apply pw_below_drewN | apply below_drew1 | refine below_set ?_ GE202.out | refine below_set ?_ GE205.out | refine below_set ?_ GE206.out | refine below_set ?_ GE207.out) | exact HB.out)⟩
               ·rw [if_neg c165] at H
                have c165b0 : decide (x207003_2 < t201) = false := decide_eq_false c165
                clear c165
                by_cases c175 : x8_2 = 1
                ·rw [if_pos c175] at H
                 have c175b0 : (x8_2 == 1) = true := beq_iff_eq.mpr c175
                 have c175b1 : (x8_2 != 1) = false := bne_eq_false_iff_eq.mpr c175
                 clear c175
                 by_cases c176 : (t198 == x208000_2 && (t199 == x208001_2 && (t200 == x208002_2 && (t201 == x208003_2)))) = true
                 ·rw [if_pos c176] at H
                  have c176b0 : (t198 == x208000_2 && (t199 == x208001_2 && (t200 == x208002_2 && (t201 == x208003_2)))) = true := c176
                  (try (have c176b1 : decide (t198 = x208000_2 && (t199 == x208001_2 && (t200 == x208002_2 && (t201 == x208003_2)))) = true := by simpa using c176))
                  (try (have c176b2 : (t198 == x208000_2 && (t199 == x208001_2 && (t200 == x208002_2 && (t201 == x208003_2)))) = true := by simpa using c176))
                  clear c176
                  replace H := Option.bind_eq_some_iff.mp H
                  obtain ⟨t211, A1770, H⟩ := H
                  replace H : (some t211) = some r := H
                  have A177 := Aside0.mk A1770
                  clear A1770
                  obtain rfl := Option.some.inj H
                  have hnb178 := NB202_205.out
                  have hnc178 := NB205_202.out
                  have hnb179 := NB202_206.out
                  have hnc179 := NB206_202.out
                  have hnb180 := NB202_207.out
                  have hnc180 := NB207_202.out
                  have hcz181_0 : wr.cell? ⟨gb202, 0, none⟩ = some (.int .i64 t198) := (blk_cell BK202.out 0).trans rfl
                  have hcz181_1 : wr.cell? ⟨gb202, 1, none⟩ = some (.int .i64 t199) := (blk_cell BK202.out 1).trans rfl
                  have hcz181_2 : wr.cell? ⟨gb202, 2, none⟩ = some (.int .i64 t200) := (blk_cell BK202.out 2).trans rfl
                  have hcz181_3 : wr.cell? ⟨gb202, 3, none⟩ = some (.int .i64 t201) := (blk_cell BK202.out 3).trans rfl
                  have hfz181_0 := blk_frozen BK202.out 0
                  have hfz181_1 := blk_frozen BK202.out 1
                  have hfz181_2 := blk_frozen BK202.out 2
                  have hfz181_3 := blk_frozen BK202.out 3
                  have hnb182 := NB205_206.out
                  have hnc182 := NB206_205.out
                  have hnb183 := NB205_207.out
                  have hnc183 := NB207_205.out
                  have hcz184_0 : wr.cell? ⟨gb205, 0, none⟩ = some (.int .i64 x206000_2) := (blk_cell BK205.out 0).trans rfl
                  have hcz184_1 : wr.cell? ⟨gb205, 1, none⟩ = some (.int .i64 x206001_2) := (blk_cell BK205.out 1).trans rfl
                  have hcz184_2 : wr.cell? ⟨gb205, 2, none⟩ = some (.int .i64 x206002_2) := (blk_cell BK205.out 2).trans rfl
                  have hcz184_3 : wr.cell? ⟨gb205, 3, none⟩ = some (.int .i64 x206003_2) := (blk_cell BK205.out 3).trans rfl
                  have hfz184_0 := blk_frozen BK205.out 0
                  have hfz184_1 := blk_frozen BK205.out 1
                  have hfz184_2 := blk_frozen BK205.out 2
                  have hfz184_3 := blk_frozen BK205.out 3
                  have hnb185 := NB206_207.out
                  have hnc185 := NB207_206.out
                  have hcz186_0 : wr.cell? ⟨gb206, 0, none⟩ = some (.int .i64 x207000_2) := (blk_cell BK206.out 0).trans rfl
                  have hcz186_1 : wr.cell? ⟨gb206, 1, none⟩ = some (.int .i64 x207001_2) := (blk_cell BK206.out 1).trans rfl
                  have hcz186_2 : wr.cell? ⟨gb206, 2, none⟩ = some (.int .i64 x207002_2) := (blk_cell BK206.out 2).trans rfl
                  have hcz186_3 : wr.cell? ⟨gb206, 3, none⟩ = some (.int .i64 x207003_2) := (blk_cell BK206.out 3).trans rfl
                  have hfz186_0 := blk_frozen BK206.out 0
                  have hfz186_1 := blk_frozen BK206.out 1
                  have hfz186_2 := blk_frozen BK206.out 2
                  have hfz186_3 := blk_frozen BK206.out 3
                  have hcz187_0 : wr.cell? ⟨gb207, 0, none⟩ = some (.int .i64 x208000_2) := (blk_cell BK207.out 0).trans rfl
                  have hcz187_1 : wr.cell? ⟨gb207, 1, none⟩ = some (.int .i64 x208001_2) := (blk_cell BK207.out 1).trans rfl
                  have hcz187_2 : wr.cell? ⟨gb207, 2, none⟩ = some (.int .i64 x208002_2) := (blk_cell BK207.out 2).trans rfl
                  have hcz187_3 : wr.cell? ⟨gb207, 3, none⟩ = some (.int .i64 x208003_2) := (blk_cell BK207.out 3).trans rfl
                  have hfz187_0 := blk_frozen BK207.out 0
                  have hfz187_1 := blk_frozen BK207.out 1
                  have hfz187_2 := blk_frozen BK207.out 2
                  have hfz187_3 := blk_frozen BK207.out 3
                  go_wp2_with (first | (go_at_call 12; (with_reducible refine (celluloidlaw19_awake.calls k2  t211 _ A177.out).mono ?_); rintro e w188 ⟨rfl, hb⟩; have n0_ := Aside0.mk (blk_below (g := gb202) (o := .cells #[.int .i64 t198, .int .i64 t199, .int .i64 t200, .int .i64 t201] 27 (0, 0)) (by (with_reducible repeat (first | refine blk_drewN ?_ _ | refine blk_drew ?_ | refine blk_alloc ?_ _)); exact BK202.out) hb); have n1_ := Aside0.mk (blk_below (g := gb205) (o := .cells #[.int .i64 x206000_2, .int .i64 x206001_2, .int .i64 x206002_2, .int .i64 x206003_2] 27 (0, 0)) (by (with_reducible repeat (first | refine blk_drewN ?_ _ | refine blk_drew ?_ | refine blk_alloc ?_ _)); exact BK205.out) hb); have n2_ := Aside0.mk (blk_below (g := gb206) (o := .cells #[.int .i64 x207000_2, .int .i64 x207001_2, .int .i64 x207002_2, .int .i64 x207003_2] 27 (0, 0)) (by (with_reducible repeat (first | refine blk_drewN ?_ _ | refine blk_drew ?_ | refine blk_alloc ?_ _)); exact BK206.out) hb); have n3_ := Aside0.mk (blk_below (g := gb207) (o := .cells #[.int .i64 x208000_2, .int .i64 x208001_2, .int .i64 x208002_2, .int .i64 x208003_2] 27 (0, 0)) (by (with_reducible repeat (first | refine blk_drewN ?_ _ | refine blk_drew ?_ | refine blk_alloc ?_ _)); exact BK207.out) hb); have n4_ := Aside0.mk (below_step (by repeat (first | (with_reducible first | exact HB.out | apply below_alloc | apply pw_below_drewN | apply below_drew1 | refine below_set ?_ GE202.out | refine below_set ?_ GE205.out | refine below_set ?_ GE206.out | refine below_set ?_ GE207.out) | exact HB.out)) hb); clear BK202; clear BK205; clear BK206; clear BK207; clear HB; have BK202 := n0_; have BK205 := n1_; have BK206 := n2_; have BK207 := n3_; have HB := n4_; clear n0_ n1_ n2_ n3_ n4_; (try clear hb); (try clear hb2); (try clear hk); (try clear hi)))
                  go_ret
                  exact ⟨by first | rfl | (simp [errW_none, errW_some] <;> rfl) | (simp [*, errW_none, errW_some] <;> rfl), by repeat (first | (with_reducible first | exact HB.out | apply below_alloc | apply pw_below_drewN | apply below_drew1 | refine below_set ?_ GE202.out | refine below_set ?_ GE205.out | refine below_set ?_ GE206.out | refine below_set ?_ GE207.out) | exact HB.out)⟩
                 ·rw [if_neg c176] at H
                  have c176b0 : (t198 == x208000_2 && (t199 == x208001_2 && (t200 == x208002_2 && (t201 == x208003_2)))) = false := by simpa using c176
                  (try (have c176b1 : decide (t198 = x208000_2 && (t199 == x208001_2 && (t200 == x208002_2 && (t201 == x208003_2)))) = false := by simpa using c176))
                  (try (have c176b2 : (t198 == x208000_2 && (t199 == x208001_2 && (t200 == x208002_2 && (t201 == x208003_2)))) = false := by simpa using c176))
                  (try (have c176b3 : ¬ (t198 = x208000_2 && (t199 == x208001_2 && (t200 == x208002_2 && (t201 == x208003_2)))) := by simpa using c176))
                  clear c176
                  obtain rfl := Option.some.inj H
                  have hnb189 := NB202_205.out
                  have hnc189 := NB205_202.out
                  have hnb190 := NB202_206.out
                  have hnc190 := NB206_202.out
                  have hnb191 := NB202_207.out
                  have hnc191 := NB207_202.out
                  have hcz192_0 : wr.cell? ⟨gb202, 0, none⟩ = some (.int .i64 t198) := (blk_cell BK202.out 0).trans rfl
                  have hcz192_1 : wr.cell? ⟨gb202, 1, none⟩ = some (.int .i64 t199) := (blk_cell BK202.out 1).trans rfl
                  have hcz192_2 : wr.cell? ⟨gb202, 2, none⟩ = some (.int .i64 t200) := (blk_cell BK202.out 2).trans rfl
                  have hcz192_3 : wr.cell? ⟨gb202, 3, none⟩ = some (.int .i64 t201) := (blk_cell BK202.out 3).trans rfl
                  have hfz192_0 := blk_frozen BK202.out 0
                  have hfz192_1 := blk_frozen BK202.out 1
                  have hfz192_2 := blk_frozen BK202.out 2
                  have hfz192_3 := blk_frozen BK202.out 3
                  have hnb193 := NB205_206.out
                  have hnc193 := NB206_205.out
                  have hnb194 := NB205_207.out
                  have hnc194 := NB207_205.out
                  have hcz195_0 : wr.cell? ⟨gb205, 0, none⟩ = some (.int .i64 x206000_2) := (blk_cell BK205.out 0).trans rfl
                  have hcz195_1 : wr.cell? ⟨gb205, 1, none⟩ = some (.int .i64 x206001_2) := (blk_cell BK205.out 1).trans rfl
                  have hcz195_2 : wr.cell? ⟨gb205, 2, none⟩ = some (.int .i64 x206002_2) := (blk_cell BK205.out 2).trans rfl
                  have hcz195_3 : wr.cell? ⟨gb205, 3, none⟩ = some (.int .i64 x206003_2) := (blk_cell BK205.out 3).trans rfl
                  have hfz195_0 := blk_frozen BK205.out 0
                  have hfz195_1 := blk_frozen BK205.out 1
                  have hfz195_2 := blk_frozen BK205.out 2
                  have hfz195_3 := blk_frozen BK205.out 3
                  have hnb196 := NB206_207.out
                  have hnc196 := NB207_206.out
                  have hcz197_0 : wr.cell? ⟨gb206, 0, none⟩ = some (.int .i64 x207000_2) := (blk_cell BK206.out 0).trans rfl
                  have hcz197_1 : wr.cell? ⟨gb206, 1, none⟩ = some (.int .i64 x207001_2) := (blk_cell BK206.out 1).trans rfl
                  have hcz197_2 : wr.cell? ⟨gb206, 2, none⟩ = some (.int .i64 x207002_2) := (blk_cell BK206.out 2).trans rfl
                  have hcz197_3 : wr.cell? ⟨gb206, 3, none⟩ = some (.int .i64 x207003_2) := (blk_cell BK206.out 3).trans rfl
                  have hfz197_0 := blk_frozen BK206.out 0
                  have hfz197_1 := blk_frozen BK206.out 1
                  have hfz197_2 := blk_frozen BK206.out 2
                  have hfz197_3 := blk_frozen BK206.out 3
                  have hcz198_0 : wr.cell? ⟨gb207, 0, none⟩ = some (.int .i64 x208000_2) := (blk_cell BK207.out 0).trans rfl
                  have hcz198_1 : wr.cell? ⟨gb207, 1, none⟩ = some (.int .i64 x208001_2) := (blk_cell BK207.out 1).trans rfl
                  have hcz198_2 : wr.cell? ⟨gb207, 2, none⟩ = some (.int .i64 x208002_2) := (blk_cell BK207.out 2).trans rfl
                  have hcz198_3 : wr.cell? ⟨gb207, 3, none⟩ = some (.int .i64 x208003_2) := (blk_cell BK207.out 3).trans rfl
                  have hfz198_0 := blk_frozen BK207.out 0
                  have hfz198_1 := blk_frozen BK207.out 1
                  have hfz198_2 := blk_frozen BK207.out 2
                  have hfz198_3 := blk_frozen BK207.out 3
                  go_wp2
                  go_ret
                  exact ⟨by first | rfl | (simp [errW_none, errW_some] <;> rfl) | (simp [*, errW_none, errW_some] <;> rfl), by repeat (first | (with_reducible first | exact HB.out | apply below_alloc | apply pw_below_drewN | apply below_drew1 | refine below_set ?_ GE202.out | refine below_set ?_ GE205.out | refine below_set ?_ GE206.out | refine below_set ?_ GE207.out) | exact HB.out)⟩
                ·rw [if_neg c175] at H
                 have c175b0 : (x8_2 == 1) = false := beq_eq_false_iff_ne.mpr c175
                 have c175b1 : (x8_2 != 1) = true := bne_iff_ne.mpr c175
                 replace H := Option.bind_eq_some_iff.mp H
                 obtain ⟨t212, A1990, H⟩ := H
                 replace H : (some t212) = some r := H
                 have A199 := Aside0.mk A1990
                 clear A1990
                 obtain rfl := Option.some.inj H
                 have hnb200 := NB202_205.out
                 have hnc200 := NB205_202.out
                 have hnb201 := NB202_206.out
                 have hnc201 := NB206_202.out
                 have hnb202 := NB202_207.out
                 have hnc202 := NB207_202.out
                 have hcz203_0 : wr.cell? ⟨gb202, 0, none⟩ = some (.int .i64 t198) := (blk_cell BK202.out 0).trans rfl
                 have hcz203_1 : wr.cell? ⟨gb202, 1, none⟩ = some (.int .i64 t199) := (blk_cell BK202.out 1).trans rfl
                 have hcz203_2 : wr.cell? ⟨gb202, 2, none⟩ = some (.int .i64 t200) := (blk_cell BK202.out 2).trans rfl
                 have hcz203_3 : wr.cell? ⟨gb202, 3, none⟩ = some (.int .i64 t201) := (blk_cell BK202.out 3).trans rfl
                 have hfz203_0 := blk_frozen BK202.out 0
                 have hfz203_1 := blk_frozen BK202.out 1
                 have hfz203_2 := blk_frozen BK202.out 2
                 have hfz203_3 := blk_frozen BK202.out 3
                 have hnb204 := NB205_206.out
                 have hnc204 := NB206_205.out
                 have hnb205 := NB205_207.out
                 have hnc205 := NB207_205.out
                 have hcz206_0 : wr.cell? ⟨gb205, 0, none⟩ = some (.int .i64 x206000_2) := (blk_cell BK205.out 0).trans rfl
                 have hcz206_1 : wr.cell? ⟨gb205, 1, none⟩ = some (.int .i64 x206001_2) := (blk_cell BK205.out 1).trans rfl
                 have hcz206_2 : wr.cell? ⟨gb205, 2, none⟩ = some (.int .i64 x206002_2) := (blk_cell BK205.out 2).trans rfl
                 have hcz206_3 : wr.cell? ⟨gb205, 3, none⟩ = some (.int .i64 x206003_2) := (blk_cell BK205.out 3).trans rfl
                 have hfz206_0 := blk_frozen BK205.out 0
                 have hfz206_1 := blk_frozen BK205.out 1
                 have hfz206_2 := blk_frozen BK205.out 2
                 have hfz206_3 := blk_frozen BK205.out 3
                 have hnb207 := NB206_207.out
                 have hnc207 := NB207_206.out
                 have hcz208_0 : wr.cell? ⟨gb206, 0, none⟩ = some (.int .i64 x207000_2) := (blk_cell BK206.out 0).trans rfl
                 have hcz208_1 : wr.cell? ⟨gb206, 1, none⟩ = some (.int .i64 x207001_2) := (blk_cell BK206.out 1).trans rfl
                 have hcz208_2 : wr.cell? ⟨gb206, 2, none⟩ = some (.int .i64 x207002_2) := (blk_cell BK206.out 2).trans rfl
                 have hcz208_3 : wr.cell? ⟨gb206, 3, none⟩ = some (.int .i64 x207003_2) := (blk_cell BK206.out 3).trans rfl
                 have hfz208_0 := blk_frozen BK206.out 0
                 have hfz208_1 := blk_frozen BK206.out 1
                 have hfz208_2 := blk_frozen BK206.out 2
                 have hfz208_3 := blk_frozen BK206.out 3
                 go_wp2_with (first | (go_at_call 12; (with_reducible refine (celluloidlaw19_awake.calls k2  t212 _ A199.out).mono ?_); rintro e w209 ⟨rfl, hb⟩; have n0_ := Aside0.mk (blk_below (g := gb202) (o := .cells #[.int .i64 t198, .int .i64 t199, .int .i64 t200, .int .i64 t201] 27 (0, 0)) (by (with_reducible repeat (first | refine blk_drewN ?_ _ | refine blk_drew ?_ | refine blk_alloc ?_ _)); exact BK202.out) hb); have n1_ := Aside0.mk (blk_below (g := gb205) (o := .cells #[.int .i64 x206000_2, .int .i64 x206001_2, .int .i64 x206002_2, .int .i64 x206003_2] 27 (0, 0)) (by (with_reducible repeat (first | refine blk_drewN ?_ _ | refine blk_drew ?_ | refine blk_alloc ?_ _)); exact BK205.out) hb); have n2_ := Aside0.mk (blk_below (g := gb206) (o := .cells #[.int .i64 x207000_2, .int .i64 x207001_2, .int .i64 x207002_2, .int .i64 x207003_2] 27 (0, 0)) (by (with_reducible repeat (first | refine blk_drewN ?_ _ | refine blk_drew ?_ | refine blk_alloc ?_ _)); exact BK206.out) hb); have n3_ := Aside0.mk (blk_below (g := gb207) (o := .cells #[.int .i64 x208000_2, .int .i64 x208001_2, .int .i64 x208002_2, .int .i64 x208003_2] 27 (0, 0)) (by (with_reducible repeat (first | refine blk_drewN ?_ _ | refine blk_drew ?_ | refine blk_alloc ?_ _)); exact BK207.out) hb); have n4_ := Aside0.mk (below_step (by repeat (first | (with_reducible first | exact HB.out | apply below_alloc | apply pw_below_drewN | apply below_drew1 | refine below_set ?_ GE202.out | refine below_set ?_ GE205.out | refine below_set ?_ GE206.out | refine below_set ?_ GE207.out) | exact HB.out)) hb); clear BK202; clear BK205; clear BK206; clear BK207; clear HB; have BK202 := n0_; have BK205 := n1_; have BK206 := n2_; have BK207 := n3_; have HB := n4_; clear n0_ n1_ n2_ n3_ n4_; (try clear hb); (try clear hb2); (try clear hk); (try clear hi)))
                 go_ret
                 exact ⟨by first | rfl | (simp [errW_none, errW_some] <;> rfl) | (simp [*, errW_none, errW_some] <;> rfl), by repeat (first | (with_reducible first | exact HB.out | apply below_alloc | apply pw_below_drewN | apply below_drew1 | refine below_set ?_ GE202.out | refine below_set ?_ GE205.out | refine below_set ?_ GE206.out | refine below_set ?_ GE207.out) | exact HB.out)⟩
    ·rw [if_neg c15] at H
     exact absurd H (by simp)

end Go.Proofs.Ytdphpilcokloeaa.P
