/- Printed by printx.py (wip/tool) out of the translation: plain functions that tell what the program answers, and the proofs that the program comes to these answers, for all arguments of their kinds. Lean checks it. -/
import Derived.Test.YtdphpilcokloeaaPx0
import Derived.Test.YtdphpilcokloeaaPx4
import Derived.Test.YtdphpilcokloeaaPx6
namespace Go.Proofs.Ytdphpilcokloeaa.P
open Go.RowKit Go.Proofs.YtdphpilcokloeaaW.PrintWords Go.Proofs.YtdphpilcokloeaaW.PrintLast Go.Proofs.YtdphpilcokloeaaW.PrintMore
attribute [local go_sem] max2_int min2_int max_two min_two max_three min_three max_four min_four max_five min_five max_six min_six   -- for this text's walks alone
set_option linter.unusedVariables false
set_option linter.unusedSimpArgs false

/-! ### ramp_Color: function 13 -/
mutual
def ramp_Color.j0 : Nat → List (S32) → Int → Bool → Option (Int × Int × Int × Int)
  | 0, _, _, _ => none
  | k + 1, x0, x1, x20 => if x20 = true then (some (0, 0, 0, 0)) else (if 0 < (x0.length : Int) then (if x1 ≤ ((rd_T32 x0 0).f0) then (some ((rd_T32 x0 0).f1.f0, (rd_T32 x0 0).f1.f1, (rd_T32 x0 0).f1.f2, (rd_T32 x0 0).f1.f3)) else (ramp_Color.l0 k x0 x1 0)) else (none))
def ramp_Color.j2 : Nat → List (S32) → Int → Int → Option (Int × Int × Int × Int)
  | 0, _, _, _ => none
  | k + 1, x0, x1, x5 => if 0 ≤ x5 then (if x5 < (x0.length : Int) then (if (wrap64 (x5 + 1)) = (x0.length : Int) then (some ((rd_T32 x0 x5).f1.f0, (rd_T32 x0 x5).f1.f1, (rd_T32 x0 x5).f1.f2, (rd_T32 x0 x5).f1.f3)) else (if 0 ≤ (wrap64 (x5 + 1)) then (if (wrap64 (x5 + 1)) < (x0.length : Int) then ((ramp_mix.f k ((rd_T32 x0 x5).f1.f0) ((rd_T32 x0 (wrap64 (x5 + 1))).f1.f0) (wrap64 (x1 - ((rd_T32 x0 x5).f0))) (wrap64 (((rd_T32 x0 (wrap64 (x5 + 1))).f0) - ((rd_T32 x0 x5).f0)))).bind fun t142 => ((ramp_mix.f k ((rd_T32 x0 x5).f1.f1) ((rd_T32 x0 (wrap64 (x5 + 1))).f1.f1) (wrap64 (x1 - ((rd_T32 x0 x5).f0))) (wrap64 (((rd_T32 x0 (wrap64 (x5 + 1))).f0) - ((rd_T32 x0 x5).f0)))).bind fun t143 => ((ramp_mix.f k ((rd_T32 x0 x5).f1.f2) ((rd_T32 x0 (wrap64 (x5 + 1))).f1.f2) (wrap64 (x1 - ((rd_T32 x0 x5).f0))) (wrap64 (((rd_T32 x0 (wrap64 (x5 + 1))).f0) - ((rd_T32 x0 x5).f0)))).bind fun t144 => ((ramp_mix.f k ((rd_T32 x0 x5).f1.f3) ((rd_T32 x0 (wrap64 (x5 + 1))).f1.f3) (wrap64 (x1 - ((rd_T32 x0 x5).f0))) (wrap64 (((rd_T32 x0 (wrap64 (x5 + 1))).f0) - ((rd_T32 x0 x5).f0)))).bind fun t145 => (some (t142, t143, t144, t145)))))) else (none)) else (none))) else (none)) else (none)
def ramp_Color.l0 : Nat → List (S32) → Int → Int → Option (Int × Int × Int × Int)
  | 0, _, _, _ => none
  | k + 1, x0, x1, x5 => if (wrap64 (x5 + 1)) < (x0.length : Int) then (if 0 ≤ (wrap64 (x5 + 1)) then (if ((rd_T32 x0 (wrap64 (x5 + 1))).f0) ≤ x1 then (ramp_Color.l0 k x0 x1 (wrap64 (x5 + 1))) else (ramp_Color.j2 k x0 x1 x5)) else (none)) else (ramp_Color.j2 k x0 x1 x5)
end
def ramp_Color.f (k : Nat) (l0 : List (S32)) (a1 : Int) : Option (Int × Int × Int × Int) := (ramp_right.f k l0).bind fun t134 => (if t134 = true then (if a1 < 0 then (ramp_Color.j0 k l0 a1 true) else (ramp_Color.j0 k l0 a1 (decide (a1 > 255)))) else (ramp_Color.j0 k l0 a1 true))
theorem ramp_Color.mono_l : ∀ k, (∀ y0 y1 y2, LeO (ramp_Color.j0 k y0 y1 y2) (ramp_Color.j0 (k + 1) y0 y1 y2)) ∧ (∀ y0 y1 y2, LeO (ramp_Color.j2 k y0 y1 y2) (ramp_Color.j2 (k + 1) y0 y1 y2)) ∧ (∀ y0 y1 y2, LeO (ramp_Color.l0 k y0 y1 y2) (ramp_Color.l0 (k + 1) y0 y1 y2))
  | 0 => ⟨fun _ _ _ r h => by simp [ramp_Color.j0] at h, fun _ _ _ r h => by simp [ramp_Color.j2] at h, fun _ _ _ r h => by simp [ramp_Color.l0] at h⟩
  | k + 1 => by
    obtain ⟨ih0, ih1, ih2⟩ := ramp_Color.mono_l k
    refine ⟨?_, ?_, ?_⟩
    · intro y0 y1 y2
      unfold ramp_Color.j0
      repeat' first
      | (with_reducible exact ih0 _ _ _)
      | (with_reducible exact ih1 _ _ _)
      | (with_reducible exact ih2 _ _ _)
      | (with_reducible exact ramp_mix.mono _ _ _ _ _)
      | (with_reducible exact ramp_right.mono _ _)
      | (with_reducible exact LeO.refl _)
      | (with_reducible exact LeO.none _)
      | (with_reducible refine LeO.ite ?_ ?_)
      | (with_reducible refine LeO.bind ?_ (fun _ => ?_))
      | exact ih0 _ _ _
      | exact ih1 _ _ _
      | exact ih2 _ _ _
      | exact ramp_mix.mono _ _ _ _ _
      | exact ramp_right.mono _ _
      | exact LeO.none _
      | refine LeO.ite ?_ ?_
      | refine LeO.bind ?_ (fun _ => ?_)
    · intro y0 y1 y2
      unfold ramp_Color.j2
      repeat' first
      | (with_reducible exact ih0 _ _ _)
      | (with_reducible exact ih1 _ _ _)
      | (with_reducible exact ih2 _ _ _)
      | (with_reducible exact ramp_mix.mono _ _ _ _ _)
      | (with_reducible exact ramp_right.mono _ _)
      | (with_reducible exact LeO.refl _)
      | (with_reducible exact LeO.none _)
      | (with_reducible refine LeO.ite ?_ ?_)
      | (with_reducible refine LeO.bind ?_ (fun _ => ?_))
      | exact ih0 _ _ _
      | exact ih1 _ _ _
      | exact ih2 _ _ _
      | exact ramp_mix.mono _ _ _ _ _
      | exact ramp_right.mono _ _
      | exact LeO.none _
      | refine LeO.ite ?_ ?_
      | refine LeO.bind ?_ (fun _ => ?_)
    · intro y0 y1 y2
      unfold ramp_Color.l0
      repeat' first
      | (with_reducible exact ih0 _ _ _)
      | (with_reducible exact ih1 _ _ _)
      | (with_reducible exact ih2 _ _ _)
      | (with_reducible exact ramp_mix.mono _ _ _ _ _)
      | (with_reducible exact ramp_right.mono _ _)
      | (with_reducible exact LeO.refl _)
      | (with_reducible exact LeO.none _)
      | (with_reducible refine LeO.ite ?_ ?_)
      | (with_reducible refine LeO.bind ?_ (fun _ => ?_))
      | exact ih0 _ _ _
      | exact ih1 _ _ _
      | exact ih2 _ _ _
      | exact ramp_mix.mono _ _ _ _ _
      | exact ramp_right.mono _ _
      | exact LeO.none _
      | refine LeO.ite ?_ ?_
      | refine LeO.bind ?_ (fun _ => ?_)
theorem ramp_Color.mono : ∀ a0 a1 k, LeO (ramp_Color.f k a0 a1) (ramp_Color.f (k + 1) a0 a1) := by
  intro a0 a1 k
  obtain ⟨ih0, ih1, ih2⟩ := ramp_Color.mono_l k
  unfold ramp_Color.f
  repeat' first
      | (with_reducible exact ih0 _ _ _)
      | (with_reducible exact ih1 _ _ _)
      | (with_reducible exact ih2 _ _ _)
      | (with_reducible exact ramp_mix.mono _ _ _ _ _)
      | (with_reducible exact ramp_right.mono _ _)
      | (with_reducible exact LeO.refl _)
      | (with_reducible exact LeO.none _)
      | (with_reducible refine LeO.ite ?_ ?_)
      | (with_reducible refine LeO.bind ?_ (fun _ => ?_))
      | exact ih0 _ _ _
      | exact ih1 _ _ _
      | exact ih2 _ _ _
      | exact ramp_mix.mono _ _ _ _ _
      | exact ramp_right.mono _ _
      | exact LeO.none _
      | refine LeO.ite ?_ ?_
      | refine LeO.bind ?_ (fun _ => ?_)
def ramp_Color.T12 : Bool × List (List Nat × List Nat) := (true, [([], []), ([], []), ([1], [1]), ([0, 2], [0, 2]), ([], []), ([4], [4]), ([], []), ([6], [6]), ([5, 7], [5, 7]), ([3, 0, 1, 2, 3], [3]), ([8, 9, 0, 1, 2, 3, 4, 5, 6, 7, 8, 9], [8])])
def ramp_Color.B12 : List Nat := [0, 0, 2, 7, 0, 16, 0, 64, 240, 15, 1023]
theorem ramp_Color.tab12 : rtab .any (opsOf Try.f13 12) = ramp_Color.T12 := by kernel_rfl
theorem ramp_Color.bits12 : waitsOk ramp_Color.T12.2 ramp_Color.B12 = true := by kernel_rfl
def ramp_Color.T13 : Bool × List (List Nat × List Nat) := (true, [([], []), ([0], [0]), ([1], [1]), ([], []), ([3], [3]), ([4], [4]), ([], []), ([], []), ([2, 5, 6, 7], [2, 5, 6, 7]), ([], []), ([9], [9]), ([10], [10]), ([], []), ([12], [12]), ([13], [13]), ([], []), ([], []), ([11, 14, 15, 16, 8], [11, 14, 15, 16]), ([], []), ([18], [18]), ([19], [19]), ([], []), ([21], [21]), ([22], [22]), ([], []), ([], []), ([20, 23, 24, 25, 17], [20, 23, 24, 25]), ([], []), ([27], [27]), ([28], [28]), ([], []), ([30], [30]), ([31], [31]), ([], []), ([], []), ([29, 32, 33, 34, 26], [29, 32, 33, 34]), ([8, 17, 26, 35], [8, 17, 26, 35]), ([36, 35, 0, 1, 2, 3, 4, 5, 6, 7, 8, 9, 10, 11, 12, 13, 14, 15, 16, 17, 18, 19, 20, 21, 22, 23, 24, 25, 26, 27, 28, 29, 30, 31, 32, 33, 34, 35, 36], [36])])
def ramp_Color.B13 : List Nat := [0, 1, 3, 0, 8, 24, 0, 0, 255, 0, 512, 1536, 0, 4096, 12288, 0, 0, 131071, 0, 262144, 786432, 0, 2097152, 6291456, 0, 0, 67108863, 0, 134217728, 402653184, 0, 1073741824, 3221225472, 0, 0, 34359738367, 68719476735, 137438953471]
theorem ramp_Color.tab13 : rtab .any (opsOf Try.f13 13) = ramp_Color.T13 := by kernel_rfl
theorem ramp_Color.bits13 : waitsOk ramp_Color.T13.2 ramp_Color.B13 = true := by kernel_rfl
set_option maxHeartbeats 8000000 in
set_option maxRecDepth 100000 in
theorem ramp_Color.calls (k : Nat) (A0 : Option Addr) (c0 : Nat) (l0 : List (S32)) (a1 : Int) (r1 : Int) (r2 : Int) (r3 : Int) (r4 : Int) (w : World) (hr0 : Kd.C k32 w A0 l0.length l0) (hc0 : l0.length ≤ c0) (h : ramp_Color.f k l0 a1 = some (r1, r2, r3, r4)) :
    Calls Try.prog 13 #[.slice A0 l0.length c0, .int .i64 a1] w fun e w' => e = .returned (.agg #[.int .i64 r1, .int .i64 r2, .int .i64 r3, .int .i64 r4]) ∧ Below w.heap.size w w' := by
  have hu27 := Try.underlying27
  have hu32 := Try.underlying32
  have HR0 := Aside0.mk hr0
  have HC0 := Aside0.mk hc0
  clear hr0 hc0
  have HB := Aside0.mk (Below.refl w.heap.size w)
  have H : ((ramp_right.f k l0).bind fun t134 => (if t134 = true then (if a1 < 0 then (ramp_Color.j0 k l0 a1 true) else (ramp_Color.j0 k l0 a1 (decide (a1 > 255)))) else (ramp_Color.j0 k l0 a1 true))) = some (r1, r2, r3, r4) := h
  clear h
  have HC3 := Aside0.mk H
  clear H
  go_enter Try.func13, Try.ntmps13
  go_upto_region 1 with (first | ((with_reducible refine gate_dst (N := 4) rfl ?_); refine box_event ?hg (N := 4) ?hd (cs := #[.int .i64 0, .int .i64 0, .int .i64 0, .int .i64 0]) (t := 27) ?hr ?_; (case hd => rfl); (case hg => rfl); (case hr => first | (go_simp; done) | (go_simp; rfl)); intro gb133 hg w4 hbox hb; have n0_ := Aside0.mk (below_step (by repeat (first | (with_reducible first | exact HB.out | apply below_alloc | apply pw_below_drewN | apply below_drew1) | exact HB.out)) hb); have n1_ := Aside0.mk (hbox); have n2_ := Aside0.mk ((by rw [hg]; exact (below_size (by repeat (first | (with_reducible first | exact HB.out | apply below_alloc | apply pw_below_drewN | apply below_drew1) | exact HB.out))) : w.heap.size ≤ gb133)); have n3_ := Aside0.mk ((by rw [hg]; exact (below_size (by repeat (first | (with_reducible first | exact HB.out | apply below_alloc | apply pw_below_drewN | apply below_drew1) | exact HB.out))) : w.heap.size ≤ gb133)); clear HB; have HB := n0_; have BK133 := n1_; have GW133 := n2_; have GE133 := n3_; clear n0_ n1_ n2_ n3_; clear hb hbox hg))
  (try simp only [Act.put, List.setIfInBounds_toArray, List.set_cons_zero, List.set_cons_succ])
  go_cut [20] (fun v20 wc => ∃ (kq : Nat) (x20_2 : Bool), v20 = .bool x20_2 ∧ Aside0 (ramp_Color.j0 kq l0 a1 x20_2 = some (r1, r2, r3, r4)) ∧ Aside0 (kq ≤ k) ∧ Aside0 (wc.heap[gb133]? = some (.cells #[.int .i64 0, .int .i64 0, .int .i64 0, .int .i64 0] 27 (0, 0))) ∧ Aside0 (Below w.heap.size w wc))
  case first =>
    have H := HC3.out
    clear HC3
    replace H := Option.bind_eq_some_iff.mp H
    obtain ⟨t134, A50, H⟩ := H
    replace H : (if t134 = true then (if a1 < 0 then (ramp_Color.j0 k l0 a1 true) else (ramp_Color.j0 k l0 a1 (decide (a1 > 255)))) else (ramp_Color.j0 k l0 a1 true)) = some (r1, r2, r3, r4) := H
    have A5 := Aside0.mk A50
    clear A50
    by_cases c6 : t134 = true
    · subst c6
      have H1 : (if a1 < 0 then (ramp_Color.j0 k l0 a1 true) else (ramp_Color.j0 k l0 a1 (decide (a1 > 255)))) = some (r1, r2, r3, r4) := by rw [if_pos rfl] at H; exact H
      clear H
      have H := H1
      clear H1
      by_cases c7 : a1 < 0
      · rw [if_pos c7] at H
        have c7b0 : decide (a1 < 0) = true := decide_eq_true c7
        clear c7
        (first | rw [c7b0] | (simp only [i64_w, i32_w]; rw [c7b0]) | skip)
        have H' := Aside0.mk H
        clear H
        go_wp2_with (first | ((with_reducible refine gate_callee (f := 24) rfl ?_); refine goesL_ (some 11) rfl rfl Try.func24 (by kernel_rfl) rfl #[.slice A0 l0.length c0] rfl (by (try simp only [List.map_toArray, List.map_cons, List.map_nil]); first | done | rfl | (simp only [List.length_drop, List.length_take]; rfl)) ?_; (with_reducible refine (ramp_right.calls k _ _ l0 true _ ?side1 ?side2 A5.out).mono ?_); (case side1 => repeat (first | exact (Kd.C_below HR0.out HB.out) | (with_reducible refine Kd.C_alloc ?_ _) | (with_reducible refine Kd.C_drewN ?_ _) | (with_reducible refine Kd.C_drew ?_))); (case side2 => exact HC0.out); rintro e w8 ⟨rfl, hb⟩; refine ⟨_, rfl, ?_⟩; have n0_ := Aside0.mk (blk_below (g := gb133) (o := .cells #[.int .i64 0, .int .i64 0, .int .i64 0, .int .i64 0] 27 (0, 0)) (by (with_reducible repeat (first | refine blk_drewN ?_ _ | refine blk_drew ?_ | refine blk_alloc ?_ _)); exact BK133.out) hb); have n1_ := Aside0.mk (below_step (by repeat (first | (with_reducible first | exact HB.out | apply below_alloc | apply pw_below_drewN | apply below_drew1 | refine below_set ?_ GE133.out) | exact HB.out)) hb); clear BK133; clear HB; have BK133 := n0_; have HB := n1_; clear n0_ n1_; (try clear hb); (try clear hb2); (try clear hk); (try clear hi)))
        go_meet
        case rel => exact ⟨_, (true), (by first | rfl | (simp; done) | (simp [*]; done)), H', ⟨by first | omega | exact Nat.le_refl _⟩, ⟨by (with_reducible repeat (first | refine blk_drewN ?_ _ | refine blk_drew ?_ | refine blk_alloc ?_ _)); exact BK133.out⟩, ⟨by repeat (first | (with_reducible first | exact HB.out | apply below_alloc | apply pw_below_drewN | apply below_drew1 | refine below_set ?_ GE133.out) | exact HB.out)⟩⟩
      · rw [if_neg c7] at H
        have c7b0 : decide (a1 < 0) = false := decide_eq_false c7
        clear c7
        (first | rw [c7b0] | (simp only [i64_w, i32_w]; rw [c7b0]) | skip)
        have H' := Aside0.mk H
        clear H
        go_wp2_with (first | ((with_reducible refine gate_callee (f := 24) rfl ?_); refine goesL_ (some 11) rfl rfl Try.func24 (by kernel_rfl) rfl #[.slice A0 l0.length c0] rfl (by (try simp only [List.map_toArray, List.map_cons, List.map_nil]); first | done | rfl | (simp only [List.length_drop, List.length_take]; rfl)) ?_; (with_reducible refine (ramp_right.calls k _ _ l0 true _ ?side1 ?side2 A5.out).mono ?_); (case side1 => repeat (first | exact (Kd.C_below HR0.out HB.out) | (with_reducible refine Kd.C_alloc ?_ _) | (with_reducible refine Kd.C_drewN ?_ _) | (with_reducible refine Kd.C_drew ?_))); (case side2 => exact HC0.out); rintro e w9 ⟨rfl, hb⟩; refine ⟨_, rfl, ?_⟩; have n0_ := Aside0.mk (blk_below (g := gb133) (o := .cells #[.int .i64 0, .int .i64 0, .int .i64 0, .int .i64 0] 27 (0, 0)) (by (with_reducible repeat (first | refine blk_drewN ?_ _ | refine blk_drew ?_ | refine blk_alloc ?_ _)); exact BK133.out) hb); have n1_ := Aside0.mk (below_step (by repeat (first | (with_reducible first | exact HB.out | apply below_alloc | apply pw_below_drewN | apply below_drew1 | refine below_set ?_ GE133.out) | exact HB.out)) hb); clear BK133; clear HB; have BK133 := n0_; have HB := n1_; clear n0_ n1_; (try clear hb); (try clear hb2); (try clear hk); (try clear hi)))
        go_meet
        case rel => exact ⟨_, (decide (a1 > 255)), (by first | rfl | (simp; done) | (simp [*]; done)), H', ⟨by first | omega | exact Nat.le_refl _⟩, ⟨by (with_reducible repeat (first | refine blk_drewN ?_ _ | refine blk_drew ?_ | refine blk_alloc ?_ _)); exact BK133.out⟩, ⟨by repeat (first | (with_reducible first | exact HB.out | apply below_alloc | apply pw_below_drewN | apply below_drew1 | refine below_set ?_ GE133.out) | exact HB.out)⟩⟩
    · replace c6 := Bool.eq_false_iff.mpr c6
      subst c6
      have H1 : (ramp_Color.j0 k l0 a1 true) = some (r1, r2, r3, r4) := by rw [if_neg (show ¬ (false = true) by decide)] at H; exact H
      clear H
      have H := H1
      clear H1
      have H' := Aside0.mk H
      clear H
      go_wp2_with (first | ((with_reducible refine gate_callee (f := 24) rfl ?_); refine goesL_ (some 11) rfl rfl Try.func24 (by kernel_rfl) rfl #[.slice A0 l0.length c0] rfl (by (try simp only [List.map_toArray, List.map_cons, List.map_nil]); first | done | rfl | (simp only [List.length_drop, List.length_take]; rfl)) ?_; (with_reducible refine (ramp_right.calls k _ _ l0 false _ ?side1 ?side2 A5.out).mono ?_); (case side1 => repeat (first | exact (Kd.C_below HR0.out HB.out) | (with_reducible refine Kd.C_alloc ?_ _) | (with_reducible refine Kd.C_drewN ?_ _) | (with_reducible refine Kd.C_drew ?_))); (case side2 => exact HC0.out); rintro e w10 ⟨rfl, hb⟩; refine ⟨_, rfl, ?_⟩; have n0_ := Aside0.mk (blk_below (g := gb133) (o := .cells #[.int .i64 0, .int .i64 0, .int .i64 0, .int .i64 0] 27 (0, 0)) (by (with_reducible repeat (first | refine blk_drewN ?_ _ | refine blk_drew ?_ | refine blk_alloc ?_ _)); exact BK133.out) hb); have n1_ := Aside0.mk (below_step (by repeat (first | (with_reducible first | exact HB.out | apply below_alloc | apply pw_below_drewN | apply below_drew1 | refine below_set ?_ GE133.out) | exact HB.out)) hb); clear BK133; clear HB; have BK133 := n0_; have HB := n1_; clear n0_ n1_; (try clear hb); (try clear hb2); (try clear hk); (try clear hi)))
      go_meet
      case rel => exact ⟨_, (true), (by first | rfl | (simp; done) | (simp [*]; done)), H', ⟨by first | omega | exact Nat.le_refl _⟩, ⟨by (with_reducible repeat (first | refine blk_drewN ?_ _ | refine blk_drew ?_ | refine blk_alloc ?_ _)); exact BK133.out⟩, ⟨by repeat (first | (with_reducible first | exact HB.out | apply below_alloc | apply pw_below_drewN | apply below_drew1 | refine below_set ?_ GE133.out) | exact HB.out)⟩⟩
  case rest =>
    clear HC3
    try clear c1
    try clear c2
    try clear p2
    try clear c6
    try clear c7
    try clear c7b0
    obtain ⟨kq, x20_2, rfl, HA, HJ2, BK133, HB⟩ := hcut
    cases kq with
    | zero => exact absurd HA.out (by simp [ramp_Color.j0])
    | succ kj2 =>
      have H := HA.out
      clear HA
      simp only [ramp_Color.j0] at H
      by_cases c11 : x20_2 = true
      · subst c11
        have H1 : (some (0, 0, 0, 0)) = some (r1, r2, r3, r4) := by rw [if_pos rfl] at H; exact H
        clear H
        have H := H1
        clear H1
        simp only [Option.some.injEq, Prod.mk.injEq] at H
        obtain ⟨rfl, rfl, rfl, rfl⟩ := H
        have hcz12_0 : wc.cell? ⟨gb133, 0, none⟩ = some (.int .i64 0) := (blk_cell BK133.out 0).trans rfl
        have hcz12_1 : wc.cell? ⟨gb133, 1, none⟩ = some (.int .i64 0) := (blk_cell BK133.out 1).trans rfl
        have hcz12_2 : wc.cell? ⟨gb133, 2, none⟩ = some (.int .i64 0) := (blk_cell BK133.out 2).trans rfl
        have hcz12_3 : wc.cell? ⟨gb133, 3, none⟩ = some (.int .i64 0) := (blk_cell BK133.out 3).trans rfl
        have hfz12_0 := blk_frozen BK133.out 0
        have hfz12_1 := blk_frozen BK133.out 1
        have hfz12_2 := blk_frozen BK133.out 2
        have hfz12_3 := blk_frozen BK133.out 3
        go_wp2
        refine bodyPost_ret (results_cell_row rfl _ _ gb133 27 #[.int .i64 0, .int .i64 0, .int .i64 0, .int .i64 0] (0, 0) _ rfl (by (with_reducible repeat (first | refine blk_drewN ?_ _ | refine blk_drew ?_ | refine blk_alloc ?_ _)); refine blk_put (cs := #[.int .i64 0, .int .i64 0, .int .i64 0, .int .i64 0]) ?_ 3 _ rfl; (with_reducible repeat (first | refine blk_drewN ?_ _ | refine blk_drew ?_ | refine blk_alloc ?_ _)); refine blk_put (cs := #[.int .i64 0, .int .i64 0, .int .i64 0, .int .i64 0]) ?_ 2 _ rfl; (with_reducible repeat (first | refine blk_drewN ?_ _ | refine blk_drew ?_ | refine blk_alloc ?_ _)); refine blk_put (cs := #[.int .i64 0, .int .i64 0, .int .i64 0, .int .i64 0]) ?_ 1 _ rfl; (with_reducible repeat (first | refine blk_drewN ?_ _ | refine blk_drew ?_ | refine blk_alloc ?_ _)); refine blk_put (cs := #[.int .i64 0, .int .i64 0, .int .i64 0, .int .i64 0]) ?_ 0 _ rfl; (with_reducible repeat (first | refine blk_drewN ?_ _ | refine blk_drew ?_ | refine blk_alloc ?_ _)); exact BK133.out) Try.underlying27 rfl (by kernel_rfl)) rfl ?_
        exact ⟨by first | rfl | (simp [errW_none, errW_some] <;> rfl) | (simp [*, errW_none, errW_some] <;> rfl), by repeat (first | (with_reducible first | exact HB.out | apply below_alloc | apply pw_below_drewN | apply below_drew1 | refine below_set ?_ GE133.out) | exact HB.out)⟩
      · replace c11 := Bool.eq_false_iff.mpr c11
        subst c11
        have H1 : (if 0 < (l0.length : Int) then (if a1 ≤ ((rd_T32 l0 0).f0) then (some ((rd_T32 l0 0).f1.f0, (rd_T32 l0 0).f1.f1, (rd_T32 l0 0).f1.f2, (rd_T32 l0 0).f1.f3)) else (ramp_Color.l0 kj2 l0 a1 0)) else (none)) = some (r1, r2, r3, r4) := by rw [if_neg (show ¬ (false = true) by decide)] at H; exact H
        clear H
        have H := H1
        clear H1
        by_cases c13 : 0 < (l0.length : Int)
        · rw [if_pos c13] at H
          have c13b0 : decide (0 < (l0.length : Int)) = true := decide_eq_true c13
          have c13b1 : decide (0 < l0.length) = true := decide_eq_true (by omega)
          clear c13
          by_cases c14 : a1 ≤ ((rd_T32 l0 0).f0)
          · rw [if_pos c14] at H
            have c14b0 : decide (a1 ≤ ((rd_T32 l0 0).f0)) = true := decide_eq_true c14
            clear c14
            simp only [Option.some.injEq, Prod.mk.injEq] at H
            obtain ⟨rfl, rfl, rfl, rfl⟩ := H
            have p135 : 0 ≤ (0 : Int) := (by omega)
            have q135 : 0 < (l0.length : Int) := of_decide_eq_true (by first | (with_reducible assumption) | assumption)
            obtain ⟨ad135, e135, hx135_0, hx135_1, hx135_2, hx135_3, hx135_4⟩ := at_T32 HR0.out 0 p135 q135
            cases e135
            have qi135 : (0 < l0.length) = True := eq_true (by omega)
            (try rw [show ((0 : Int)).toNat = 0 from rfl] at hx135_0)
            (try rw [show 0 * 5 = 0 from rfl] at hx135_0)
            (try rw [Addr.add_zero'] at hx135_0)
            (try rw [show ((0 : Int)).toNat = 0 from rfl] at hx135_1)
            (try rw [show 0 * 5 = 0 from rfl] at hx135_1)
            (try rw [Addr.add_zero'] at hx135_1)
            (try rw [show ((0 : Int)).toNat = 0 from rfl] at hx135_2)
            (try rw [show 0 * 5 = 0 from rfl] at hx135_2)
            (try rw [Addr.add_zero'] at hx135_2)
            (try rw [show ((0 : Int)).toNat = 0 from rfl] at hx135_3)
            (try rw [show 0 * 5 = 0 from rfl] at hx135_3)
            (try rw [Addr.add_zero'] at hx135_3)
            (try rw [show ((0 : Int)).toNat = 0 from rfl] at hx135_4)
            (try rw [show 0 * 5 = 0 from rfl] at hx135_4)
            (try rw [Addr.add_zero'] at hx135_4)
            replace hx135_0 := (HB.out.cell (World.block_lt_of_cell? w _ hx135_0)).trans hx135_0
            replace hx135_1 := (HB.out.cell (World.block_lt_of_cell? w _ hx135_1)).trans hx135_1
            replace hx135_2 := (HB.out.cell (World.block_lt_of_cell? w _ hx135_2)).trans hx135_2
            replace hx135_3 := (HB.out.cell (World.block_lt_of_cell? w _ hx135_3)).trans hx135_3
            replace hx135_4 := (HB.out.cell (World.block_lt_of_cell? w _ hx135_4)).trans hx135_4
            replace p135 := eq_true p135
            replace q135 := eq_true q135
            have p136 : 0 ≤ (0 : Int) := (by omega)
            have q136 : 0 < (l0.length : Int) := of_decide_eq_true (by first | (with_reducible assumption) | assumption)
            obtain ⟨ad136, e136, hx136_0, hx136_1, hx136_2, hx136_3, hx136_4⟩ := at_T32 HR0.out 0 p136 q136
            obtain rfl : ad135 = ad136 := (by injection e136)
            have qi136 : (0 < l0.length) = True := eq_true (by omega)
            (try rw [show ((0 : Int)).toNat = 0 from rfl] at hx136_0)
            (try rw [show 0 * 5 = 0 from rfl] at hx136_0)
            (try rw [Addr.add_zero'] at hx136_0)
            (try rw [show ((0 : Int)).toNat = 0 from rfl] at hx136_1)
            (try rw [show 0 * 5 = 0 from rfl] at hx136_1)
            (try rw [Addr.add_zero'] at hx136_1)
            (try rw [show ((0 : Int)).toNat = 0 from rfl] at hx136_2)
            (try rw [show 0 * 5 = 0 from rfl] at hx136_2)
            (try rw [Addr.add_zero'] at hx136_2)
            (try rw [show ((0 : Int)).toNat = 0 from rfl] at hx136_3)
            (try rw [show 0 * 5 = 0 from rfl] at hx136_3)
            (try rw [Addr.add_zero'] at hx136_3)
            (try rw [show ((0 : Int)).toNat = 0 from rfl] at hx136_4)
            (try rw [show 0 * 5 = 0 from rfl] at hx136_4)
            (try rw [Addr.add_zero'] at hx136_4)
            replace hx136_0 := (HB.out.cell (World.block_lt_of_cell? w _ hx136_0)).trans hx136_0
            replace hx136_1 := (HB.out.cell (World.block_lt_of_cell? w _ hx136_1)).trans hx136_1
            replace hx136_2 := (HB.out.cell (World.block_lt_of_cell? w _ hx136_2)).trans hx136_2
            replace hx136_3 := (HB.out.cell (World.block_lt_of_cell? w _ hx136_3)).trans hx136_3
            replace hx136_4 := (HB.out.cell (World.block_lt_of_cell? w _ hx136_4)).trans hx136_4
            replace p136 := eq_true p136
            replace q136 := eq_true q136
            have hcz15_0 : wc.cell? ⟨gb133, 0, none⟩ = some (.int .i64 0) := (blk_cell BK133.out 0).trans rfl
            have hcz15_1 : wc.cell? ⟨gb133, 1, none⟩ = some (.int .i64 0) := (blk_cell BK133.out 1).trans rfl
            have hcz15_2 : wc.cell? ⟨gb133, 2, none⟩ = some (.int .i64 0) := (blk_cell BK133.out 2).trans rfl
            have hcz15_3 : wc.cell? ⟨gb133, 3, none⟩ = some (.int .i64 0) := (blk_cell BK133.out 3).trans rfl
            have hfz15_0 := blk_frozen BK133.out 0
            have hfz15_1 := blk_frozen BK133.out 1
            have hfz15_2 := blk_frozen BK133.out 2
            have hfz15_3 := blk_frozen BK133.out 3
            go_wp2
            refine bodyPost_ret (results_cell_row rfl _ _ gb133 27 #[.int .i64 ((rd_T32 l0 0).f1.f0), .int .i64 ((rd_T32 l0 0).f1.f1), .int .i64 ((rd_T32 l0 0).f1.f2), .int .i64 ((rd_T32 l0 0).f1.f3)] (0, 0) _ rfl (by (with_reducible repeat (first | refine blk_drewN ?_ _ | refine blk_drew ?_ | refine blk_alloc ?_ _)); refine blk_put (cs := #[.int .i64 ((rd_T32 l0 0).f1.f0), .int .i64 ((rd_T32 l0 0).f1.f1), .int .i64 ((rd_T32 l0 0).f1.f2), .int .i64 0]) ?_ 3 _ rfl; (with_reducible repeat (first | refine blk_drewN ?_ _ | refine blk_drew ?_ | refine blk_alloc ?_ _)); refine blk_put (cs := #[.int .i64 ((rd_T32 l0 0).f1.f0), .int .i64 ((rd_T32 l0 0).f1.f1), .int .i64 0, .int .i64 0]) ?_ 2 _ rfl; (with_reducible repeat (first | refine blk_drewN ?_ _ | refine blk_drew ?_ | refine blk_alloc ?_ _)); refine blk_put (cs := #[.int .i64 ((rd_T32 l0 0).f1.f0), .int .i64 0, .int .i64 0, .int .i64 0]) ?_ 1 _ rfl; (with_reducible repeat (first | refine blk_drewN ?_ _ | refine blk_drew ?_ | refine blk_alloc ?_ _)); refine blk_put (cs := #[.int .i64 0, .int .i64 0, .int .i64 0, .int .i64 0]) ?_ 0 _ rfl; (with_reducible repeat (first | refine blk_drewN ?_ _ | refine blk_drew ?_ | refine blk_alloc ?_ _)); exact BK133.out) Try.underlying27 rfl (by kernel_rfl)) rfl ?_
            exact ⟨by first | rfl | (simp [errW_none, errW_some] <;> rfl) | (simp [*, errW_none, errW_some] <;> rfl), by repeat (first | (with_reducible first | exact HB.out | apply below_alloc | apply pw_below_drewN | apply below_drew1 | refine below_set ?_ GE133.out) | exact HB.out)⟩
          · rw [if_neg c14] at H
            have c14b0 : decide (a1 ≤ ((rd_T32 l0 0).f0)) = false := decide_eq_false c14
            clear c14
            have HC16 := Aside0.mk H
            clear H
            have p135 : 0 ≤ (0 : Int) := (by omega)
            have q135 : 0 < (l0.length : Int) := of_decide_eq_true (by first | (with_reducible assumption) | assumption)
            obtain ⟨ad135, e135, hx135_0, hx135_1, hx135_2, hx135_3, hx135_4⟩ := at_T32 HR0.out 0 p135 q135
            cases e135
            have qi135 : (0 < l0.length) = True := eq_true (by omega)
            (try rw [show ((0 : Int)).toNat = 0 from rfl] at hx135_0)
            (try rw [show 0 * 5 = 0 from rfl] at hx135_0)
            (try rw [Addr.add_zero'] at hx135_0)
            (try rw [show ((0 : Int)).toNat = 0 from rfl] at hx135_1)
            (try rw [show 0 * 5 = 0 from rfl] at hx135_1)
            (try rw [Addr.add_zero'] at hx135_1)
            (try rw [show ((0 : Int)).toNat = 0 from rfl] at hx135_2)
            (try rw [show 0 * 5 = 0 from rfl] at hx135_2)
            (try rw [Addr.add_zero'] at hx135_2)
            (try rw [show ((0 : Int)).toNat = 0 from rfl] at hx135_3)
            (try rw [show 0 * 5 = 0 from rfl] at hx135_3)
            (try rw [Addr.add_zero'] at hx135_3)
            (try rw [show ((0 : Int)).toNat = 0 from rfl] at hx135_4)
            (try rw [show 0 * 5 = 0 from rfl] at hx135_4)
            (try rw [Addr.add_zero'] at hx135_4)
            replace hx135_0 := (HB.out.cell (World.block_lt_of_cell? w _ hx135_0)).trans hx135_0
            replace hx135_1 := (HB.out.cell (World.block_lt_of_cell? w _ hx135_1)).trans hx135_1
            replace hx135_2 := (HB.out.cell (World.block_lt_of_cell? w _ hx135_2)).trans hx135_2
            replace hx135_3 := (HB.out.cell (World.block_lt_of_cell? w _ hx135_3)).trans hx135_3
            replace hx135_4 := (HB.out.cell (World.block_lt_of_cell? w _ hx135_4)).trans hx135_4
            replace p135 := eq_true p135
            replace q135 := eq_true q135
            go_upto_block 0 with (fail)
            go_cut [5] (fun v5 wc => ∃ (kq : Nat) (x5_15 : Int), v5 = .int .i64 x5_15 ∧ Aside0 (ramp_Color.j2 kq l0 a1 x5_15 = some (r1, r2, r3, r4)) ∧ Aside0 (kq ≤ kj2) ∧ Aside0 (wc.heap[gb133]? = some (.cells #[.int .i64 0, .int .i64 0, .int .i64 0, .int .i64 0] 27 (0, 0))) ∧ Aside0 (Below w.heap.size w wc))
            case first =>
              have H := HC16.out
              clear HC16
              have H' := Aside0.mk H
              clear H
              go_wp2
              go_loopg [5] kj2 (fun kq v5 w' => ∃ (x5_2 : Int), v5 = .int .i64 x5_2 ∧ Aside0 (ramp_Color.l0 kq l0 a1 x5_2 = some (r1, r2, r3, r4)) ∧ Aside0 (kq ≤ kj2) ∧ Aside0 (w'.heap[gb133]? = some (.cells #[.int .i64 0, .int .i64 0, .int .i64 0, .int .i64 0] 27 (0, 0))) ∧ Aside0 (Below w.heap.size w w'))
              case atStart => exact ⟨(0), (by first | rfl | (simp; done) | (simp [*]; done)), H', ⟨Nat.le_refl _⟩, ⟨by (with_reducible repeat (first | refine blk_drewN ?_ _ | refine blk_drew ?_ | refine blk_alloc ?_ _)); exact BK133.out⟩, ⟨by repeat (first | (with_reducible first | exact HB.out | apply below_alloc | apply pw_below_drewN | apply below_drew1 | refine below_set ?_ GE133.out) | exact HB.out)⟩⟩
              case round =>
                clear H'
                try clear c1
                try clear p1
                try clear q1
                try clear hx1
                try clear qi1
                try clear c2
                try clear p2
                try clear c6
                try clear c7
                try clear c7b0
                try clear c11
                try clear c13
                try clear c13b0
                try clear c13b1
                try clear p13
                try clear q13
                try clear hx13
                try clear qi13
                try clear c14
                try clear c14b0
                try clear hcz12_0
                try clear hcz12_1
                try clear hcz12_2
                try clear hcz12_3
                try clear hcz15_0
                try clear hcz15_1
                try clear hcz15_2
                try clear hcz15_3
                try clear hfz12_0
                try clear hfz12_1
                try clear hfz12_2
                try clear hfz12_3
                try clear hfz15_0
                try clear hfz15_1
                try clear hfz15_2
                try clear hfz15_3
                try clear hx135_0
                try clear hx135_1
                try clear hx135_2
                try clear hx135_3
                try clear hx135_4
                try clear hx136_0
                try clear hx136_1
                try clear hx136_2
                try clear hx136_3
                try clear hx136_4
                try clear p135
                try clear p136
                try clear p2
                try clear q135
                try clear q136
                obtain ⟨x5_2, rfl, HA, HK2, BK133, HB⟩ := hrel
                cases gk with
                | zero => exact absurd HA.out (by simp [ramp_Color.l0])
                | succ k2 =>
                  have H := HA.out
                  clear HA
                  simp only [ramp_Color.l0] at H
                  by_cases c17 : (wrap64 (x5_2 + 1)) < (l0.length : Int)
                  · rw [if_pos c17] at H
                    have c17b0 : decide ((wrap64 (x5_2 + 1)) < (l0.length : Int)) = true := decide_eq_true c17
                    clear c17
                    (first | rw [c17b0] | (simp only [i64_w, i32_w]; rw [c17b0]) | skip)
                    obtain ⟨ji18, hji18⟩ : ∃ j_ : Int, (wrap64 (x5_2 + 1)) = j_ := ⟨_, rfl⟩
                    replace H : (if 0 ≤ (ji18) then (if ((rd_T32 l0 (ji18)).f0) ≤ a1 then (ramp_Color.l0 k2 l0 a1 ji18) else (ramp_Color.j2 k2 l0 a1 x5_2)) else (none)) = some (r1, r2, r3, r4) := by first | (rw [hji18] at H; exact H) | (simp only [hji18] at H ⊢; exact H)
                    (try rw [hji18] at c17b0)
                    have hji18w : (IntKind.i64.wrap (x5_2 + 1)) = ji18 := (i64_w _).trans hji18
                    by_cases c19 : 0 ≤ (ji18)
                    · rw [if_pos c19] at H
                      have c19b0 : decide (0 ≤ (ji18)) = true := decide_eq_true c19
                      clear c19
                      by_cases c20 : ((rd_T32 l0 (ji18)).f0) ≤ a1
                      · rw [if_pos c20] at H
                        have c20b0 : decide (((rd_T32 l0 (ji18)).f0) ≤ a1) = true := decide_eq_true c20
                        clear c20
                        have H' := Aside0.mk H
                        clear H
                        have p137 : 0 ≤ ((ji18) : Int) := of_decide_eq_true (by first | (with_reducible assumption) | assumption)
                        have q137 : (ji18) < (l0.length : Int) := of_decide_eq_true (by first | (with_reducible assumption) | assumption)
                        obtain ⟨ad137, e137, hx137_0, hx137_1, hx137_2, hx137_3, hx137_4⟩ := at_T32 HR0.out (ji18) p137 q137
                        obtain rfl : ad135 = ad137 := (by injection e137)
                        replace hx137_0 := (HB.out.cell (World.block_lt_of_cell? w _ hx137_0)).trans hx137_0
                        replace hx137_1 := (HB.out.cell (World.block_lt_of_cell? w _ hx137_1)).trans hx137_1
                        replace hx137_2 := (HB.out.cell (World.block_lt_of_cell? w _ hx137_2)).trans hx137_2
                        replace hx137_3 := (HB.out.cell (World.block_lt_of_cell? w _ hx137_3)).trans hx137_3
                        replace hx137_4 := (HB.out.cell (World.block_lt_of_cell? w _ hx137_4)).trans hx137_4
                        replace p137 := eq_true p137
                        replace q137 := eq_true q137
                        go_wp2
                        go_roundg k2
                        case measure => have := HJ2.out; have := HK2.out; omega
                        case rel => exact ⟨(ji18), (by first | rfl | (simp; done) | (simp only [← hji18] <;> (first | rfl | simp)) | (simp [*]; done)), H', ⟨by have := HJ2.out; have := HK2.out; omega⟩, ⟨by (with_reducible repeat (first | refine blk_drewN ?_ _ | refine blk_drew ?_ | refine blk_alloc ?_ _)); exact BK133.out⟩, ⟨by repeat (first | (with_reducible first | exact HB.out | apply below_alloc | apply pw_below_drewN | apply below_drew1 | refine below_set ?_ GE133.out) | exact HB.out)⟩⟩
                      · rw [if_neg c20] at H
                        have c20b0 : decide (((rd_T32 l0 (ji18)).f0) ≤ a1) = false := decide_eq_false c20
                        clear c20
                        have H' := Aside0.mk H
                        clear H
                        have p137 : 0 ≤ ((ji18) : Int) := of_decide_eq_true (by first | (with_reducible assumption) | assumption)
                        have q137 : (ji18) < (l0.length : Int) := of_decide_eq_true (by first | (with_reducible assumption) | assumption)
                        obtain ⟨ad137, e137, hx137_0, hx137_1, hx137_2, hx137_3, hx137_4⟩ := at_T32 HR0.out (ji18) p137 q137
                        obtain rfl : ad135 = ad137 := (by injection e137)
                        replace hx137_0 := (HB.out.cell (World.block_lt_of_cell? w _ hx137_0)).trans hx137_0
                        replace hx137_1 := (HB.out.cell (World.block_lt_of_cell? w _ hx137_1)).trans hx137_1
                        replace hx137_2 := (HB.out.cell (World.block_lt_of_cell? w _ hx137_2)).trans hx137_2
                        replace hx137_3 := (HB.out.cell (World.block_lt_of_cell? w _ hx137_3)).trans hx137_3
                        replace hx137_4 := (HB.out.cell (World.block_lt_of_cell? w _ hx137_4)).trans hx137_4
                        replace p137 := eq_true p137
                        replace q137 := eq_true q137
                        go_wp2
                        go_meet
                        case rel => exact ⟨_, (x5_2), (by first | rfl | (simp; done) | (simp [*]; done)), H', ⟨by have := HJ2.out; have := HK2.out; first | omega | exact Nat.le_refl _⟩, ⟨by (with_reducible repeat (first | refine blk_drewN ?_ _ | refine blk_drew ?_ | refine blk_alloc ?_ _)); exact BK133.out⟩, ⟨by repeat (first | (with_reducible first | exact HB.out | apply below_alloc | apply pw_below_drewN | apply below_drew1 | refine below_set ?_ GE133.out) | exact HB.out)⟩⟩
                    · rw [if_neg c19] at H
                      exact absurd H (by simp)
                  · rw [if_neg c17] at H
                    have c17b0 : decide ((wrap64 (x5_2 + 1)) < (l0.length : Int)) = false := decide_eq_false c17
                    clear c17
                    (first | rw [c17b0] | (simp only [i64_w, i32_w]; rw [c17b0]) | skip)
                    have H' := Aside0.mk H
                    clear H
                    go_wp2
                    go_meet
                    case rel => exact ⟨_, (x5_2), (by first | rfl | (simp; done) | (simp [*]; done)), H', ⟨by have := HJ2.out; have := HK2.out; first | omega | exact Nat.le_refl _⟩, ⟨by (with_reducible repeat (first | refine blk_drewN ?_ _ | refine blk_drew ?_ | refine blk_alloc ?_ _)); exact BK133.out⟩, ⟨by repeat (first | (with_reducible first | exact HB.out | apply below_alloc | apply pw_below_drewN | apply below_drew1 | refine below_set ?_ GE133.out) | exact HB.out)⟩⟩
            case rest =>
              clear HC16
              try clear c1
              try clear p1
              try clear q1
              try clear hx1
              try clear qi1
              try clear c2
              try clear p2
              try clear c6
              try clear p6
              try clear c7
              try clear c7b0
              try clear c11
              try clear c13
              try clear c13b0
              try clear c13b1
              try clear p13
              try clear q13
              try clear hx13
              try clear qi13
              try clear c14
              try clear c14b0
              try clear c17
              try clear c17b0
              try clear c19
              try clear c19b0
              try clear c20
              try clear c20b0
              try clear hcz12_0
              try clear hcz12_1
              try clear hcz12_2
              try clear hcz12_3
              try clear hcz15_0
              try clear hcz15_1
              try clear hcz15_2
              try clear hcz15_3
              try clear hfz12_0
              try clear hfz12_1
              try clear hfz12_2
              try clear hfz12_3
              try clear hfz15_0
              try clear hfz15_1
              try clear hfz15_2
              try clear hfz15_3
              try clear hx135_0
              try clear hx135_1
              try clear hx135_2
              try clear hx135_3
              try clear hx135_4
              try clear hx136_0
              try clear hx136_1
              try clear hx136_2
              try clear hx136_3
              try clear hx136_4
              try clear hx137_0
              try clear hx137_1
              try clear hx137_2
              try clear hx137_3
              try clear hx137_4
              try clear p1
              try clear p13
              try clear p135
              try clear p136
              try clear p137
              try clear p2
              try clear q1
              try clear q13
              try clear q135
              try clear q136
              try clear q137
              obtain ⟨kq, x5_15, rfl, HA, HJ15, BK133, HB⟩ := hcut
              cases kq with
              | zero => exact absurd HA.out (by simp [ramp_Color.j2])
              | succ kj15 =>
                have H := HA.out
                clear HA
                simp only [ramp_Color.j2] at H
                by_cases c21 : 0 ≤ x5_15
                · rw [if_pos c21] at H
                  have c21b0 : decide (0 ≤ x5_15) = true := decide_eq_true c21
                  clear c21
                  by_cases c22 : x5_15 < (l0.length : Int)
                  · rw [if_pos c22] at H
                    have c22b0 : decide (x5_15 < (l0.length : Int)) = true := decide_eq_true c22
                    clear c22
                    by_cases c23 : (wrap64 (x5_15 + 1)) = (l0.length : Int)
                    · rw [if_pos c23] at H
                      have c23b0 : ((wrap64 (x5_15 + 1)) == (l0.length : Int)) = true := beq_iff_eq.mpr c23
                      have c23b1 : ((wrap64 (x5_15 + 1)) != (l0.length : Int)) = false := bne_eq_false_iff_eq.mpr c23
                      clear c23
                      simp only [Option.some.injEq, Prod.mk.injEq] at H
                      obtain ⟨rfl, rfl, rfl, rfl⟩ := H
                      have p138 : 0 ≤ (x5_15 : Int) := of_decide_eq_true (by first | (with_reducible assumption) | assumption)
                      have q138 : x5_15 < (l0.length : Int) := of_decide_eq_true (by first | (with_reducible assumption) | assumption)
                      obtain ⟨ad138, e138, hx138_0, hx138_1, hx138_2, hx138_3, hx138_4⟩ := at_T32 HR0.out x5_15 p138 q138
                      obtain rfl : ad135 = ad138 := (by injection e138)
                      replace hx138_0 := (HB.out.cell (World.block_lt_of_cell? w _ hx138_0)).trans hx138_0
                      replace hx138_1 := (HB.out.cell (World.block_lt_of_cell? w _ hx138_1)).trans hx138_1
                      replace hx138_2 := (HB.out.cell (World.block_lt_of_cell? w _ hx138_2)).trans hx138_2
                      replace hx138_3 := (HB.out.cell (World.block_lt_of_cell? w _ hx138_3)).trans hx138_3
                      replace hx138_4 := (HB.out.cell (World.block_lt_of_cell? w _ hx138_4)).trans hx138_4
                      replace p138 := eq_true p138
                      replace q138 := eq_true q138
                      go_wp2_with (first | ((with_reducible refine gate_dst (N := 6) rfl ?_); refine box_event ?hg (N := 6) ?hd (cs := #[.int .i64 0, .int .i64 0, .int .i64 0, .int .i64 0, .int .i64 0]) (t := 32) ?hr ?_; (case hd => rfl); (case hg => rfl); (case hr => first | (go_simp; done) | (go_simp; rfl)); intro gb139 hg w24 hbox hb; have n0_ := Aside0.mk (blk_below (g := gb133) (o := .cells #[.int .i64 0, .int .i64 0, .int .i64 0, .int .i64 0] 27 (0, 0)) (by (with_reducible repeat (first | refine blk_drewN ?_ _ | refine blk_drew ?_ | refine blk_alloc ?_ _)); exact BK133.out) hb); have n1_ := Aside0.mk (below_step (by repeat (first | (with_reducible first | exact HB.out | apply below_alloc | apply pw_below_drewN | apply below_drew1 | refine below_set ?_ GE133.out) | exact HB.out)) hb); have n2_ := Aside0.mk (hbox); have n3_ := Aside0.mk ((by rw [hg]; exact (below_size (by repeat (first | (with_reducible first | exact HB.out | apply below_alloc | apply pw_below_drewN | apply below_drew1 | refine below_set ?_ GE133.out) | exact HB.out))) : w.heap.size ≤ gb139)); have n4_ := Aside0.mk ((by rw [hg]; exact (below_size (by repeat (first | (with_reducible first | exact HB.out | apply below_alloc | apply pw_below_drewN | apply below_drew1 | refine below_set ?_ GE133.out) | exact HB.out))) : w.heap.size ≤ gb139)); have n5_ := Aside0.mk ((by rw [hg]; exact Nat.ne_of_lt (blk_lt (g := gb133) (o := .cells #[.int .i64 0, .int .i64 0, .int .i64 0, .int .i64 0] 27 (0, 0)) (by (with_reducible repeat (first | refine blk_drewN ?_ _ | refine blk_drew ?_ | refine blk_alloc ?_ _)); exact BK133.out)) : gb133 ≠ gb139)); have n6_ := Aside0.mk ((by rw [hg]; exact Nat.ne_of_gt (blk_lt (g := gb133) (o := .cells #[.int .i64 0, .int .i64 0, .int .i64 0, .int .i64 0] 27 (0, 0)) (by (with_reducible repeat (first | refine blk_drewN ?_ _ | refine blk_drew ?_ | refine blk_alloc ?_ _)); exact BK133.out)) : gb139 ≠ gb133)); clear BK133; clear HB; have BK133 := n0_; have HB := n1_; have BK139 := n2_; have GW139 := n3_; have GE139 := n4_; have NB133_139 := n5_; have NB139_133 := n6_; clear n0_ n1_ n2_ n3_ n4_ n5_ n6_; clear hb hbox hg; have hnb25 := NB139_133.out; have hnc25 := NB133_139.out; have hcz26_0 : w24.cell? ⟨gb139, 0, none⟩ = some (.int .i64 0) := (blk_cell BK139.out 0).trans rfl; have hcz26_1 : w24.cell? ⟨gb139, 1, none⟩ = some (.int .i64 0) := (blk_cell BK139.out 1).trans rfl; have hcz26_2 : w24.cell? ⟨gb139, 2, none⟩ = some (.int .i64 0) := (blk_cell BK139.out 2).trans rfl; have hcz26_3 : w24.cell? ⟨gb139, 3, none⟩ = some (.int .i64 0) := (blk_cell BK139.out 3).trans rfl; have hcz26_4 : w24.cell? ⟨gb139, 4, none⟩ = some (.int .i64 0) := (blk_cell BK139.out 4).trans rfl; have hfz26_0 := blk_frozen BK139.out 0; have hfz26_1 := blk_frozen BK139.out 1; have hfz26_2 := blk_frozen BK139.out 2; have hfz26_3 := blk_frozen BK139.out 3; have hfz26_4 := blk_frozen BK139.out 4; have hcz27_0 : w24.cell? ⟨gb133, 0, none⟩ = some (.int .i64 0) := (blk_cell BK133.out 0).trans rfl; have hcz27_1 : w24.cell? ⟨gb133, 1, none⟩ = some (.int .i64 0) := (blk_cell BK133.out 1).trans rfl; have hcz27_2 : w24.cell? ⟨gb133, 2, none⟩ = some (.int .i64 0) := (blk_cell BK133.out 2).trans rfl; have hcz27_3 : w24.cell? ⟨gb133, 3, none⟩ = some (.int .i64 0) := (blk_cell BK133.out 3).trans rfl; have hfz27_0 := blk_frozen BK133.out 0; have hfz27_1 := blk_frozen BK133.out 1; have hfz27_2 := blk_frozen BK133.out 2; have hfz27_3 := blk_frozen BK133.out 3))
                      refine bodyPost_ret (results_cell_row rfl _ _ gb133 27 #[.int .i64 ((rd_T32 l0 x5_15).f1.f0), .int .i64 ((rd_T32 l0 x5_15).f1.f1), .int .i64 ((rd_T32 l0 x5_15).f1.f2), .int .i64 ((rd_T32 l0 x5_15).f1.f3)] (0, 0) _ rfl (by (with_reducible repeat (first | refine blk_drewN ?_ _ | refine blk_drew ?_ | refine blk_alloc ?_ _)); refine blk_put (cs := #[.int .i64 ((rd_T32 l0 x5_15).f1.f0), .int .i64 ((rd_T32 l0 x5_15).f1.f1), .int .i64 ((rd_T32 l0 x5_15).f1.f2), .int .i64 0]) ?_ 3 _ rfl; (with_reducible repeat (first | refine blk_drewN ?_ _ | refine blk_drew ?_ | refine blk_alloc ?_ _)); refine blk_put (cs := #[.int .i64 ((rd_T32 l0 x5_15).f1.f0), .int .i64 ((rd_T32 l0 x5_15).f1.f1), .int .i64 0, .int .i64 0]) ?_ 2 _ rfl; (with_reducible repeat (first | refine blk_drewN ?_ _ | refine blk_drew ?_ | refine blk_alloc ?_ _)); refine blk_put (cs := #[.int .i64 ((rd_T32 l0 x5_15).f1.f0), .int .i64 0, .int .i64 0, .int .i64 0]) ?_ 1 _ rfl; (with_reducible repeat (first | refine blk_drewN ?_ _ | refine blk_drew ?_ | refine blk_alloc ?_ _)); refine blk_put (cs := #[.int .i64 0, .int .i64 0, .int .i64 0, .int .i64 0]) ?_ 0 _ rfl; (with_reducible repeat (first | refine blk_drewN ?_ _ | refine blk_drew ?_ | refine blk_alloc ?_ _)); refine blk_far ?_ NB133_139.out _; (with_reducible repeat (first | refine blk_drewN ?_ _ | refine blk_drew ?_ | refine blk_alloc ?_ _)); refine blk_far ?_ NB133_139.out _; (with_reducible repeat (first | refine blk_drewN ?_ _ | refine blk_drew ?_ | refine blk_alloc ?_ _)); refine blk_far ?_ NB133_139.out _; (with_reducible repeat (first | refine blk_drewN ?_ _ | refine blk_drew ?_ | refine blk_alloc ?_ _)); refine blk_far ?_ NB133_139.out _; (with_reducible repeat (first | refine blk_drewN ?_ _ | refine blk_drew ?_ | refine blk_alloc ?_ _)); refine blk_far ?_ NB133_139.out _; (with_reducible repeat (first | refine blk_drewN ?_ _ | refine blk_drew ?_ | refine blk_alloc ?_ _)); exact BK133.out) Try.underlying27 rfl (by kernel_rfl)) rfl ?_
                      exact ⟨by first | rfl | (simp [errW_none, errW_some] <;> rfl) | (simp [*, errW_none, errW_some] <;> rfl), by repeat (first | (with_reducible first | exact HB.out | apply below_alloc | apply pw_below_drewN | apply below_drew1 | refine below_set ?_ GE133.out | refine below_set ?_ GE139.out) | exact HB.out)⟩
                    · rw [if_neg c23] at H
                      have c23b0 : ((wrap64 (x5_15 + 1)) == (l0.length : Int)) = false := beq_eq_false_iff_ne.mpr c23
                      have c23b1 : ((wrap64 (x5_15 + 1)) != (l0.length : Int)) = true := bne_iff_ne.mpr c23
                      obtain ⟨ji28, hji28⟩ : ∃ j_ : Int, (wrap64 (x5_15 + 1)) = j_ := ⟨_, rfl⟩
                      replace H : (if 0 ≤ (ji28) then (if (ji28) < (l0.length : Int) then ((ramp_mix.f kj15 ((rd_T32 l0 x5_15).f1.f0) ((rd_T32 l0 (ji28)).f1.f0) (wrap64 (a1 - ((rd_T32 l0 x5_15).f0))) (wrap64 (((rd_T32 l0 (ji28)).f0) - ((rd_T32 l0 x5_15).f0)))).bind fun t142 => ((ramp_mix.f kj15 ((rd_T32 l0 x5_15).f1.f1) ((rd_T32 l0 (ji28)).f1.f1) (wrap64 (a1 - ((rd_T32 l0 x5_15).f0))) (wrap64 (((rd_T32 l0 (ji28)).f0) - ((rd_T32 l0 x5_15).f0)))).bind fun t143 => ((ramp_mix.f kj15 ((rd_T32 l0 x5_15).f1.f2) ((rd_T32 l0 (ji28)).f1.f2) (wrap64 (a1 - ((rd_T32 l0 x5_15).f0))) (wrap64 (((rd_T32 l0 (ji28)).f0) - ((rd_T32 l0 x5_15).f0)))).bind fun t144 => ((ramp_mix.f kj15 ((rd_T32 l0 x5_15).f1.f3) ((rd_T32 l0 (ji28)).f1.f3) (wrap64 (a1 - ((rd_T32 l0 x5_15).f0))) (wrap64 (((rd_T32 l0 (ji28)).f0) - ((rd_T32 l0 x5_15).f0)))).bind fun t145 => (some (t142, t143, t144, t145)))))) else (none)) else (none)) = some (r1, r2, r3, r4) := by first | (rw [hji28] at H; exact H) | (simp only [hji28] at H ⊢; exact H)
                      (try rw [hji28] at c23b0)
                      (try rw [hji28] at c23b1)
                      have hji28w : (IntKind.i64.wrap (x5_15 + 1)) = ji28 := (i64_w _).trans hji28
                      by_cases c29 : 0 ≤ (ji28)
                      · rw [if_pos c29] at H
                        have c29b0 : decide (0 ≤ (ji28)) = true := decide_eq_true c29
                        clear c29
                        by_cases c30 : (ji28) < (l0.length : Int)
                        · rw [if_pos c30] at H
                          have c30b0 : decide ((ji28) < (l0.length : Int)) = true := decide_eq_true c30
                          clear c30
                          replace H := Option.bind_eq_some_iff.mp H
                          obtain ⟨t142, A310, H⟩ := H
                          replace H : ((ramp_mix.f kj15 ((rd_T32 l0 x5_15).f1.f1) ((rd_T32 l0 (ji28)).f1.f1) (wrap64 (a1 - ((rd_T32 l0 x5_15).f0))) (wrap64 (((rd_T32 l0 (ji28)).f0) - ((rd_T32 l0 x5_15).f0)))).bind fun t143 => ((ramp_mix.f kj15 ((rd_T32 l0 x5_15).f1.f2) ((rd_T32 l0 (ji28)).f1.f2) (wrap64 (a1 - ((rd_T32 l0 x5_15).f0))) (wrap64 (((rd_T32 l0 (ji28)).f0) - ((rd_T32 l0 x5_15).f0)))).bind fun t144 => ((ramp_mix.f kj15 ((rd_T32 l0 x5_15).f1.f3) ((rd_T32 l0 (ji28)).f1.f3) (wrap64 (a1 - ((rd_T32 l0 x5_15).f0))) (wrap64 (((rd_T32 l0 (ji28)).f0) - ((rd_T32 l0 x5_15).f0)))).bind fun t145 => (some (t142, t143, t144, t145))))) = some (r1, r2, r3, r4) := H
                          have A31 := Aside0.mk A310
                          clear A310
                          replace H := Option.bind_eq_some_iff.mp H
                          obtain ⟨t143, A320, H⟩ := H
                          replace H : ((ramp_mix.f kj15 ((rd_T32 l0 x5_15).f1.f2) ((rd_T32 l0 (ji28)).f1.f2) (wrap64 (a1 - ((rd_T32 l0 x5_15).f0))) (wrap64 (((rd_T32 l0 (ji28)).f0) - ((rd_T32 l0 x5_15).f0)))).bind fun t144 => ((ramp_mix.f kj15 ((rd_T32 l0 x5_15).f1.f3) ((rd_T32 l0 (ji28)).f1.f3) (wrap64 (a1 - ((rd_T32 l0 x5_15).f0))) (wrap64 (((rd_T32 l0 (ji28)).f0) - ((rd_T32 l0 x5_15).f0)))).bind fun t145 => (some (t142, t143, t144, t145)))) = some (r1, r2, r3, r4) := H
                          have A32 := Aside0.mk A320
                          clear A320
                          replace H := Option.bind_eq_some_iff.mp H
                          obtain ⟨t144, A330, H⟩ := H
                          replace H : ((ramp_mix.f kj15 ((rd_T32 l0 x5_15).f1.f3) ((rd_T32 l0 (ji28)).f1.f3) (wrap64 (a1 - ((rd_T32 l0 x5_15).f0))) (wrap64 (((rd_T32 l0 (ji28)).f0) - ((rd_T32 l0 x5_15).f0)))).bind fun t145 => (some (t142, t143, t144, t145))) = some (r1, r2, r3, r4) := H
                          have A33 := Aside0.mk A330
                          clear A330
                          replace H := Option.bind_eq_some_iff.mp H
                          obtain ⟨t145, A340, H⟩ := H
                          replace H : (some (t142, t143, t144, t145)) = some (r1, r2, r3, r4) := H
                          have A34 := Aside0.mk A340
                          clear A340
                          simp only [Option.some.injEq, Prod.mk.injEq] at H
                          obtain ⟨rfl, rfl, rfl, rfl⟩ := H
                          have p138 : 0 ≤ (x5_15 : Int) := of_decide_eq_true (by first | (with_reducible assumption) | assumption)
                          have q138 : x5_15 < (l0.length : Int) := of_decide_eq_true (by first | (with_reducible assumption) | assumption)
                          obtain ⟨ad138, e138, hx138_0, hx138_1, hx138_2, hx138_3, hx138_4⟩ := at_T32 HR0.out x5_15 p138 q138
                          obtain rfl : ad135 = ad138 := (by injection e138)
                          replace hx138_0 := (HB.out.cell (World.block_lt_of_cell? w _ hx138_0)).trans hx138_0
                          replace hx138_1 := (HB.out.cell (World.block_lt_of_cell? w _ hx138_1)).trans hx138_1
                          replace hx138_2 := (HB.out.cell (World.block_lt_of_cell? w _ hx138_2)).trans hx138_2
                          replace hx138_3 := (HB.out.cell (World.block_lt_of_cell? w _ hx138_3)).trans hx138_3
                          replace hx138_4 := (HB.out.cell (World.block_lt_of_cell? w _ hx138_4)).trans hx138_4
                          replace p138 := eq_true p138
                          replace q138 := eq_true q138
                          try go_wp2_with (first | ((with_reducible refine gate_dst (N := 6) rfl ?_); refine box_event ?hg (N := 6) ?hd (cs := #[.int .i64 0, .int .i64 0, .int .i64 0, .int .i64 0, .int .i64 0]) (t := 32) ?hr ?_; (case hd => rfl); (case hg => rfl); (case hr => first | (go_simp; done) | (go_simp; rfl)); intro gb139 hg w35 hbox hb; have n0_ := Aside0.mk (blk_below (g := gb133) (o := .cells #[.int .i64 0, .int .i64 0, .int .i64 0, .int .i64 0] 27 (0, 0)) (by (with_reducible repeat (first | refine blk_drewN ?_ _ | refine blk_drew ?_ | refine blk_alloc ?_ _)); exact BK133.out) hb); have n1_ := Aside0.mk (below_step (by repeat (first | (with_reducible first | exact HB.out | apply below_alloc | apply pw_below_drewN | apply below_drew1 | refine below_set ?_ GE133.out) | exact HB.out)) hb); have n2_ := Aside0.mk (hbox); have n3_ := Aside0.mk ((by rw [hg]; exact (below_size (by repeat (first | (with_reducible first | exact HB.out | apply below_alloc | apply pw_below_drewN | apply below_drew1 | refine below_set ?_ GE133.out) | exact HB.out))) : w.heap.size ≤ gb139)); have n4_ := Aside0.mk ((by rw [hg]; exact (below_size (by repeat (first | (with_reducible first | exact HB.out | apply below_alloc | apply pw_below_drewN | apply below_drew1 | refine below_set ?_ GE133.out) | exact HB.out))) : w.heap.size ≤ gb139)); have n5_ := Aside0.mk ((by rw [hg]; exact Nat.ne_of_lt (blk_lt (g := gb133) (o := .cells #[.int .i64 0, .int .i64 0, .int .i64 0, .int .i64 0] 27 (0, 0)) (by (with_reducible repeat (first | refine blk_drewN ?_ _ | refine blk_drew ?_ | refine blk_alloc ?_ _)); exact BK133.out)) : gb133 ≠ gb139)); have n6_ := Aside0.mk ((by rw [hg]; exact Nat.ne_of_gt (blk_lt (g := gb133) (o := .cells #[.int .i64 0, .int .i64 0, .int .i64 0, .int .i64 0] 27 (0, 0)) (by (with_reducible repeat (first | refine blk_drewN ?_ _ | refine blk_drew ?_ | refine blk_alloc ?_ _)); exact BK133.out)) : gb139 ≠ gb133)); clear BK133; clear HB; have BK133 := n0_; have HB := n1_; have BK139 := n2_; have GW139 := n3_; have GE139 := n4_; have NB133_139 := n5_; have NB139_133 := n6_; clear n0_ n1_ n2_ n3_ n4_ n5_ n6_; clear hb hbox hg; have hnb36 := NB139_133.out; have hnc36 := NB133_139.out; have hcz37_0 : w35.cell? ⟨gb139, 0, none⟩ = some (.int .i64 0) := (blk_cell BK139.out 0).trans rfl; have hcz37_1 : w35.cell? ⟨gb139, 1, none⟩ = some (.int .i64 0) := (blk_cell BK139.out 1).trans rfl; have hcz37_2 : w35.cell? ⟨gb139, 2, none⟩ = some (.int .i64 0) := (blk_cell BK139.out 2).trans rfl; have hcz37_3 : w35.cell? ⟨gb139, 3, none⟩ = some (.int .i64 0) := (blk_cell BK139.out 3).trans rfl; have hcz37_4 : w35.cell? ⟨gb139, 4, none⟩ = some (.int .i64 0) := (blk_cell BK139.out 4).trans rfl; have hfz37_0 := blk_frozen BK139.out 0; have hfz37_1 := blk_frozen BK139.out 1; have hfz37_2 := blk_frozen BK139.out 2; have hfz37_3 := blk_frozen BK139.out 3; have hfz37_4 := blk_frozen BK139.out 4; have p140 : 0 ≤ ((ji28) : Int) := of_decide_eq_true (by first | (with_reducible assumption) | assumption); have q140 : (ji28) < (l0.length : Int) := of_decide_eq_true (by first | (with_reducible assumption) | assumption); obtain ⟨ad140, e140, hx140_0, hx140_1, hx140_2, hx140_3, hx140_4⟩ := at_T32 HR0.out (ji28) p140 q140; obtain rfl : ad135 = ad140 := (by injection e140); have hn140_0 : ad135.block ≠ gb139 := Nat.ne_of_lt (Nat.lt_of_lt_of_le (by have := World.block_lt_of_cell? _ _ hx140_0; first | rwa [add_block] at this | exact this) GW139.out); have hn140_1 : ad135.block ≠ gb139 := Nat.ne_of_lt (Nat.lt_of_lt_of_le (by have := World.block_lt_of_cell? _ _ hx140_0; first | rwa [add_block] at this | exact this) GW139.out); have hn140_2 : ad135.block ≠ gb139 := Nat.ne_of_lt (Nat.lt_of_lt_of_le (by have := World.block_lt_of_cell? _ _ hx140_0; first | rwa [add_block] at this | exact this) GW139.out); have hn140_3 : ad135.block ≠ gb139 := Nat.ne_of_lt (Nat.lt_of_lt_of_le (by have := World.block_lt_of_cell? _ _ hx140_0; first | rwa [add_block] at this | exact this) GW139.out); have hn140_4 : ad135.block ≠ gb139 := Nat.ne_of_lt (Nat.lt_of_lt_of_le (by have := World.block_lt_of_cell? _ _ hx140_0; first | rwa [add_block] at this | exact this) GW139.out); replace hx140_0 := (HB.out.cell (World.block_lt_of_cell? w _ hx140_0)).trans hx140_0; replace hx140_1 := (HB.out.cell (World.block_lt_of_cell? w _ hx140_1)).trans hx140_1; replace hx140_2 := (HB.out.cell (World.block_lt_of_cell? w _ hx140_2)).trans hx140_2; replace hx140_3 := (HB.out.cell (World.block_lt_of_cell? w _ hx140_3)).trans hx140_3; replace hx140_4 := (HB.out.cell (World.block_lt_of_cell? w _ hx140_4)).trans hx140_4; replace hx140_0 := (cell_far (p := ⟨gb139, 0, none⟩) (by first | (rw [add_block]; exact hn140_0) | (show (Addr.add _ _).block ≠ _; rw [add_block]; exact hn140_0) | exact hn140_0) (.int .i64 ((rd_T32 l0 x5_15).f0))).trans hx140_0; replace hx140_1 := (cell_far (p := ⟨gb139, 0, none⟩) (by first | (rw [add_block]; exact hn140_0) | (show (Addr.add _ _).block ≠ _; rw [add_block]; exact hn140_0) | exact hn140_0) (.int .i64 ((rd_T32 l0 x5_15).f0))).trans hx140_1; replace hx140_2 := (cell_far (p := ⟨gb139, 0, none⟩) (by first | (rw [add_block]; exact hn140_0) | (show (Addr.add _ _).block ≠ _; rw [add_block]; exact hn140_0) | exact hn140_0) (.int .i64 ((rd_T32 l0 x5_15).f0))).trans hx140_2; replace hx140_3 := (cell_far (p := ⟨gb139, 0, none⟩) (by first | (rw [add_block]; exact hn140_0) | (show (Addr.add _ _).block ≠ _; rw [add_block]; exact hn140_0) | exact hn140_0) (.int .i64 ((rd_T32 l0 x5_15).f0))).trans hx140_3; replace hx140_4 := (cell_far (p := ⟨gb139, 0, none⟩) (by first | (rw [add_block]; exact hn140_0) | (show (Addr.add _ _).block ≠ _; rw [add_block]; exact hn140_0) | exact hn140_0) (.int .i64 ((rd_T32 l0 x5_15).f0))).trans hx140_4; replace hx140_0 := (cell_far (p := ⟨gb139, 1, none⟩) (by first | (rw [add_block]; exact hn140_1) | (show (Addr.add _ _).block ≠ _; rw [add_block]; exact hn140_1) | exact hn140_1) (.int .i64 ((rd_T32 l0 x5_15).f1.f0))).trans hx140_0; replace hx140_1 := (cell_far (p := ⟨gb139, 1, none⟩) (by first | (rw [add_block]; exact hn140_1) | (show (Addr.add _ _).block ≠ _; rw [add_block]; exact hn140_1) | exact hn140_1) (.int .i64 ((rd_T32 l0 x5_15).f1.f0))).trans hx140_1; replace hx140_2 := (cell_far (p := ⟨gb139, 1, none⟩) (by first | (rw [add_block]; exact hn140_1) | (show (Addr.add _ _).block ≠ _; rw [add_block]; exact hn140_1) | exact hn140_1) (.int .i64 ((rd_T32 l0 x5_15).f1.f0))).trans hx140_2; replace hx140_3 := (cell_far (p := ⟨gb139, 1, none⟩) (by first | (rw [add_block]; exact hn140_1) | (show (Addr.add _ _).block ≠ _; rw [add_block]; exact hn140_1) | exact hn140_1) (.int .i64 ((rd_T32 l0 x5_15).f1.f0))).trans hx140_3; replace hx140_4 := (cell_far (p := ⟨gb139, 1, none⟩) (by first | (rw [add_block]; exact hn140_1) | (show (Addr.add _ _).block ≠ _; rw [add_block]; exact hn140_1) | exact hn140_1) (.int .i64 ((rd_T32 l0 x5_15).f1.f0))).trans hx140_4; replace hx140_0 := (cell_far (p := ⟨gb139, 2, none⟩) (by first | (rw [add_block]; exact hn140_2) | (show (Addr.add _ _).block ≠ _; rw [add_block]; exact hn140_2) | exact hn140_2) (.int .i64 ((rd_T32 l0 x5_15).f1.f1))).trans hx140_0; replace hx140_1 := (cell_far (p := ⟨gb139, 2, none⟩) (by first | (rw [add_block]; exact hn140_2) | (show (Addr.add _ _).block ≠ _; rw [add_block]; exact hn140_2) | exact hn140_2) (.int .i64 ((rd_T32 l0 x5_15).f1.f1))).trans hx140_1; replace hx140_2 := (cell_far (p := ⟨gb139, 2, none⟩) (by first | (rw [add_block]; exact hn140_2) | (show (Addr.add _ _).block ≠ _; rw [add_block]; exact hn140_2) | exact hn140_2) (.int .i64 ((rd_T32 l0 x5_15).f1.f1))).trans hx140_2; replace hx140_3 := (cell_far (p := ⟨gb139, 2, none⟩) (by first | (rw [add_block]; exact hn140_2) | (show (Addr.add _ _).block ≠ _; rw [add_block]; exact hn140_2) | exact hn140_2) (.int .i64 ((rd_T32 l0 x5_15).f1.f1))).trans hx140_3; replace hx140_4 := (cell_far (p := ⟨gb139, 2, none⟩) (by first | (rw [add_block]; exact hn140_2) | (show (Addr.add _ _).block ≠ _; rw [add_block]; exact hn140_2) | exact hn140_2) (.int .i64 ((rd_T32 l0 x5_15).f1.f1))).trans hx140_4; replace hx140_0 := (cell_far (p := ⟨gb139, 3, none⟩) (by first | (rw [add_block]; exact hn140_3) | (show (Addr.add _ _).block ≠ _; rw [add_block]; exact hn140_3) | exact hn140_3) (.int .i64 ((rd_T32 l0 x5_15).f1.f2))).trans hx140_0; replace hx140_1 := (cell_far (p := ⟨gb139, 3, none⟩) (by first | (rw [add_block]; exact hn140_3) | (show (Addr.add _ _).block ≠ _; rw [add_block]; exact hn140_3) | exact hn140_3) (.int .i64 ((rd_T32 l0 x5_15).f1.f2))).trans hx140_1; replace hx140_2 := (cell_far (p := ⟨gb139, 3, none⟩) (by first | (rw [add_block]; exact hn140_3) | (show (Addr.add _ _).block ≠ _; rw [add_block]; exact hn140_3) | exact hn140_3) (.int .i64 ((rd_T32 l0 x5_15).f1.f2))).trans hx140_2; replace hx140_3 := (cell_far (p := ⟨gb139, 3, none⟩) (by first | (rw [add_block]; exact hn140_3) | (show (Addr.add _ _).block ≠ _; rw [add_block]; exact hn140_3) | exact hn140_3) (.int .i64 ((rd_T32 l0 x5_15).f1.f2))).trans hx140_3; replace hx140_4 := (cell_far (p := ⟨gb139, 3, none⟩) (by first | (rw [add_block]; exact hn140_3) | (show (Addr.add _ _).block ≠ _; rw [add_block]; exact hn140_3) | exact hn140_3) (.int .i64 ((rd_T32 l0 x5_15).f1.f2))).trans hx140_4; replace hx140_0 := (cell_far (p := ⟨gb139, 4, none⟩) (by first | (rw [add_block]; exact hn140_4) | (show (Addr.add _ _).block ≠ _; rw [add_block]; exact hn140_4) | exact hn140_4) (.int .i64 ((rd_T32 l0 x5_15).f1.f3))).trans hx140_0; replace hx140_1 := (cell_far (p := ⟨gb139, 4, none⟩) (by first | (rw [add_block]; exact hn140_4) | (show (Addr.add _ _).block ≠ _; rw [add_block]; exact hn140_4) | exact hn140_4) (.int .i64 ((rd_T32 l0 x5_15).f1.f3))).trans hx140_1; replace hx140_2 := (cell_far (p := ⟨gb139, 4, none⟩) (by first | (rw [add_block]; exact hn140_4) | (show (Addr.add _ _).block ≠ _; rw [add_block]; exact hn140_4) | exact hn140_4) (.int .i64 ((rd_T32 l0 x5_15).f1.f3))).trans hx140_2; replace hx140_3 := (cell_far (p := ⟨gb139, 4, none⟩) (by first | (rw [add_block]; exact hn140_4) | (show (Addr.add _ _).block ≠ _; rw [add_block]; exact hn140_4) | exact hn140_4) (.int .i64 ((rd_T32 l0 x5_15).f1.f3))).trans hx140_3; replace hx140_4 := (cell_far (p := ⟨gb139, 4, none⟩) (by first | (rw [add_block]; exact hn140_4) | (show (Addr.add _ _).block ≠ _; rw [add_block]; exact hn140_4) | exact hn140_4) (.int .i64 ((rd_T32 l0 x5_15).f1.f3))).trans hx140_4; clear hn140_0; clear hn140_1; clear hn140_2; clear hn140_3; clear hn140_4; replace p140 := eq_true p140; replace q140 := eq_true q140) | ((with_reducible refine gate_dst (N := 7) rfl ?_); refine box_event ?hg (N := 7) ?hd (cs := #[.int .i64 0, .int .i64 0, .int .i64 0, .int .i64 0, .int .i64 0]) (t := 32) ?hr ?_; (case hd => rfl); (case hg => rfl); (case hr => first | (go_simp; done) | (go_simp; rfl)); intro gb141 hg w38 hbox hb; have n0_ := Aside0.mk (blk_below (g := gb133) (o := .cells #[.int .i64 0, .int .i64 0, .int .i64 0, .int .i64 0] 27 (0, 0)) (by (with_reducible repeat (first | refine blk_drewN ?_ _ | refine blk_drew ?_ | refine blk_alloc ?_ _)); refine blk_far ?_ NB133_139.out _; (with_reducible repeat (first | refine blk_drewN ?_ _ | refine blk_drew ?_ | refine blk_alloc ?_ _)); refine blk_far ?_ NB133_139.out _; (with_reducible repeat (first | refine blk_drewN ?_ _ | refine blk_drew ?_ | refine blk_alloc ?_ _)); refine blk_far ?_ NB133_139.out _; (with_reducible repeat (first | refine blk_drewN ?_ _ | refine blk_drew ?_ | refine blk_alloc ?_ _)); refine blk_far ?_ NB133_139.out _; (with_reducible repeat (first | refine blk_drewN ?_ _ | refine blk_drew ?_ | refine blk_alloc ?_ _)); refine blk_far ?_ NB133_139.out _; (with_reducible repeat (first | refine blk_drewN ?_ _ | refine blk_drew ?_ | refine blk_alloc ?_ _)); exact BK133.out) hb); have n1_ := Aside0.mk (blk_below (g := gb139) (o := .cells #[.int .i64 ((rd_T32 l0 x5_15).f0), .int .i64 ((rd_T32 l0 x5_15).f1.f0), .int .i64 ((rd_T32 l0 x5_15).f1.f1), .int .i64 ((rd_T32 l0 x5_15).f1.f2), .int .i64 ((rd_T32 l0 x5_15).f1.f3)] 32 (0, 0)) (by (with_reducible repeat (first | refine blk_drewN ?_ _ | refine blk_drew ?_ | refine blk_alloc ?_ _)); refine blk_put (cs := #[.int .i64 ((rd_T32 l0 x5_15).f0), .int .i64 ((rd_T32 l0 x5_15).f1.f0), .int .i64 ((rd_T32 l0 x5_15).f1.f1), .int .i64 ((rd_T32 l0 x5_15).f1.f2), .int .i64 0]) ?_ 4 _ rfl; (with_reducible repeat (first | refine blk_drewN ?_ _ | refine blk_drew ?_ | refine blk_alloc ?_ _)); refine blk_put (cs := #[.int .i64 ((rd_T32 l0 x5_15).f0), .int .i64 ((rd_T32 l0 x5_15).f1.f0), .int .i64 ((rd_T32 l0 x5_15).f1.f1), .int .i64 0, .int .i64 0]) ?_ 3 _ rfl; (with_reducible repeat (first | refine blk_drewN ?_ _ | refine blk_drew ?_ | refine blk_alloc ?_ _)); refine blk_put (cs := #[.int .i64 ((rd_T32 l0 x5_15).f0), .int .i64 ((rd_T32 l0 x5_15).f1.f0), .int .i64 0, .int .i64 0, .int .i64 0]) ?_ 2 _ rfl; (with_reducible repeat (first | refine blk_drewN ?_ _ | refine blk_drew ?_ | refine blk_alloc ?_ _)); refine blk_put (cs := #[.int .i64 ((rd_T32 l0 x5_15).f0), .int .i64 0, .int .i64 0, .int .i64 0, .int .i64 0]) ?_ 1 _ rfl; (with_reducible repeat (first | refine blk_drewN ?_ _ | refine blk_drew ?_ | refine blk_alloc ?_ _)); refine blk_put (cs := #[.int .i64 0, .int .i64 0, .int .i64 0, .int .i64 0, .int .i64 0]) ?_ 0 _ rfl; (with_reducible repeat (first | refine blk_drewN ?_ _ | refine blk_drew ?_ | refine blk_alloc ?_ _)); exact BK139.out) hb); have n2_ := Aside0.mk (below_step (by repeat (first | (with_reducible first | exact HB.out | apply below_alloc | apply pw_below_drewN | apply below_drew1 | refine below_set ?_ GE133.out | refine below_set ?_ GE139.out) | exact HB.out)) hb); have n3_ := Aside0.mk (hbox); have n4_ := Aside0.mk ((by rw [hg]; exact (below_size (by repeat (first | (with_reducible first | exact HB.out | apply below_alloc | apply pw_below_drewN | apply below_drew1 | refine below_set ?_ GE133.out | refine below_set ?_ GE139.out) | exact HB.out))) : w.heap.size ≤ gb141)); have n5_ := Aside0.mk ((by rw [hg]; exact (below_size (by repeat (first | (with_reducible first | exact HB.out | apply below_alloc | apply pw_below_drewN | apply below_drew1 | refine below_set ?_ GE133.out | refine below_set ?_ GE139.out) | exact HB.out))) : w.heap.size ≤ gb141)); have n6_ := Aside0.mk ((by rw [hg]; exact Nat.ne_of_lt (blk_lt (g := gb133) (o := .cells #[.int .i64 0, .int .i64 0, .int .i64 0, .int .i64 0] 27 (0, 0)) (by (with_reducible repeat (first | refine blk_drewN ?_ _ | refine blk_drew ?_ | refine blk_alloc ?_ _)); refine blk_far ?_ NB133_139.out _; (with_reducible repeat (first | refine blk_drewN ?_ _ | refine blk_drew ?_ | refine blk_alloc ?_ _)); refine blk_far ?_ NB133_139.out _; (with_reducible repeat (first | refine blk_drewN ?_ _ | refine blk_drew ?_ | refine blk_alloc ?_ _)); refine blk_far ?_ NB133_139.out _; (with_reducible repeat (first | refine blk_drewN ?_ _ | refine blk_drew ?_ | refine blk_alloc ?_ _)); refine blk_far ?_ NB133_139.out _; (with_reducible repeat (first | refine blk_drewN ?_ _ | refine blk_drew ?_ | refine blk_alloc ?_ _)); refine blk_far ?_ NB133_139.out _; (with_reducible repeat (first | refine blk_drewN ?_ _ | refine blk_drew ?_ | refine blk_alloc ?_ _)); exact BK133.out)) : gb133 ≠ gb141)); have n7_ := Aside0.mk ((by rw [hg]; exact Nat.ne_of_gt (blk_lt (g := gb133) (o := .cells #[.int .i64 0, .int .i64 0, .int .i64 0, .int .i64 0] 27 (0, 0)) (by (with_reducible repeat (first | refine blk_drewN ?_ _ | refine blk_drew ?_ | refine blk_alloc ?_ _)); refine blk_far ?_ NB133_139.out _; (with_reducible repeat (first | refine blk_drewN ?_ _ | refine blk_drew ?_ | refine blk_alloc ?_ _)); refine blk_far ?_ NB133_139.out _; (with_reducible repeat (first | refine blk_drewN ?_ _ | refine blk_drew ?_ | refine blk_alloc ?_ _)); refine blk_far ?_ NB133_139.out _; (with_reducible repeat (first | refine blk_drewN ?_ _ | refine blk_drew ?_ | refine blk_alloc ?_ _)); refine blk_far ?_ NB133_139.out _; (with_reducible repeat (first | refine blk_drewN ?_ _ | refine blk_drew ?_ | refine blk_alloc ?_ _)); refine blk_far ?_ NB133_139.out _; (with_reducible repeat (first | refine blk_drewN ?_ _ | refine blk_drew ?_ | refine blk_alloc ?_ _)); exact BK133.out)) : gb141 ≠ gb133)); have n8_ := Aside0.mk ((by rw [hg]; exact Nat.ne_of_lt (blk_lt (g := gb139) (o := .cells #[.int .i64 ((rd_T32 l0 x5_15).f0), .int .i64 ((rd_T32 l0 x5_15).f1.f0), .int .i64 ((rd_T32 l0 x5_15).f1.f1), .int .i64 ((rd_T32 l0 x5_15).f1.f2), .int .i64 ((rd_T32 l0 x5_15).f1.f3)] 32 (0, 0)) (by (with_reducible repeat (first | refine blk_drewN ?_ _ | refine blk_drew ?_ | refine blk_alloc ?_ _)); refine blk_put (cs := #[.int .i64 ((rd_T32 l0 x5_15).f0), .int .i64 ((rd_T32 l0 x5_15).f1.f0), .int .i64 ((rd_T32 l0 x5_15).f1.f1), .int .i64 ((rd_T32 l0 x5_15).f1.f2), .int .i64 0]) ?_ 4 _ rfl; (with_reducible repeat (first | refine blk_drewN ?_ _ | refine blk_drew ?_ | refine blk_alloc ?_ _)); refine blk_put (cs := #[.int .i64 ((rd_T32 l0 x5_15).f0), .int .i64 ((rd_T32 l0 x5_15).f1.f0), .int .i64 ((rd_T32 l0 x5_15).f1.f1), .int .i64 0, .int .i64 0]) ?_ 3 _ rfl; (with_reducible repeat (first | refine blk_drewN ?_ _ | refine blk_drew ?_ | refine blk_alloc ?_ _)); refine blk_put (cs := #[.int .i64 ((rd_T32 l0 x5_15).f0), .int .i64 ((rd_T32 l0 x5_15).f1.f0), .int .i64 0, .int .i64 0, .int .i64 0]) ?_ 2 _ rfl; (with_reducible repeat (first | refine blk_drewN ?_ _ | refine blk_drew ?_ | refine blk_alloc ?_ _)); refine blk_put (cs := #[.int .i64 ((rd_T32 l0 x5_15).f0), .int .i64 0, .int .i64 0, .int .i64 0, .int .i64 0]) ?_ 1 _ rfl; (with_reducible repeat (first | refine blk_drewN ?_ _ | refine blk_drew ?_ | refine blk_alloc ?_ _)); refine blk_put (cs := #[.int .i64 0, .int .i64 0, .int .i64 0, .int .i64 0, .int .i64 0]) ?_ 0 _ rfl; (with_reducible repeat (first | refine blk_drewN ?_ _ | refine blk_drew ?_ | refine blk_alloc ?_ _)); exact BK139.out)) : gb139 ≠ gb141)); have n9_ := Aside0.mk ((by rw [hg]; exact Nat.ne_of_gt (blk_lt (g := gb139) (o := .cells #[.int .i64 ((rd_T32 l0 x5_15).f0), .int .i64 ((rd_T32 l0 x5_15).f1.f0), .int .i64 ((rd_T32 l0 x5_15).f1.f1), .int .i64 ((rd_T32 l0 x5_15).f1.f2), .int .i64 ((rd_T32 l0 x5_15).f1.f3)] 32 (0, 0)) (by (with_reducible repeat (first | refine blk_drewN ?_ _ | refine blk_drew ?_ | refine blk_alloc ?_ _)); refine blk_put (cs := #[.int .i64 ((rd_T32 l0 x5_15).f0), .int .i64 ((rd_T32 l0 x5_15).f1.f0), .int .i64 ((rd_T32 l0 x5_15).f1.f1), .int .i64 ((rd_T32 l0 x5_15).f1.f2), .int .i64 0]) ?_ 4 _ rfl; (with_reducible repeat (first | refine blk_drewN ?_ _ | refine blk_drew ?_ | refine blk_alloc ?_ _)); refine blk_put (cs := #[.int .i64 ((rd_T32 l0 x5_15).f0), .int .i64 ((rd_T32 l0 x5_15).f1.f0), .int .i64 ((rd_T32 l0 x5_15).f1.f1), .int .i64 0, .int .i64 0]) ?_ 3 _ rfl; (with_reducible repeat (first | refine blk_drewN ?_ _ | refine blk_drew ?_ | refine blk_alloc ?_ _)); refine blk_put (cs := #[.int .i64 ((rd_T32 l0 x5_15).f0), .int .i64 ((rd_T32 l0 x5_15).f1.f0), .int .i64 0, .int .i64 0, .int .i64 0]) ?_ 2 _ rfl; (with_reducible repeat (first | refine blk_drewN ?_ _ | refine blk_drew ?_ | refine blk_alloc ?_ _)); refine blk_put (cs := #[.int .i64 ((rd_T32 l0 x5_15).f0), .int .i64 0, .int .i64 0, .int .i64 0, .int .i64 0]) ?_ 1 _ rfl; (with_reducible repeat (first | refine blk_drewN ?_ _ | refine blk_drew ?_ | refine blk_alloc ?_ _)); refine blk_put (cs := #[.int .i64 0, .int .i64 0, .int .i64 0, .int .i64 0, .int .i64 0]) ?_ 0 _ rfl; (with_reducible repeat (first | refine blk_drewN ?_ _ | refine blk_drew ?_ | refine blk_alloc ?_ _)); exact BK139.out)) : gb141 ≠ gb139)); clear BK133; clear BK139; clear HB; have BK133 := n0_; have BK139 := n1_; have HB := n2_; have BK141 := n3_; have GW141 := n4_; have GE141 := n5_; have NB133_141 := n6_; have NB141_133 := n7_; have NB139_141 := n8_; have NB141_139 := n9_; clear n0_ n1_ n2_ n3_ n4_ n5_ n6_ n7_ n8_ n9_; clear hb hbox hg; have hnb39 := NB141_133.out; have hnc39 := NB133_141.out; have hnb40 := NB141_139.out; have hnc40 := NB139_141.out; have hcz41_0 : w38.cell? ⟨gb141, 0, none⟩ = some (.int .i64 0) := (blk_cell BK141.out 0).trans rfl; have hcz41_1 : w38.cell? ⟨gb141, 1, none⟩ = some (.int .i64 0) := (blk_cell BK141.out 1).trans rfl; have hcz41_2 : w38.cell? ⟨gb141, 2, none⟩ = some (.int .i64 0) := (blk_cell BK141.out 2).trans rfl; have hcz41_3 : w38.cell? ⟨gb141, 3, none⟩ = some (.int .i64 0) := (blk_cell BK141.out 3).trans rfl; have hcz41_4 : w38.cell? ⟨gb141, 4, none⟩ = some (.int .i64 0) := (blk_cell BK141.out 4).trans rfl; have hfz41_0 := blk_frozen BK141.out 0; have hfz41_1 := blk_frozen BK141.out 1; have hfz41_2 := blk_frozen BK141.out 2; have hfz41_3 := blk_frozen BK141.out 3; have hfz41_4 := blk_frozen BK141.out 4))
                          have n0_ : Aside0 ((((((w38.setCell ⟨gb141, 0, none⟩ (.int .i64 ((rd_T32 l0 (ji28)).f0))).setCell ⟨gb141, 1, none⟩ (.int .i64 ((rd_T32 l0 (ji28)).f1.f0))).setCell ⟨gb141, 2, none⟩ (.int .i64 ((rd_T32 l0 (ji28)).f1.f1))).setCell ⟨gb141, 3, none⟩ (.int .i64 ((rd_T32 l0 (ji28)).f1.f2))).setCell ⟨gb141, 4, none⟩ (.int .i64 ((rd_T32 l0 (ji28)).f1.f3))).heap[gb133]? = some (.cells #[.int .i64 0, .int .i64 0, .int .i64 0, .int .i64 0] 27 (0, 0))) := ⟨by (with_reducible repeat (first | refine blk_drewN ?_ _ | refine blk_drew ?_ | refine blk_alloc ?_ _)); refine blk_far ?_ NB133_141.out _; (with_reducible repeat (first | refine blk_drewN ?_ _ | refine blk_drew ?_ | refine blk_alloc ?_ _)); refine blk_far ?_ NB133_141.out _; (with_reducible repeat (first | refine blk_drewN ?_ _ | refine blk_drew ?_ | refine blk_alloc ?_ _)); refine blk_far ?_ NB133_141.out _; (with_reducible repeat (first | refine blk_drewN ?_ _ | refine blk_drew ?_ | refine blk_alloc ?_ _)); refine blk_far ?_ NB133_141.out _; (with_reducible repeat (first | refine blk_drewN ?_ _ | refine blk_drew ?_ | refine blk_alloc ?_ _)); refine blk_far ?_ NB133_141.out _; (with_reducible repeat (first | refine blk_drewN ?_ _ | refine blk_drew ?_ | refine blk_alloc ?_ _)); exact BK133.out⟩
                          have n1_ : Aside0 ((((((w38.setCell ⟨gb141, 0, none⟩ (.int .i64 ((rd_T32 l0 (ji28)).f0))).setCell ⟨gb141, 1, none⟩ (.int .i64 ((rd_T32 l0 (ji28)).f1.f0))).setCell ⟨gb141, 2, none⟩ (.int .i64 ((rd_T32 l0 (ji28)).f1.f1))).setCell ⟨gb141, 3, none⟩ (.int .i64 ((rd_T32 l0 (ji28)).f1.f2))).setCell ⟨gb141, 4, none⟩ (.int .i64 ((rd_T32 l0 (ji28)).f1.f3))).heap[gb139]? = some (.cells #[.int .i64 ((rd_T32 l0 x5_15).f0), .int .i64 ((rd_T32 l0 x5_15).f1.f0), .int .i64 ((rd_T32 l0 x5_15).f1.f1), .int .i64 ((rd_T32 l0 x5_15).f1.f2), .int .i64 ((rd_T32 l0 x5_15).f1.f3)] 32 (0, 0))) := ⟨by (with_reducible repeat (first | refine blk_drewN ?_ _ | refine blk_drew ?_ | refine blk_alloc ?_ _)); refine blk_far ?_ NB139_141.out _; (with_reducible repeat (first | refine blk_drewN ?_ _ | refine blk_drew ?_ | refine blk_alloc ?_ _)); refine blk_far ?_ NB139_141.out _; (with_reducible repeat (first | refine blk_drewN ?_ _ | refine blk_drew ?_ | refine blk_alloc ?_ _)); refine blk_far ?_ NB139_141.out _; (with_reducible repeat (first | refine blk_drewN ?_ _ | refine blk_drew ?_ | refine blk_alloc ?_ _)); refine blk_far ?_ NB139_141.out _; (with_reducible repeat (first | refine blk_drewN ?_ _ | refine blk_drew ?_ | refine blk_alloc ?_ _)); refine blk_far ?_ NB139_141.out _; (with_reducible repeat (first | refine blk_drewN ?_ _ | refine blk_drew ?_ | refine blk_alloc ?_ _)); exact BK139.out⟩
                          have n2_ : Aside0 ((((((w38.setCell ⟨gb141, 0, none⟩ (.int .i64 ((rd_T32 l0 (ji28)).f0))).setCell ⟨gb141, 1, none⟩ (.int .i64 ((rd_T32 l0 (ji28)).f1.f0))).setCell ⟨gb141, 2, none⟩ (.int .i64 ((rd_T32 l0 (ji28)).f1.f1))).setCell ⟨gb141, 3, none⟩ (.int .i64 ((rd_T32 l0 (ji28)).f1.f2))).setCell ⟨gb141, 4, none⟩ (.int .i64 ((rd_T32 l0 (ji28)).f1.f3))).heap[gb141]? = some (.cells #[.int .i64 ((rd_T32 l0 (ji28)).f0), .int .i64 ((rd_T32 l0 (ji28)).f1.f0), .int .i64 ((rd_T32 l0 (ji28)).f1.f1), .int .i64 ((rd_T32 l0 (ji28)).f1.f2), .int .i64 ((rd_T32 l0 (ji28)).f1.f3)] 32 (0, 0))) := ⟨by (with_reducible repeat (first | refine blk_drewN ?_ _ | refine blk_drew ?_ | refine blk_alloc ?_ _)); refine blk_put (cs := #[.int .i64 ((rd_T32 l0 (ji28)).f0), .int .i64 ((rd_T32 l0 (ji28)).f1.f0), .int .i64 ((rd_T32 l0 (ji28)).f1.f1), .int .i64 ((rd_T32 l0 (ji28)).f1.f2), .int .i64 0]) ?_ 4 _ rfl; (with_reducible repeat (first | refine blk_drewN ?_ _ | refine blk_drew ?_ | refine blk_alloc ?_ _)); refine blk_put (cs := #[.int .i64 ((rd_T32 l0 (ji28)).f0), .int .i64 ((rd_T32 l0 (ji28)).f1.f0), .int .i64 ((rd_T32 l0 (ji28)).f1.f1), .int .i64 0, .int .i64 0]) ?_ 3 _ rfl; (with_reducible repeat (first | refine blk_drewN ?_ _ | refine blk_drew ?_ | refine blk_alloc ?_ _)); refine blk_put (cs := #[.int .i64 ((rd_T32 l0 (ji28)).f0), .int .i64 ((rd_T32 l0 (ji28)).f1.f0), .int .i64 0, .int .i64 0, .int .i64 0]) ?_ 2 _ rfl; (with_reducible repeat (first | refine blk_drewN ?_ _ | refine blk_drew ?_ | refine blk_alloc ?_ _)); refine blk_put (cs := #[.int .i64 ((rd_T32 l0 (ji28)).f0), .int .i64 0, .int .i64 0, .int .i64 0, .int .i64 0]) ?_ 1 _ rfl; (with_reducible repeat (first | refine blk_drewN ?_ _ | refine blk_drew ?_ | refine blk_alloc ?_ _)); refine blk_put (cs := #[.int .i64 0, .int .i64 0, .int .i64 0, .int .i64 0, .int .i64 0]) ?_ 0 _ rfl; (with_reducible repeat (first | refine blk_drewN ?_ _ | refine blk_drew ?_ | refine blk_alloc ?_ _)); exact BK141.out⟩
                          have n3_ : Aside0 (Below w.heap.size w (((((w38.setCell ⟨gb141, 0, none⟩ (.int .i64 ((rd_T32 l0 (ji28)).f0))).setCell ⟨gb141, 1, none⟩ (.int .i64 ((rd_T32 l0 (ji28)).f1.f0))).setCell ⟨gb141, 2, none⟩ (.int .i64 ((rd_T32 l0 (ji28)).f1.f1))).setCell ⟨gb141, 3, none⟩ (.int .i64 ((rd_T32 l0 (ji28)).f1.f2))).setCell ⟨gb141, 4, none⟩ (.int .i64 ((rd_T32 l0 (ji28)).f1.f3)))) := ⟨by repeat (first | (with_reducible first | exact HB.out | apply below_alloc | apply pw_below_drewN | apply below_drew1 | refine below_set ?_ GE133.out | refine below_set ?_ GE139.out | refine below_set ?_ GE141.out) | exact HB.out)⟩
                          (try clear BK133)
                          (try clear BK139)
                          (try clear BK141)
                          (try clear HB)
                          generalize (((((w38.setCell ⟨gb141, 0, none⟩ (.int .i64 ((rd_T32 l0 (ji28)).f0))).setCell ⟨gb141, 1, none⟩ (.int .i64 ((rd_T32 l0 (ji28)).f1.f0))).setCell ⟨gb141, 2, none⟩ (.int .i64 ((rd_T32 l0 (ji28)).f1.f1))).setCell ⟨gb141, 3, none⟩ (.int .i64 ((rd_T32 l0 (ji28)).f1.f2))).setCell ⟨gb141, 4, none⟩ (.int .i64 ((rd_T32 l0 (ji28)).f1.f3))) = w42 at n0_ n1_ n2_ n3_ ⊢
                          have BK133 := n0_
                          have BK139 := n1_
                          have BK141 := n2_
                          have HB := n3_
                          clear n0_ n1_ n2_ n3_
                          have n0_ := Aside0.mk (blk_drew BK133.out)
                          have n1_ := Aside0.mk (blk_drew BK139.out)
                          have n2_ := Aside0.mk (blk_drew BK141.out)
                          have n3_ := Aside0.mk (below_drew1 HB.out)
                          clear BK133
                          clear BK139
                          clear BK141
                          clear HB
                          have BK133 := n0_
                          have BK139 := n1_
                          have BK141 := n2_
                          have HB := n3_
                          clear n0_ n1_ n2_ n3_
                          refine start_ (n := 11) (S := fun w' => w'.cell? ⟨gb139, 0, none⟩ = some (.int .i64 ((rd_T32 l0 x5_15).f0)) ∧ w'.cell? ⟨gb139, 1, none⟩ = some (.int .i64 ((rd_T32 l0 x5_15).f1.f0)) ∧ w'.cell? ⟨gb139, 2, none⟩ = some (.int .i64 ((rd_T32 l0 x5_15).f1.f1)) ∧ w'.cell? ⟨gb139, 3, none⟩ = some (.int .i64 ((rd_T32 l0 x5_15).f1.f2)) ∧ w'.cell? ⟨gb139, 4, none⟩ = some (.int .i64 ((rd_T32 l0 x5_15).f1.f3)) ∧ w'.cell? ⟨gb141, 0, none⟩ = some (.int .i64 ((rd_T32 l0 (ji28)).f0)) ∧ w'.cell? ⟨gb141, 1, none⟩ = some (.int .i64 ((rd_T32 l0 (ji28)).f1.f0)) ∧ w'.cell? ⟨gb141, 2, none⟩ = some (.int .i64 ((rd_T32 l0 (ji28)).f1.f1)) ∧ w'.cell? ⟨gb141, 3, none⟩ = some (.int .i64 ((rd_T32 l0 (ji28)).f1.f2)) ∧ w'.cell? ⟨gb141, 4, none⟩ = some (.int .i64 ((rd_T32 l0 (ji28)).f1.f3))) (ds := []) #[false, false, false, false, false, false, false, false, false, false, false] (by kernel_rfl) rfl rfl ⟨(blk_cell BK139.out 0).trans rfl, (blk_cell BK139.out 1).trans rfl, (blk_cell BK139.out 2).trans rfl, (blk_cell BK139.out 3).trans rfl, (blk_cell BK139.out 4).trans rfl, (blk_cell BK141.out 0).trans rfl, (blk_cell BK141.out 1).trans rfl, (blk_cell BK141.out 2).trans rfl, (blk_cell BK141.out 3).trans rfl, (blk_cell BK141.out 4).trans rfl⟩ (fun hHeld => ?_); refine with_tabW ramp_Color.tab12 ramp_Color.bits12 (fun HT_ HW_ => ?_)
                          generalize w42.drew = w43 at BK133 BK139 BK141 HB hHeld ⊢
                          refine pure_ (i := 0) (N := some 65) (v := ?_) (a' := ?_) #[true, false, false, false, false, false, false, false, false, false, false] rfl rfl (any_of HT_.out (by kernel_rfl)) (fun _ _ _ h => h) (Or.inl ⟨by rfl, ?_⟩) ?_ ?_
                          rotate_left
                          · intro w'
                            go_simp
                            with_reducible rfl
                          rotate_left
                          · simp only [Act.put, List.setIfInBounds_toArray, List.set_cons_zero, List.set_cons_succ, i64_w, i32_w]
                            rfl
                          refine pure_ (i := 1) (N := some 66) (v := ?_) (a' := ?_) #[true, true, false, false, false, false, false, false, false, false, false] rfl rfl (any_of HT_.out (by kernel_rfl)) (fun _ _ _ h => h) (Or.inl ⟨by rfl, ?_⟩) ?_ ?_
                          rotate_left
                          · intro w'
                            go_simp
                            with_reducible rfl
                          rotate_left
                          · simp only [Act.put, List.setIfInBounds_toArray, List.set_cons_zero, List.set_cons_succ, i64_w, i32_w]
                            rfl
                          refine pure_ (i := 4) (N := some 69) (v := ?_) (a' := ?_) #[true, true, false, false, true, false, false, false, false, false, false] rfl rfl (any_of HT_.out (by kernel_rfl)) (fun _ _ _ h => h) (Or.inl ⟨by rfl, ?_⟩) ?_ ?_
                          rotate_left
                          · intro w'
                            go_simp
                            with_reducible rfl
                          rotate_left
                          · simp only [Act.put, List.setIfInBounds_toArray, List.set_cons_zero, List.set_cons_succ, i64_w, i32_w]
                            rfl
                          refine pure_ (i := 6) (N := some 71) (v := ?_) (a' := ?_) #[true, true, false, false, true, false, true, false, false, false, false] rfl rfl (any_of HT_.out (by kernel_rfl)) (fun _ _ _ h => h) (Or.inl ⟨by rfl, ?_⟩) ?_ ?_
                          rotate_left
                          · intro w'
                            go_simp
                            with_reducible rfl
                          rotate_left
                          · simp only [Act.put, List.setIfInBounds_toArray, List.set_cons_zero, List.set_cons_succ, i64_w, i32_w]
                            rfl
                          refine take_ (i := 2) (N := some 67) (v := ?_) (a' := ?_) #[true, true, true, false, true, false, true, false, false, false, false] rfl rfl (take_ofW HT_.out HW_.out (by kernel_rfl)) (fun _ _ _ h => h) (Or.inl ⟨by rfl, ?_⟩) hHeld ?_ ?_
                          rotate_left
                          · rintro w' ⟨s0, s1, s2, s3, s4, s5, s6, s7, s8, s9⟩
                            go_simp
                            with_reducible rfl
                          rotate_left
                          · simp only [Act.put, List.setIfInBounds_toArray, List.set_cons_zero, List.set_cons_succ, i64_w, i32_w]
                            rfl
                          refine pure_ (i := 3) (N := some 68) (v := ?_) (a' := ?_) #[true, true, true, true, true, false, true, false, false, false, false] rfl rfl (any_of HT_.out (by kernel_rfl)) (fun _ _ _ h => h) (Or.inl ⟨by rfl, ?_⟩) ?_ ?_
                          rotate_left
                          · intro w'
                            go_simp
                            with_reducible rfl
                          rotate_left
                          · simp only [Act.put, List.setIfInBounds_toArray, List.set_cons_zero, List.set_cons_succ, i64_w, i32_w]
                            rfl
                          refine pure_ (i := 9) (N := some 8) (v := ?_) (a' := ?_) #[true, true, true, true, true, false, true, false, false, true, false] rfl rfl (any_of HT_.out (by kernel_rfl)) (fun _ _ _ h => h) (Or.inl ⟨by rfl, ?_⟩) ?_ ?_
                          rotate_left
                          · intro w'
                            go_simp
                            with_reducible rfl
                          rotate_left
                          · simp only [Act.put, List.setIfInBounds_toArray, List.set_cons_zero, List.set_cons_succ, i64_w, i32_w]
                            rfl
                          refine take_ (i := 5) (N := some 70) (v := ?_) (a' := ?_) #[true, true, true, true, true, true, true, false, false, true, false] rfl rfl (take_ofW HT_.out HW_.out (by kernel_rfl)) (fun _ _ _ h => h) (Or.inl ⟨by rfl, ?_⟩) hHeld ?_ ?_
                          rotate_left
                          · rintro w' ⟨s0, s1, s2, s3, s4, s5, s6, s7, s8, s9⟩
                            go_simp
                            with_reducible rfl
                          rotate_left
                          · simp only [Act.put, List.setIfInBounds_toArray, List.set_cons_zero, List.set_cons_succ, i64_w, i32_w]
                            rfl
                          refine take_ (i := 7) (N := some 72) (v := ?_) (a' := ?_) #[true, true, true, true, true, true, true, true, false, true, false] rfl rfl (take_ofW HT_.out HW_.out (by kernel_rfl)) (fun _ _ _ h => h) (Or.inl ⟨by rfl, ?_⟩) hHeld ?_ ?_
                          rotate_left
                          · rintro w' ⟨s0, s1, s2, s3, s4, s5, s6, s7, s8, s9⟩
                            go_simp
                            with_reducible rfl
                          rotate_left
                          · simp only [Act.put, List.setIfInBounds_toArray, List.set_cons_zero, List.set_cons_succ, i64_w, i32_w]
                            rfl
                          refine pure_ (i := 8) (N := some 73) (v := ?_) (a' := ?_) #[true, true, true, true, true, true, true, true, true, true, false] rfl rfl (any_of HT_.out (by kernel_rfl)) (fun _ _ _ h => h) (Or.inl ⟨by rfl, ?_⟩) ?_ ?_
                          rotate_left
                          · intro w'
                            go_simp
                            with_reducible rfl
                          rotate_left
                          · simp only [Act.put, List.setIfInBounds_toArray, List.set_cons_zero, List.set_cons_succ, i64_w, i32_w]
                            rfl
                          refine pure_ (i := 10) (N := some 9) (v := ?_) (a' := ?_) #[true, true, true, true, true, true, true, true, true, true, true] rfl rfl (any_of HT_.out (by kernel_rfl)) (fun _ _ _ h => h) (Or.inl ⟨by rfl, ?_⟩) ?_ ?_
                          rotate_left
                          · intro w'
                            go_simp
                            with_reducible rfl
                          rotate_left
                          · simp only [Act.put, List.setIfInBounds_toArray, List.set_cons_zero, List.set_cons_succ, i64_w, i32_w]
                            rfl
                          refine done_ (done_of HT_.out (by kernel_rfl)) ?_
                          try go_wp2
                          have n0_ := Aside0.mk (blk_drew BK133.out)
                          have n1_ := Aside0.mk (blk_drew BK139.out)
                          have n2_ := Aside0.mk (blk_drew BK141.out)
                          have n3_ := Aside0.mk (below_drew1 HB.out)
                          clear BK133
                          clear BK139
                          clear BK141
                          clear HB
                          have BK133 := n0_
                          have BK139 := n1_
                          have BK141 := n2_
                          have HB := n3_
                          clear n0_ n1_ n2_ n3_
                          refine start_ (n := 38) (S := fun w' => w'.cell? ⟨gb139, 0, none⟩ = some (.int .i64 ((rd_T32 l0 x5_15).f0)) ∧ w'.cell? ⟨gb139, 1, none⟩ = some (.int .i64 ((rd_T32 l0 x5_15).f1.f0)) ∧ w'.cell? ⟨gb139, 2, none⟩ = some (.int .i64 ((rd_T32 l0 x5_15).f1.f1)) ∧ w'.cell? ⟨gb139, 3, none⟩ = some (.int .i64 ((rd_T32 l0 x5_15).f1.f2)) ∧ w'.cell? ⟨gb139, 4, none⟩ = some (.int .i64 ((rd_T32 l0 x5_15).f1.f3)) ∧ w'.cell? ⟨gb141, 0, none⟩ = some (.int .i64 ((rd_T32 l0 (ji28)).f0)) ∧ w'.cell? ⟨gb141, 1, none⟩ = some (.int .i64 ((rd_T32 l0 (ji28)).f1.f0)) ∧ w'.cell? ⟨gb141, 2, none⟩ = some (.int .i64 ((rd_T32 l0 (ji28)).f1.f1)) ∧ w'.cell? ⟨gb141, 3, none⟩ = some (.int .i64 ((rd_T32 l0 (ji28)).f1.f2)) ∧ w'.cell? ⟨gb141, 4, none⟩ = some (.int .i64 ((rd_T32 l0 (ji28)).f1.f3))) (ds := []) #[false, false, false, false, false, false, false, false, false, false, false, false, false, false, false, false, false, false, false, false, false, false, false, false, false, false, false, false, false, false, false, false, false, false, false, false, false, false] (by kernel_rfl) rfl rfl ⟨(blk_cell BK139.out 0).trans rfl, (blk_cell BK139.out 1).trans rfl, (blk_cell BK139.out 2).trans rfl, (blk_cell BK139.out 3).trans rfl, (blk_cell BK139.out 4).trans rfl, (blk_cell BK141.out 0).trans rfl, (blk_cell BK141.out 1).trans rfl, (blk_cell BK141.out 2).trans rfl, (blk_cell BK141.out 3).trans rfl, (blk_cell BK141.out 4).trans rfl⟩ (fun hHeld => ?_); refine with_tabW ramp_Color.tab13 ramp_Color.bits13 (fun HT_ HW_ => ?_)
                          generalize w43.drew = w44 at BK133 BK139 BK141 HB hHeld ⊢
                          refine pure_ (i := 0) (N := some 74) (v := ?_) (a' := ?_) #[true, false, false, false, false, false, false, false, false, false, false, false, false, false, false, false, false, false, false, false, false, false, false, false, false, false, false, false, false, false, false, false, false, false, false, false, false, false] rfl rfl (any_of HT_.out (by kernel_rfl)) (fun _ _ _ h => h) (Or.inl ⟨by rfl, ?_⟩) ?_ ?_
                          rotate_left
                          · intro w'
                            go_simp
                            with_reducible rfl
                          rotate_left
                          · simp only [Act.put, List.setIfInBounds_toArray, List.set_cons_zero, List.set_cons_succ, i64_w, i32_w]
                            rfl
                          refine pure_ (i := 1) (N := some 75) (v := ?_) (a' := ?_) #[true, true, false, false, false, false, false, false, false, false, false, false, false, false, false, false, false, false, false, false, false, false, false, false, false, false, false, false, false, false, false, false, false, false, false, false, false, false] rfl rfl (any_of HT_.out (by kernel_rfl)) (fun _ _ _ h => h) (Or.inl ⟨by rfl, ?_⟩) ?_ ?_
                          rotate_left
                          · intro w'
                            go_simp
                            with_reducible rfl
                          rotate_left
                          · simp only [Act.put, List.setIfInBounds_toArray, List.set_cons_zero, List.set_cons_succ, i64_w, i32_w]
                            rfl
                          refine pure_ (i := 3) (N := some 77) (v := ?_) (a' := ?_) #[true, true, false, true, false, false, false, false, false, false, false, false, false, false, false, false, false, false, false, false, false, false, false, false, false, false, false, false, false, false, false, false, false, false, false, false, false, false] rfl rfl (any_of HT_.out (by kernel_rfl)) (fun _ _ _ h => h) (Or.inl ⟨by rfl, ?_⟩) ?_ ?_
                          rotate_left
                          · intro w'
                            go_simp
                            with_reducible rfl
                          rotate_left
                          · simp only [Act.put, List.setIfInBounds_toArray, List.set_cons_zero, List.set_cons_succ, i64_w, i32_w]
                            rfl
                          refine pure_ (i := 4) (N := some 78) (v := ?_) (a' := ?_) #[true, true, false, true, true, false, false, false, false, false, false, false, false, false, false, false, false, false, false, false, false, false, false, false, false, false, false, false, false, false, false, false, false, false, false, false, false, false] rfl rfl (any_of HT_.out (by kernel_rfl)) (fun _ _ _ h => h) (Or.inl ⟨by rfl, ?_⟩) ?_ ?_
                          rotate_left
                          · intro w'
                            go_simp
                            with_reducible rfl
                          rotate_left
                          · simp only [Act.put, List.setIfInBounds_toArray, List.set_cons_zero, List.set_cons_succ, i64_w, i32_w]
                            rfl
                          refine pure_ (i := 6) (N := some 80) (v := ?_) (a' := ?_) #[true, true, false, true, true, false, true, false, false, false, false, false, false, false, false, false, false, false, false, false, false, false, false, false, false, false, false, false, false, false, false, false, false, false, false, false, false, false] rfl rfl (any_of HT_.out (by kernel_rfl)) (fun _ _ _ h => h) (Or.inl ⟨by rfl, ?_⟩) ?_ ?_
                          rotate_left
                          · intro w'
                            go_simp
                            with_reducible rfl
                          rotate_left
                          · simp only [Act.put, List.setIfInBounds_toArray, List.set_cons_zero, List.set_cons_succ, i64_w, i32_w]
                            rfl
                          refine pure_ (i := 7) (N := some 81) (v := ?_) (a' := ?_) #[true, true, false, true, true, false, true, true, false, false, false, false, false, false, false, false, false, false, false, false, false, false, false, false, false, false, false, false, false, false, false, false, false, false, false, false, false, false] rfl rfl (any_of HT_.out (by kernel_rfl)) (fun _ _ _ h => h) (Or.inl ⟨by rfl, ?_⟩) ?_ ?_
                          rotate_left
                          · intro w'
                            go_simp
                            with_reducible rfl
                          rotate_left
                          · simp only [Act.put, List.setIfInBounds_toArray, List.set_cons_zero, List.set_cons_succ, i64_w, i32_w]
                            rfl
                          refine pure_ (i := 9) (N := some 83) (v := ?_) (a' := ?_) #[true, true, false, true, true, false, true, true, false, true, false, false, false, false, false, false, false, false, false, false, false, false, false, false, false, false, false, false, false, false, false, false, false, false, false, false, false, false] rfl rfl (any_of HT_.out (by kernel_rfl)) (fun _ _ _ h => h) (Or.inl ⟨by rfl, ?_⟩) ?_ ?_
                          rotate_left
                          · intro w'
                            go_simp
                            with_reducible rfl
                          rotate_left
                          · simp only [Act.put, List.setIfInBounds_toArray, List.set_cons_zero, List.set_cons_succ, i64_w, i32_w]
                            rfl
                          refine pure_ (i := 10) (N := some 84) (v := ?_) (a' := ?_) #[true, true, false, true, true, false, true, true, false, true, true, false, false, false, false, false, false, false, false, false, false, false, false, false, false, false, false, false, false, false, false, false, false, false, false, false, false, false] rfl rfl (any_of HT_.out (by kernel_rfl)) (fun _ _ _ h => h) (Or.inl ⟨by rfl, ?_⟩) ?_ ?_
                          rotate_left
                          · intro w'
                            go_simp
                            with_reducible rfl
                          rotate_left
                          · simp only [Act.put, List.setIfInBounds_toArray, List.set_cons_zero, List.set_cons_succ, i64_w, i32_w]
                            rfl
                          refine pure_ (i := 12) (N := some 86) (v := ?_) (a' := ?_) #[true, true, false, true, true, false, true, true, false, true, true, false, true, false, false, false, false, false, false, false, false, false, false, false, false, false, false, false, false, false, false, false, false, false, false, false, false, false] rfl rfl (any_of HT_.out (by kernel_rfl)) (fun _ _ _ h => h) (Or.inl ⟨by rfl, ?_⟩) ?_ ?_
                          rotate_left
                          · intro w'
                            go_simp
                            with_reducible rfl
                          rotate_left
                          · simp only [Act.put, List.setIfInBounds_toArray, List.set_cons_zero, List.set_cons_succ, i64_w, i32_w]
                            rfl
                          refine pure_ (i := 13) (N := some 87) (v := ?_) (a' := ?_) #[true, true, false, true, true, false, true, true, false, true, true, false, true, true, false, false, false, false, false, false, false, false, false, false, false, false, false, false, false, false, false, false, false, false, false, false, false, false] rfl rfl (any_of HT_.out (by kernel_rfl)) (fun _ _ _ h => h) (Or.inl ⟨by rfl, ?_⟩) ?_ ?_
                          rotate_left
                          · intro w'
                            go_simp
                            with_reducible rfl
                          rotate_left
                          · simp only [Act.put, List.setIfInBounds_toArray, List.set_cons_zero, List.set_cons_succ, i64_w, i32_w]
                            rfl
                          refine pure_ (i := 15) (N := some 89) (v := ?_) (a' := ?_) #[true, true, false, true, true, false, true, true, false, true, true, false, true, true, false, true, false, false, false, false, false, false, false, false, false, false, false, false, false, false, false, false, false, false, false, false, false, false] rfl rfl (any_of HT_.out (by kernel_rfl)) (fun _ _ _ h => h) (Or.inl ⟨by rfl, ?_⟩) ?_ ?_
                          rotate_left
                          · intro w'
                            go_simp
                            with_reducible rfl
                          rotate_left
                          · simp only [Act.put, List.setIfInBounds_toArray, List.set_cons_zero, List.set_cons_succ, i64_w, i32_w]
                            rfl
                          refine pure_ (i := 16) (N := some 90) (v := ?_) (a' := ?_) #[true, true, false, true, true, false, true, true, false, true, true, false, true, true, false, true, true, false, false, false, false, false, false, false, false, false, false, false, false, false, false, false, false, false, false, false, false, false] rfl rfl (any_of HT_.out (by kernel_rfl)) (fun _ _ _ h => h) (Or.inl ⟨by rfl, ?_⟩) ?_ ?_
                          rotate_left
                          · intro w'
                            go_simp
                            with_reducible rfl
                          rotate_left
                          · simp only [Act.put, List.setIfInBounds_toArray, List.set_cons_zero, List.set_cons_succ, i64_w, i32_w]
                            rfl
                          refine pure_ (i := 18) (N := some 92) (v := ?_) (a' := ?_) #[true, true, false, true, true, false, true, true, false, true, true, false, true, true, false, true, true, false, true, false, false, false, false, false, false, false, false, false, false, false, false, false, false, false, false, false, false, false] rfl rfl (any_of HT_.out (by kernel_rfl)) (fun _ _ _ h => h) (Or.inl ⟨by rfl, ?_⟩) ?_ ?_
                          rotate_left
                          · intro w'
                            go_simp
                            with_reducible rfl
                          rotate_left
                          · simp only [Act.put, List.setIfInBounds_toArray, List.set_cons_zero, List.set_cons_succ, i64_w, i32_w]
                            rfl
                          refine pure_ (i := 19) (N := some 93) (v := ?_) (a' := ?_) #[true, true, false, true, true, false, true, true, false, true, true, false, true, true, false, true, true, false, true, true, false, false, false, false, false, false, false, false, false, false, false, false, false, false, false, false, false, false] rfl rfl (any_of HT_.out (by kernel_rfl)) (fun _ _ _ h => h) (Or.inl ⟨by rfl, ?_⟩) ?_ ?_
                          rotate_left
                          · intro w'
                            go_simp
                            with_reducible rfl
                          rotate_left
                          · simp only [Act.put, List.setIfInBounds_toArray, List.set_cons_zero, List.set_cons_succ, i64_w, i32_w]
                            rfl
                          refine pure_ (i := 21) (N := some 95) (v := ?_) (a' := ?_) #[true, true, false, true, true, false, true, true, false, true, true, false, true, true, false, true, true, false, true, true, false, true, false, false, false, false, false, false, false, false, false, false, false, false, false, false, false, false] rfl rfl (any_of HT_.out (by kernel_rfl)) (fun _ _ _ h => h) (Or.inl ⟨by rfl, ?_⟩) ?_ ?_
                          rotate_left
                          · intro w'
                            go_simp
                            with_reducible rfl
                          rotate_left
                          · simp only [Act.put, List.setIfInBounds_toArray, List.set_cons_zero, List.set_cons_succ, i64_w, i32_w]
                            rfl
                          refine pure_ (i := 22) (N := some 96) (v := ?_) (a' := ?_) #[true, true, false, true, true, false, true, true, false, true, true, false, true, true, false, true, true, false, true, true, false, true, true, false, false, false, false, false, false, false, false, false, false, false, false, false, false, false] rfl rfl (any_of HT_.out (by kernel_rfl)) (fun _ _ _ h => h) (Or.inl ⟨by rfl, ?_⟩) ?_ ?_
                          rotate_left
                          · intro w'
                            go_simp
                            with_reducible rfl
                          rotate_left
                          · simp only [Act.put, List.setIfInBounds_toArray, List.set_cons_zero, List.set_cons_succ, i64_w, i32_w]
                            rfl
                          refine pure_ (i := 24) (N := some 98) (v := ?_) (a' := ?_) #[true, true, false, true, true, false, true, true, false, true, true, false, true, true, false, true, true, false, true, true, false, true, true, false, true, false, false, false, false, false, false, false, false, false, false, false, false, false] rfl rfl (any_of HT_.out (by kernel_rfl)) (fun _ _ _ h => h) (Or.inl ⟨by rfl, ?_⟩) ?_ ?_
                          rotate_left
                          · intro w'
                            go_simp
                            with_reducible rfl
                          rotate_left
                          · simp only [Act.put, List.setIfInBounds_toArray, List.set_cons_zero, List.set_cons_succ, i64_w, i32_w]
                            rfl
                          refine pure_ (i := 25) (N := some 99) (v := ?_) (a' := ?_) #[true, true, false, true, true, false, true, true, false, true, true, false, true, true, false, true, true, false, true, true, false, true, true, false, true, true, false, false, false, false, false, false, false, false, false, false, false, false] rfl rfl (any_of HT_.out (by kernel_rfl)) (fun _ _ _ h => h) (Or.inl ⟨by rfl, ?_⟩) ?_ ?_
                          rotate_left
                          · intro w'
                            go_simp
                            with_reducible rfl
                          rotate_left
                          · simp only [Act.put, List.setIfInBounds_toArray, List.set_cons_zero, List.set_cons_succ, i64_w, i32_w]
                            rfl
                          refine pure_ (i := 27) (N := some 101) (v := ?_) (a' := ?_) #[true, true, false, true, true, false, true, true, false, true, true, false, true, true, false, true, true, false, true, true, false, true, true, false, true, true, false, true, false, false, false, false, false, false, false, false, false, false] rfl rfl (any_of HT_.out (by kernel_rfl)) (fun _ _ _ h => h) (Or.inl ⟨by rfl, ?_⟩) ?_ ?_
                          rotate_left
                          · intro w'
                            go_simp
                            with_reducible rfl
                          rotate_left
                          · simp only [Act.put, List.setIfInBounds_toArray, List.set_cons_zero, List.set_cons_succ, i64_w, i32_w]
                            rfl
                          refine pure_ (i := 28) (N := some 102) (v := ?_) (a' := ?_) #[true, true, false, true, true, false, true, true, false, true, true, false, true, true, false, true, true, false, true, true, false, true, true, false, true, true, false, true, true, false, false, false, false, false, false, false, false, false] rfl rfl (any_of HT_.out (by kernel_rfl)) (fun _ _ _ h => h) (Or.inl ⟨by rfl, ?_⟩) ?_ ?_
                          rotate_left
                          · intro w'
                            go_simp
                            with_reducible rfl
                          rotate_left
                          · simp only [Act.put, List.setIfInBounds_toArray, List.set_cons_zero, List.set_cons_succ, i64_w, i32_w]
                            rfl
                          refine pure_ (i := 30) (N := some 104) (v := ?_) (a' := ?_) #[true, true, false, true, true, false, true, true, false, true, true, false, true, true, false, true, true, false, true, true, false, true, true, false, true, true, false, true, true, false, true, false, false, false, false, false, false, false] rfl rfl (any_of HT_.out (by kernel_rfl)) (fun _ _ _ h => h) (Or.inl ⟨by rfl, ?_⟩) ?_ ?_
                          rotate_left
                          · intro w'
                            go_simp
                            with_reducible rfl
                          rotate_left
                          · simp only [Act.put, List.setIfInBounds_toArray, List.set_cons_zero, List.set_cons_succ, i64_w, i32_w]
                            rfl
                          refine pure_ (i := 31) (N := some 105) (v := ?_) (a' := ?_) #[true, true, false, true, true, false, true, true, false, true, true, false, true, true, false, true, true, false, true, true, false, true, true, false, true, true, false, true, true, false, true, true, false, false, false, false, false, false] rfl rfl (any_of HT_.out (by kernel_rfl)) (fun _ _ _ h => h) (Or.inl ⟨by rfl, ?_⟩) ?_ ?_
                          rotate_left
                          · intro w'
                            go_simp
                            with_reducible rfl
                          rotate_left
                          · simp only [Act.put, List.setIfInBounds_toArray, List.set_cons_zero, List.set_cons_succ, i64_w, i32_w]
                            rfl
                          refine pure_ (i := 33) (N := some 107) (v := ?_) (a' := ?_) #[true, true, false, true, true, false, true, true, false, true, true, false, true, true, false, true, true, false, true, true, false, true, true, false, true, true, false, true, true, false, true, true, false, true, false, false, false, false] rfl rfl (any_of HT_.out (by kernel_rfl)) (fun _ _ _ h => h) (Or.inl ⟨by rfl, ?_⟩) ?_ ?_
                          rotate_left
                          · intro w'
                            go_simp
                            with_reducible rfl
                          rotate_left
                          · simp only [Act.put, List.setIfInBounds_toArray, List.set_cons_zero, List.set_cons_succ, i64_w, i32_w]
                            rfl
                          refine pure_ (i := 34) (N := some 108) (v := ?_) (a' := ?_) #[true, true, false, true, true, false, true, true, false, true, true, false, true, true, false, true, true, false, true, true, false, true, true, false, true, true, false, true, true, false, true, true, false, true, true, false, false, false] rfl rfl (any_of HT_.out (by kernel_rfl)) (fun _ _ _ h => h) (Or.inl ⟨by rfl, ?_⟩) ?_ ?_
                          rotate_left
                          · intro w'
                            go_simp
                            with_reducible rfl
                          rotate_left
                          · simp only [Act.put, List.setIfInBounds_toArray, List.set_cons_zero, List.set_cons_succ, i64_w, i32_w]
                            rfl
                          refine take_ (i := 2) (N := some 76) (v := ?_) (a' := ?_) #[true, true, true, true, true, false, true, true, false, true, true, false, true, true, false, true, true, false, true, true, false, true, true, false, true, true, false, true, true, false, true, true, false, true, true, false, false, false] rfl rfl (take_ofW HT_.out HW_.out (by kernel_rfl)) (fun _ _ _ h => h) (Or.inl ⟨by rfl, ?_⟩) hHeld ?_ ?_
                          rotate_left
                          · rintro w' ⟨s0, s1, s2, s3, s4, s5, s6, s7, s8, s9⟩
                            go_simp
                            with_reducible rfl
                          rotate_left
                          · simp only [Act.put, List.setIfInBounds_toArray, List.set_cons_zero, List.set_cons_succ, i64_w, i32_w]
                            rfl
                          refine take_ (i := 5) (N := some 79) (v := ?_) (a' := ?_) #[true, true, true, true, true, true, true, true, false, true, true, false, true, true, false, true, true, false, true, true, false, true, true, false, true, true, false, true, true, false, true, true, false, true, true, false, false, false] rfl rfl (take_ofW HT_.out HW_.out (by kernel_rfl)) (fun _ _ _ h => h) (Or.inl ⟨by rfl, ?_⟩) hHeld ?_ ?_
                          rotate_left
                          · rintro w' ⟨s0, s1, s2, s3, s4, s5, s6, s7, s8, s9⟩
                            go_simp
                            with_reducible rfl
                          rotate_left
                          · simp only [Act.put, List.setIfInBounds_toArray, List.set_cons_zero, List.set_cons_succ, i64_w, i32_w]
                            rfl
                          refine take_ (i := 11) (N := some 85) (v := ?_) (a' := ?_) #[true, true, true, true, true, true, true, true, false, true, true, true, true, true, false, true, true, false, true, true, false, true, true, false, true, true, false, true, true, false, true, true, false, true, true, false, false, false] rfl rfl (take_ofW HT_.out HW_.out (by kernel_rfl)) (fun _ _ _ h => h) (Or.inl ⟨by rfl, ?_⟩) hHeld ?_ ?_
                          rotate_left
                          · rintro w' ⟨s0, s1, s2, s3, s4, s5, s6, s7, s8, s9⟩
                            go_simp
                            with_reducible rfl
                          rotate_left
                          · simp only [Act.put, List.setIfInBounds_toArray, List.set_cons_zero, List.set_cons_succ, i64_w, i32_w]
                            rfl
                          refine take_ (i := 14) (N := some 88) (v := ?_) (a' := ?_) #[true, true, true, true, true, true, true, true, false, true, true, true, true, true, true, true, true, false, true, true, false, true, true, false, true, true, false, true, true, false, true, true, false, true, true, false, false, false] rfl rfl (take_ofW HT_.out HW_.out (by kernel_rfl)) (fun _ _ _ h => h) (Or.inl ⟨by rfl, ?_⟩) hHeld ?_ ?_
                          rotate_left
                          · rintro w' ⟨s0, s1, s2, s3, s4, s5, s6, s7, s8, s9⟩
                            go_simp
                            with_reducible rfl
                          rotate_left
                          · simp only [Act.put, List.setIfInBounds_toArray, List.set_cons_zero, List.set_cons_succ, i64_w, i32_w]
                            rfl
                          refine take_ (i := 20) (N := some 94) (v := ?_) (a' := ?_) #[true, true, true, true, true, true, true, true, false, true, true, true, true, true, true, true, true, false, true, true, true, true, true, false, true, true, false, true, true, false, true, true, false, true, true, false, false, false] rfl rfl (take_ofW HT_.out HW_.out (by kernel_rfl)) (fun _ _ _ h => h) (Or.inl ⟨by rfl, ?_⟩) hHeld ?_ ?_
                          rotate_left
                          · rintro w' ⟨s0, s1, s2, s3, s4, s5, s6, s7, s8, s9⟩
                            go_simp
                            with_reducible rfl
                          rotate_left
                          · simp only [Act.put, List.setIfInBounds_toArray, List.set_cons_zero, List.set_cons_succ, i64_w, i32_w]
                            rfl
                          refine take_ (i := 23) (N := some 97) (v := ?_) (a' := ?_) #[true, true, true, true, true, true, true, true, false, true, true, true, true, true, true, true, true, false, true, true, true, true, true, true, true, true, false, true, true, false, true, true, false, true, true, false, false, false] rfl rfl (take_ofW HT_.out HW_.out (by kernel_rfl)) (fun _ _ _ h => h) (Or.inl ⟨by rfl, ?_⟩) hHeld ?_ ?_
                          rotate_left
                          · rintro w' ⟨s0, s1, s2, s3, s4, s5, s6, s7, s8, s9⟩
                            go_simp
                            with_reducible rfl
                          rotate_left
                          · simp only [Act.put, List.setIfInBounds_toArray, List.set_cons_zero, List.set_cons_succ, i64_w, i32_w]
                            rfl
                          refine take_ (i := 29) (N := some 103) (v := ?_) (a' := ?_) #[true, true, true, true, true, true, true, true, false, true, true, true, true, true, true, true, true, false, true, true, true, true, true, true, true, true, false, true, true, true, true, true, false, true, true, false, false, false] rfl rfl (take_ofW HT_.out HW_.out (by kernel_rfl)) (fun _ _ _ h => h) (Or.inl ⟨by rfl, ?_⟩) hHeld ?_ ?_
                          rotate_left
                          · rintro w' ⟨s0, s1, s2, s3, s4, s5, s6, s7, s8, s9⟩
                            go_simp
                            with_reducible rfl
                          rotate_left
                          · simp only [Act.put, List.setIfInBounds_toArray, List.set_cons_zero, List.set_cons_succ, i64_w, i32_w]
                            rfl
                          refine take_ (i := 32) (N := some 106) (v := ?_) (a' := ?_) #[true, true, true, true, true, true, true, true, false, true, true, true, true, true, true, true, true, false, true, true, true, true, true, true, true, true, false, true, true, true, true, true, true, true, true, false, false, false] rfl rfl (take_ofW HT_.out HW_.out (by kernel_rfl)) (fun _ _ _ h => h) (Or.inl ⟨by rfl, ?_⟩) hHeld ?_ ?_
                          rotate_left
                          · rintro w' ⟨s0, s1, s2, s3, s4, s5, s6, s7, s8, s9⟩
                            go_simp
                            with_reducible rfl
                          rotate_left
                          · simp only [Act.put, List.setIfInBounds_toArray, List.set_cons_zero, List.set_cons_succ, i64_w, i32_w]
                            rfl
                          refine one_ (i := 8) (N := some 82) #[true, true, true, true, true, true, true, true, true, true, true, true, true, true, true, true, true, false, true, true, true, true, true, true, true, true, false, true, true, true, true, true, true, true, true, false, false, false] rfl rfl (one_of HT_.out (by kernel_rfl)) (by decide) (fun K hK => ?_)
                          refine goes_ Try.func25 (by kernel_rfl) rfl #[.int .i64 ((rd_T32 l0 x5_15).f1.f0), .int .i64 ((rd_T32 l0 (ji28)).f1.f0), .int .i64 (wrap64 (a1 - ((rd_T32 l0 x5_15).f0))), .int .i64 (wrap64 (((rd_T32 l0 (ji28)).f0) - ((rd_T32 l0 x5_15).f0)))] (by rfl) rfl rfl (by (try simp only [List.map_toArray, List.map_cons, List.map_nil]); first | done | (simp only [hji28]; rfl) | rfl | (simp only [List.length_drop, List.length_take]; rfl)) ?_
                          with_reducible refine (ramp_mix.calls kj15 ((rd_T32 l0 x5_15).f1.f0) ((rd_T32 l0 (ji28)).f1.f0) (wrap64 (a1 - ((rd_T32 l0 x5_15).f0))) (wrap64 (((rd_T32 l0 (ji28)).f0) - ((rd_T32 l0 x5_15).f0))) t142 _ A31.out).mono ?_
                          rintro e w45 ⟨rfl, hb⟩
                          refine ⟨_, rfl, ?_⟩
                          have n0_ := Aside0.mk (blk_below (g := gb133) (o := .cells #[.int .i64 0, .int .i64 0, .int .i64 0, .int .i64 0] 27 (0, 0)) (by (with_reducible repeat (first | refine blk_drewN ?_ _ | refine blk_drew ?_ | refine blk_alloc ?_ _)); exact BK133.out) hb)
                          have n1_ := Aside0.mk (blk_below (g := gb139) (o := .cells #[.int .i64 ((rd_T32 l0 x5_15).f0), .int .i64 ((rd_T32 l0 x5_15).f1.f0), .int .i64 ((rd_T32 l0 x5_15).f1.f1), .int .i64 ((rd_T32 l0 x5_15).f1.f2), .int .i64 ((rd_T32 l0 x5_15).f1.f3)] 32 (0, 0)) (by (with_reducible repeat (first | refine blk_drewN ?_ _ | refine blk_drew ?_ | refine blk_alloc ?_ _)); exact BK139.out) hb)
                          have n2_ := Aside0.mk (blk_below (g := gb141) (o := .cells #[.int .i64 ((rd_T32 l0 (ji28)).f0), .int .i64 ((rd_T32 l0 (ji28)).f1.f0), .int .i64 ((rd_T32 l0 (ji28)).f1.f1), .int .i64 ((rd_T32 l0 (ji28)).f1.f2), .int .i64 ((rd_T32 l0 (ji28)).f1.f3)] 32 (0, 0)) (by (with_reducible repeat (first | refine blk_drewN ?_ _ | refine blk_drew ?_ | refine blk_alloc ?_ _)); exact BK141.out) hb)
                          have n3_ := Aside0.mk (below_step (by repeat (first | (with_reducible first | exact HB.out | apply below_alloc | apply pw_below_drewN | apply below_drew1 | refine below_set ?_ GE133.out | refine below_set ?_ GE139.out | refine below_set ?_ GE141.out) | exact HB.out)) hb)
                          clear BK133
                          clear BK139
                          clear BK141
                          clear HB
                          have BK133 := n0_
                          have BK139 := n1_
                          have BK141 := n2_
                          have HB := n3_
                          clear n0_ n1_ n2_ n3_
                          (try clear hb)
                          (try clear hb2)
                          (try clear hk)
                          (try clear hi)
                          refine hK.out _ _ ⟨(blk_cell BK139.out 0).trans rfl, (blk_cell BK139.out 1).trans rfl, (blk_cell BK139.out 2).trans rfl, (blk_cell BK139.out 3).trans rfl, (blk_cell BK139.out 4).trans rfl, (blk_cell BK141.out 0).trans rfl, (blk_cell BK141.out 1).trans rfl, (blk_cell BK141.out 2).trans rfl, (blk_cell BK141.out 3).trans rfl, (blk_cell BK141.out 4).trans rfl⟩ (fun hHeld => ?_)
                          clear hK K
                          refine norm_ (a' := ?_) ?_ ?_
                          rotate_left
                          · show Act.put _ (some 82) _ = _
                            simp only [Act.put, List.setIfInBounds_toArray, List.set_cons_zero, List.set_cons_succ, i64_w, i32_w]
                            rfl
                          refine one_ (i := 17) (N := some 91) #[true, true, true, true, true, true, true, true, true, true, true, true, true, true, true, true, true, true, true, true, true, true, true, true, true, true, false, true, true, true, true, true, true, true, true, false, false, false] rfl rfl (one_of HT_.out (by kernel_rfl)) (by decide) (fun K hK => ?_)
                          refine goes_ Try.func25 (by kernel_rfl) rfl #[.int .i64 ((rd_T32 l0 x5_15).f1.f1), .int .i64 ((rd_T32 l0 (ji28)).f1.f1), .int .i64 (wrap64 (a1 - ((rd_T32 l0 x5_15).f0))), .int .i64 (wrap64 (((rd_T32 l0 (ji28)).f0) - ((rd_T32 l0 x5_15).f0)))] (by rfl) rfl rfl (by (try simp only [List.map_toArray, List.map_cons, List.map_nil]); first | done | (simp only [hji28]; rfl) | rfl | (simp only [List.length_drop, List.length_take]; rfl)) ?_
                          with_reducible refine (ramp_mix.calls kj15 ((rd_T32 l0 x5_15).f1.f1) ((rd_T32 l0 (ji28)).f1.f1) (wrap64 (a1 - ((rd_T32 l0 x5_15).f0))) (wrap64 (((rd_T32 l0 (ji28)).f0) - ((rd_T32 l0 x5_15).f0))) t143 _ A32.out).mono ?_
                          rintro e w46 ⟨rfl, hb⟩
                          refine ⟨_, rfl, ?_⟩
                          have n0_ := Aside0.mk (blk_below (g := gb133) (o := .cells #[.int .i64 0, .int .i64 0, .int .i64 0, .int .i64 0] 27 (0, 0)) (by (with_reducible repeat (first | refine blk_drewN ?_ _ | refine blk_drew ?_ | refine blk_alloc ?_ _)); exact BK133.out) hb)
                          have n1_ := Aside0.mk (blk_below (g := gb139) (o := .cells #[.int .i64 ((rd_T32 l0 x5_15).f0), .int .i64 ((rd_T32 l0 x5_15).f1.f0), .int .i64 ((rd_T32 l0 x5_15).f1.f1), .int .i64 ((rd_T32 l0 x5_15).f1.f2), .int .i64 ((rd_T32 l0 x5_15).f1.f3)] 32 (0, 0)) (by (with_reducible repeat (first | refine blk_drewN ?_ _ | refine blk_drew ?_ | refine blk_alloc ?_ _)); exact BK139.out) hb)
                          have n2_ := Aside0.mk (blk_below (g := gb141) (o := .cells #[.int .i64 ((rd_T32 l0 (ji28)).f0), .int .i64 ((rd_T32 l0 (ji28)).f1.f0), .int .i64 ((rd_T32 l0 (ji28)).f1.f1), .int .i64 ((rd_T32 l0 (ji28)).f1.f2), .int .i64 ((rd_T32 l0 (ji28)).f1.f3)] 32 (0, 0)) (by (with_reducible repeat (first | refine blk_drewN ?_ _ | refine blk_drew ?_ | refine blk_alloc ?_ _)); exact BK141.out) hb)
                          have n3_ := Aside0.mk (below_step (by repeat (first | (with_reducible first | exact HB.out | apply below_alloc | apply pw_below_drewN | apply below_drew1 | refine below_set ?_ GE133.out | refine below_set ?_ GE139.out | refine below_set ?_ GE141.out) | exact HB.out)) hb)
                          clear BK133
                          clear BK139
                          clear BK141
                          clear HB
                          have BK133 := n0_
                          have BK139 := n1_
                          have BK141 := n2_
                          have HB := n3_
                          clear n0_ n1_ n2_ n3_
                          (try clear hb)
                          (try clear hb2)
                          (try clear hk)
                          (try clear hi)
                          refine hK.out _ _ ⟨(blk_cell BK139.out 0).trans rfl, (blk_cell BK139.out 1).trans rfl, (blk_cell BK139.out 2).trans rfl, (blk_cell BK139.out 3).trans rfl, (blk_cell BK139.out 4).trans rfl, (blk_cell BK141.out 0).trans rfl, (blk_cell BK141.out 1).trans rfl, (blk_cell BK141.out 2).trans rfl, (blk_cell BK141.out 3).trans rfl, (blk_cell BK141.out 4).trans rfl⟩ (fun hHeld => ?_)
                          clear hK K
                          refine norm_ (a' := ?_) ?_ ?_
                          rotate_left
                          · show Act.put _ (some 91) _ = _
                            simp only [Act.put, List.setIfInBounds_toArray, List.set_cons_zero, List.set_cons_succ, i64_w, i32_w]
                            rfl
                          refine one_ (i := 26) (N := some 100) #[true, true, true, true, true, true, true, true, true, true, true, true, true, true, true, true, true, true, true, true, true, true, true, true, true, true, true, true, true, true, true, true, true, true, true, false, false, false] rfl rfl (one_of HT_.out (by kernel_rfl)) (by decide) (fun K hK => ?_)
                          refine goes_ Try.func25 (by kernel_rfl) rfl #[.int .i64 ((rd_T32 l0 x5_15).f1.f2), .int .i64 ((rd_T32 l0 (ji28)).f1.f2), .int .i64 (wrap64 (a1 - ((rd_T32 l0 x5_15).f0))), .int .i64 (wrap64 (((rd_T32 l0 (ji28)).f0) - ((rd_T32 l0 x5_15).f0)))] (by rfl) rfl rfl (by (try simp only [List.map_toArray, List.map_cons, List.map_nil]); first | done | (simp only [hji28]; rfl) | rfl | (simp only [List.length_drop, List.length_take]; rfl)) ?_
                          with_reducible refine (ramp_mix.calls kj15 ((rd_T32 l0 x5_15).f1.f2) ((rd_T32 l0 (ji28)).f1.f2) (wrap64 (a1 - ((rd_T32 l0 x5_15).f0))) (wrap64 (((rd_T32 l0 (ji28)).f0) - ((rd_T32 l0 x5_15).f0))) t144 _ A33.out).mono ?_
                          rintro e w47 ⟨rfl, hb⟩
                          refine ⟨_, rfl, ?_⟩
                          have n0_ := Aside0.mk (blk_below (g := gb133) (o := .cells #[.int .i64 0, .int .i64 0, .int .i64 0, .int .i64 0] 27 (0, 0)) (by (with_reducible repeat (first | refine blk_drewN ?_ _ | refine blk_drew ?_ | refine blk_alloc ?_ _)); exact BK133.out) hb)
                          have n1_ := Aside0.mk (blk_below (g := gb139) (o := .cells #[.int .i64 ((rd_T32 l0 x5_15).f0), .int .i64 ((rd_T32 l0 x5_15).f1.f0), .int .i64 ((rd_T32 l0 x5_15).f1.f1), .int .i64 ((rd_T32 l0 x5_15).f1.f2), .int .i64 ((rd_T32 l0 x5_15).f1.f3)] 32 (0, 0)) (by (with_reducible repeat (first | refine blk_drewN ?_ _ | refine blk_drew ?_ | refine blk_alloc ?_ _)); exact BK139.out) hb)
                          have n2_ := Aside0.mk (blk_below (g := gb141) (o := .cells #[.int .i64 ((rd_T32 l0 (ji28)).f0), .int .i64 ((rd_T32 l0 (ji28)).f1.f0), .int .i64 ((rd_T32 l0 (ji28)).f1.f1), .int .i64 ((rd_T32 l0 (ji28)).f1.f2), .int .i64 ((rd_T32 l0 (ji28)).f1.f3)] 32 (0, 0)) (by (with_reducible repeat (first | refine blk_drewN ?_ _ | refine blk_drew ?_ | refine blk_alloc ?_ _)); exact BK141.out) hb)
                          have n3_ := Aside0.mk (below_step (by repeat (first | (with_reducible first | exact HB.out | apply below_alloc | apply pw_below_drewN | apply below_drew1 | refine below_set ?_ GE133.out | refine below_set ?_ GE139.out | refine below_set ?_ GE141.out) | exact HB.out)) hb)
                          clear BK133
                          clear BK139
                          clear BK141
                          clear HB
                          have BK133 := n0_
                          have BK139 := n1_
                          have BK141 := n2_
                          have HB := n3_
                          clear n0_ n1_ n2_ n3_
                          (try clear hb)
                          (try clear hb2)
                          (try clear hk)
                          (try clear hi)
                          refine hK.out _ _ ⟨(blk_cell BK139.out 0).trans rfl, (blk_cell BK139.out 1).trans rfl, (blk_cell BK139.out 2).trans rfl, (blk_cell BK139.out 3).trans rfl, (blk_cell BK139.out 4).trans rfl, (blk_cell BK141.out 0).trans rfl, (blk_cell BK141.out 1).trans rfl, (blk_cell BK141.out 2).trans rfl, (blk_cell BK141.out 3).trans rfl, (blk_cell BK141.out 4).trans rfl⟩ (fun hHeld => ?_)
                          clear hK K
                          refine norm_ (a' := ?_) ?_ ?_
                          rotate_left
                          · show Act.put _ (some 100) _ = _
                            simp only [Act.put, List.setIfInBounds_toArray, List.set_cons_zero, List.set_cons_succ, i64_w, i32_w]
                            rfl
                          refine one_ (i := 35) (N := some 109) #[true, true, true, true, true, true, true, true, true, true, true, true, true, true, true, true, true, true, true, true, true, true, true, true, true, true, true, true, true, true, true, true, true, true, true, true, false, false] rfl rfl (one_of HT_.out (by kernel_rfl)) (by decide) (fun K hK => ?_)
                          refine goes_ Try.func25 (by kernel_rfl) rfl #[.int .i64 ((rd_T32 l0 x5_15).f1.f3), .int .i64 ((rd_T32 l0 (ji28)).f1.f3), .int .i64 (wrap64 (a1 - ((rd_T32 l0 x5_15).f0))), .int .i64 (wrap64 (((rd_T32 l0 (ji28)).f0) - ((rd_T32 l0 x5_15).f0)))] (by rfl) rfl rfl (by (try simp only [List.map_toArray, List.map_cons, List.map_nil]); first | done | (simp only [hji28]; rfl) | rfl | (simp only [List.length_drop, List.length_take]; rfl)) ?_
                          with_reducible refine (ramp_mix.calls kj15 ((rd_T32 l0 x5_15).f1.f3) ((rd_T32 l0 (ji28)).f1.f3) (wrap64 (a1 - ((rd_T32 l0 x5_15).f0))) (wrap64 (((rd_T32 l0 (ji28)).f0) - ((rd_T32 l0 x5_15).f0))) t145 _ A34.out).mono ?_
                          rintro e w48 ⟨rfl, hb⟩
                          refine ⟨_, rfl, ?_⟩
                          have n0_ := Aside0.mk (blk_below (g := gb133) (o := .cells #[.int .i64 0, .int .i64 0, .int .i64 0, .int .i64 0] 27 (0, 0)) (by (with_reducible repeat (first | refine blk_drewN ?_ _ | refine blk_drew ?_ | refine blk_alloc ?_ _)); exact BK133.out) hb)
                          have n1_ := Aside0.mk (blk_below (g := gb139) (o := .cells #[.int .i64 ((rd_T32 l0 x5_15).f0), .int .i64 ((rd_T32 l0 x5_15).f1.f0), .int .i64 ((rd_T32 l0 x5_15).f1.f1), .int .i64 ((rd_T32 l0 x5_15).f1.f2), .int .i64 ((rd_T32 l0 x5_15).f1.f3)] 32 (0, 0)) (by (with_reducible repeat (first | refine blk_drewN ?_ _ | refine blk_drew ?_ | refine blk_alloc ?_ _)); exact BK139.out) hb)
                          have n2_ := Aside0.mk (blk_below (g := gb141) (o := .cells #[.int .i64 ((rd_T32 l0 (ji28)).f0), .int .i64 ((rd_T32 l0 (ji28)).f1.f0), .int .i64 ((rd_T32 l0 (ji28)).f1.f1), .int .i64 ((rd_T32 l0 (ji28)).f1.f2), .int .i64 ((rd_T32 l0 (ji28)).f1.f3)] 32 (0, 0)) (by (with_reducible repeat (first | refine blk_drewN ?_ _ | refine blk_drew ?_ | refine blk_alloc ?_ _)); exact BK141.out) hb)
                          have n3_ := Aside0.mk (below_step (by repeat (first | (with_reducible first | exact HB.out | apply below_alloc | apply pw_below_drewN | apply below_drew1 | refine below_set ?_ GE133.out | refine below_set ?_ GE139.out | refine below_set ?_ GE141.out) | exact HB.out)) hb)
                          clear BK133
                          clear BK139
                          clear BK141
                          clear HB
                          have BK133 := n0_
                          have BK139 := n1_
                          have BK141 := n2_
                          have HB := n3_
                          clear n0_ n1_ n2_ n3_
                          (try clear hb)
                          (try clear hb2)
                          (try clear hk)
                          (try clear hi)
                          refine hK.out _ _ ⟨(blk_cell BK139.out 0).trans rfl, (blk_cell BK139.out 1).trans rfl, (blk_cell BK139.out 2).trans rfl, (blk_cell BK139.out 3).trans rfl, (blk_cell BK139.out 4).trans rfl, (blk_cell BK141.out 0).trans rfl, (blk_cell BK141.out 1).trans rfl, (blk_cell BK141.out 2).trans rfl, (blk_cell BK141.out 3).trans rfl, (blk_cell BK141.out 4).trans rfl⟩ (fun hHeld => ?_)
                          clear hK K
                          refine norm_ (a' := ?_) ?_ ?_
                          rotate_left
                          · show Act.put _ (some 109) _ = _
                            simp only [Act.put, List.setIfInBounds_toArray, List.set_cons_zero, List.set_cons_succ, i64_w, i32_w]
                            rfl
                          refine pure_ (i := 36) (N := some 110) (v := ?_) (a' := ?_) #[true, true, true, true, true, true, true, true, true, true, true, true, true, true, true, true, true, true, true, true, true, true, true, true, true, true, true, true, true, true, true, true, true, true, true, true, true, false] rfl rfl (any_of HT_.out (by kernel_rfl)) (fun _ _ _ h => h) (Or.inl ⟨by rfl, ?_⟩) ?_ ?_
                          rotate_left
                          · intro w'
                            go_simp
                            with_reducible rfl
                          rotate_left
                          · simp only [Act.put, List.setIfInBounds_toArray, List.set_cons_zero, List.set_cons_succ, i64_w, i32_w]
                            rfl
                          refine one_ (i := 37) (N := none) #[true, true, true, true, true, true, true, true, true, true, true, true, true, true, true, true, true, true, true, true, true, true, true, true, true, true, true, true, true, true, true, true, true, true, true, true, true, true] rfl rfl (one_of HT_.out (by kernel_rfl)) (by decide) (fun K hK => ?_)
                          have hs49 : w48.cell? ⟨gb133, 0, none⟩ = some (.int .i64 0) := (blk_cell BK133.out 0).trans rfl
                          have hfs49 := blk_frozen BK133.out 0
                          have hns49_1 := NB139_133.out
                          have hns49_2 := NB141_133.out
                          have hms49_1 := NB133_139.out
                          have hms49_2 := NB133_141.out
                          have hs50 : w48.cell? ⟨gb133, 1, none⟩ = some (.int .i64 0) := (blk_cell BK133.out 1).trans rfl
                          have hfs50 := blk_frozen BK133.out 1
                          have hns50_1 := NB139_133.out
                          have hns50_2 := NB141_133.out
                          have hms50_1 := NB133_139.out
                          have hms50_2 := NB133_141.out
                          have hs51 : w48.cell? ⟨gb133, 2, none⟩ = some (.int .i64 0) := (blk_cell BK133.out 2).trans rfl
                          have hfs51 := blk_frozen BK133.out 2
                          have hns51_1 := NB139_133.out
                          have hns51_2 := NB141_133.out
                          have hms51_1 := NB133_139.out
                          have hms51_2 := NB133_141.out
                          have hs52 : w48.cell? ⟨gb133, 3, none⟩ = some (.int .i64 0) := (blk_cell BK133.out 3).trans rfl
                          have hfs52 := blk_frozen BK133.out 3
                          have hns52_1 := NB139_133.out
                          have hns52_2 := NB141_133.out
                          have hms52_1 := NB133_139.out
                          have hms52_2 := NB133_141.out
                          refine skip_ (w1 := ?_) (by rfl) rfl ?_ ?_
                          rotate_left
                          · go_simp
                            rfl
                          refine hK.out _ _ ⟨((cell_far (p := ⟨gb133, _, none⟩) NB139_133.out _).trans (((cell_far (p := ⟨gb133, _, none⟩) NB139_133.out _).trans (((cell_far (p := ⟨gb133, _, none⟩) NB139_133.out _).trans (((cell_far (p := ⟨gb133, _, none⟩) NB139_133.out _).trans (hHeld.1)))))))), ((cell_far (p := ⟨gb133, _, none⟩) NB139_133.out _).trans (((cell_far (p := ⟨gb133, _, none⟩) NB139_133.out _).trans (((cell_far (p := ⟨gb133, _, none⟩) NB139_133.out _).trans (((cell_far (p := ⟨gb133, _, none⟩) NB139_133.out _).trans (hHeld.2.1)))))))), ((cell_far (p := ⟨gb133, _, none⟩) NB139_133.out _).trans (((cell_far (p := ⟨gb133, _, none⟩) NB139_133.out _).trans (((cell_far (p := ⟨gb133, _, none⟩) NB139_133.out _).trans (((cell_far (p := ⟨gb133, _, none⟩) NB139_133.out _).trans (hHeld.2.2.1)))))))), ((cell_far (p := ⟨gb133, _, none⟩) NB139_133.out _).trans (((cell_far (p := ⟨gb133, _, none⟩) NB139_133.out _).trans (((cell_far (p := ⟨gb133, _, none⟩) NB139_133.out _).trans (((cell_far (p := ⟨gb133, _, none⟩) NB139_133.out _).trans (hHeld.2.2.2.1)))))))), ((cell_far (p := ⟨gb133, _, none⟩) NB139_133.out _).trans (((cell_far (p := ⟨gb133, _, none⟩) NB139_133.out _).trans (((cell_far (p := ⟨gb133, _, none⟩) NB139_133.out _).trans (((cell_far (p := ⟨gb133, _, none⟩) NB139_133.out _).trans (hHeld.2.2.2.2.1)))))))), ((cell_far (p := ⟨gb133, _, none⟩) NB141_133.out _).trans (((cell_far (p := ⟨gb133, _, none⟩) NB141_133.out _).trans (((cell_far (p := ⟨gb133, _, none⟩) NB141_133.out _).trans (((cell_far (p := ⟨gb133, _, none⟩) NB141_133.out _).trans (hHeld.2.2.2.2.2.1)))))))), ((cell_far (p := ⟨gb133, _, none⟩) NB141_133.out _).trans (((cell_far (p := ⟨gb133, _, none⟩) NB141_133.out _).trans (((cell_far (p := ⟨gb133, _, none⟩) NB141_133.out _).trans (((cell_far (p := ⟨gb133, _, none⟩) NB141_133.out _).trans (hHeld.2.2.2.2.2.2.1)))))))), ((cell_far (p := ⟨gb133, _, none⟩) NB141_133.out _).trans (((cell_far (p := ⟨gb133, _, none⟩) NB141_133.out _).trans (((cell_far (p := ⟨gb133, _, none⟩) NB141_133.out _).trans (((cell_far (p := ⟨gb133, _, none⟩) NB141_133.out _).trans (hHeld.2.2.2.2.2.2.2.1)))))))), ((cell_far (p := ⟨gb133, _, none⟩) NB141_133.out _).trans (((cell_far (p := ⟨gb133, _, none⟩) NB141_133.out _).trans (((cell_far (p := ⟨gb133, _, none⟩) NB141_133.out _).trans (((cell_far (p := ⟨gb133, _, none⟩) NB141_133.out _).trans (hHeld.2.2.2.2.2.2.2.2.1)))))))), ((cell_far (p := ⟨gb133, _, none⟩) NB141_133.out _).trans (((cell_far (p := ⟨gb133, _, none⟩) NB141_133.out _).trans (((cell_far (p := ⟨gb133, _, none⟩) NB141_133.out _).trans (((cell_far (p := ⟨gb133, _, none⟩) NB141_133.out _).trans (hHeld.2.2.2.2.2.2.2.2.2))))))))⟩ (fun hHeld => ?_)
                          clear hK K
                          refine done_ (done_of HT_.out (by kernel_rfl)) ?_
                          try go_wp2
                          refine bodyPost_ret (results_cell_row rfl _ _ gb133 27 #[.int .i64 t142, .int .i64 t143, .int .i64 t144, .int .i64 t145] (0, 0) _ rfl (by (with_reducible repeat (first | refine blk_drewN ?_ _ | refine blk_drew ?_ | refine blk_alloc ?_ _)); refine blk_put (cs := #[.int .i64 t142, .int .i64 t143, .int .i64 t144, .int .i64 0]) ?_ 3 _ rfl; (with_reducible repeat (first | refine blk_drewN ?_ _ | refine blk_drew ?_ | refine blk_alloc ?_ _)); refine blk_put (cs := #[.int .i64 t142, .int .i64 t143, .int .i64 0, .int .i64 0]) ?_ 2 _ rfl; (with_reducible repeat (first | refine blk_drewN ?_ _ | refine blk_drew ?_ | refine blk_alloc ?_ _)); refine blk_put (cs := #[.int .i64 t142, .int .i64 0, .int .i64 0, .int .i64 0]) ?_ 1 _ rfl; (with_reducible repeat (first | refine blk_drewN ?_ _ | refine blk_drew ?_ | refine blk_alloc ?_ _)); refine blk_put (cs := #[.int .i64 0, .int .i64 0, .int .i64 0, .int .i64 0]) ?_ 0 _ rfl; (with_reducible repeat (first | refine blk_drewN ?_ _ | refine blk_drew ?_ | refine blk_alloc ?_ _)); exact BK133.out) Try.underlying27 rfl (by kernel_rfl)) rfl ?_
                          exact ⟨by first | rfl | (simp [errW_none, errW_some] <;> rfl) | (simp only [← hji28]; first | rfl | (simp [errW_none, errW_some] <;> rfl)) | (simp [*, errW_none, errW_some] <;> rfl), by repeat (first | (with_reducible first | exact HB.out | apply below_alloc | apply pw_below_drewN | apply below_drew1 | refine below_set ?_ GE133.out | refine below_set ?_ GE139.out | refine below_set ?_ GE141.out) | exact HB.out)⟩
                        · rw [if_neg c30] at H
                          exact absurd H (by simp)
                      · rw [if_neg c29] at H
                        exact absurd H (by simp)
                  · rw [if_neg c22] at H
                    exact absurd H (by simp)
                · rw [if_neg c21] at H
                  exact absurd H (by simp)
        · rw [if_neg c13] at H
          exact absurd H (by simp)

end Go.Proofs.Ytdphpilcokloeaa.P
