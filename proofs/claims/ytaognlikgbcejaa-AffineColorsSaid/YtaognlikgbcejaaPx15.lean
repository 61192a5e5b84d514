/- Printed by printx.py (wip/tool) out of the translation: plain functions that tell what the program answers, and the proofs that the program comes to these answers, for all arguments of their kinds. Lean checks it. -/
import Derived.Test.YtaognlikgbcejaaPx0
import Derived.Test.YtaognlikgbcejaaPx4
import Derived.Test.YtaognlikgbcejaaPx9
import Derived.Test.YtaognlikgbcejaaPx11
import Derived.Test.YtaognlikgbcejaaPx12
import Derived.Test.YtaognlikgbcejaaPx14
namespace Go.Proofs.Ytaognlikgbcejaa.P
open Go.RowKit Go.Proofs.YtaognlikgbcejaaW.PrintWords Go.Proofs.YtaognlikgbcejaaW.PrintLast Go.Proofs.YtaognlikgbcejaaW.PrintMore
attribute [local go_sem] max2_int min2_int max_two min_two max_three min_three max_four min_four max_five min_five max_six min_six   -- for this text's walks alone
set_option linter.unusedVariables false
set_option linter.unusedSimpArgs false

attribute [local go_sem high] eqA43
/-! ### celluloidlaw14_AffineColors: function 6 -/
def celluloidlaw14_AffineColors.j0 : Nat → Bool → Int → Int → Int → Int → Int → Int → Int → Int → Int → Int → Int → Int → Int → Int → Int → Int → Option (Bool)
  | 0, _, _, _, _, _, _, _, _, _, _, _, _, _, _, _, _, _ => none
  | k + 1, x12, x347000, x347001, x347002, x347003, x347004, x347005, x347006, x347007, x348000, x348001, x348002, x348003, x349000, x349001, x349002, x349003 => if x12 = true then ((celluloidref14_Color.f k x347000 x347001 x347002 x347003 x347004 x347005 x347006 x347007 x348000 x348001 x348002 x348003).bind fun bt351 => ((affine_Color.f k x347000 x347001 x347002 x347003 x347004 x347005 x347006 x347007 x348000 x348001 x348002 x348003).bind fun bt355 => (if (bt355.1 == bt351.1 && (bt355.2.1 == bt351.2.1 && (bt355.2.2.1 == bt351.2.2.1 && (bt355.2.2.2 == bt351.2.2.2)))) = true then ((celluloidlaw14_awake.f k).bind fun t359 => (some t359)) else (some false)))) else ((affine_Color.f k x347000 x347001 x347002 x347003 x347004 x347005 x347006 x347007 x348000 x348001 x348002 x348003).bind fun bt360 => (if (bt360.1 == x349000 && (bt360.2.1 == x349001 && (bt360.2.2.1 == x349002 && (bt360.2.2.2 == x349003)))) = true then ((celluloidlaw14_awake.f k).bind fun t364 => (some t364)) else (some false)))
def celluloidlaw14_AffineColors.f (k : Nat) (a0_0 : Int) (a0_1 : Int) (a0_2 : Int) (a0_3 : Int) (a0_4 : Int) (a0_5 : Int) (a0_6 : Int) (a0_7 : Int) (a1_0 : Int) (a1_1 : Int) (a1_2 : Int) (a1_3 : Int) : Option (Bool) := (celluloidref07_Cx.f k a0_0 a0_1 a0_2 a0_3 a0_4 a0_5 a0_6 a0_7).bind fun t349 => (if t349 = true then ((celluloidref07_RGBA.f k a1_0 a1_1 a1_2 a1_3).bind fun t350 => (celluloidlaw14_AffineColors.j0 k t350 a0_0 a0_1 a0_2 a0_3 a0_4 a0_5 a0_6 a0_7 a1_0 a1_1 a1_2 a1_3 0 0 0 0)) else (celluloidlaw14_AffineColors.j0 k false a0_0 a0_1 a0_2 a0_3 a0_4 a0_5 a0_6 a0_7 a1_0 a1_1 a1_2 a1_3 0 0 0 0))
theorem celluloidlaw14_AffineColors.mono_l : ∀ k, (∀ y0 y1 y2 y3 y4 y5 y6 y7 y8 y9 y10 y11 y12 y13 y14 y15 y16, LeO (celluloidlaw14_AffineColors.j0 k y0 y1 y2 y3 y4 y5 y6 y7 y8 y9 y10 y11 y12 y13 y14 y15 y16) (celluloidlaw14_AffineColors.j0 (k + 1) y0 y1 y2 y3 y4 y5 y6 y7 y8 y9 y10 y11 y12 y13 y14 y15 y16))
  | 0 => fun _ _ _ _ _ _ _ _ _ _ _ _ _ _ _ _ _ r h => by simp [celluloidlaw14_AffineColors.j0] at h
  | k + 1 => by
    have ih0 := celluloidlaw14_AffineColors.mono_l k
    · intro y0 y1 y2 y3 y4 y5 y6 y7 y8 y9 y10 y11 y12 y13 y14 y15 y16
      unfold celluloidlaw14_AffineColors.j0
      repeat' first
      | (with_reducible exact ih0 _ _ _ _ _ _ _ _ _ _ _ _ _ _ _ _ _)
      | (with_reducible exact affine_Color.mono _ _ _ _ _ _ _ _ _ _ _ _ _)
      | (with_reducible exact celluloidlaw14_awake.mono _)
      | (with_reducible exact celluloidref07_Cx.mono _ _ _ _ _ _ _ _ _)
      | (with_reducible exact celluloidref07_RGBA.mono _ _ _ _ _)
      | (with_reducible exact celluloidref14_Color.mono _ _ _ _ _ _ _ _ _ _ _ _ _)
      | (with_reducible exact LeO.refl _)
      | (with_reducible exact LeO.none _)
      | (with_reducible refine LeO.ite ?_ ?_)
      | (with_reducible refine LeO.bind ?_ (fun _ => ?_))
      | exact ih0 _ _ _ _ _ _ _ _ _ _ _ _ _ _ _ _ _
      | exact affine_Color.mono _ _ _ _ _ _ _ _ _ _ _ _ _
      | exact celluloidlaw14_awake.mono _
      | exact celluloidref07_Cx.mono _ _ _ _ _ _ _ _ _
      | exact celluloidref07_RGBA.mono _ _ _ _ _
      | exact celluloidref14_Color.mono _ _ _ _ _ _ _ _ _ _ _ _ _
      | exact LeO.none _
      | refine LeO.ite ?_ ?_
      | refine LeO.bind ?_ (fun _ => ?_)
theorem celluloidlaw14_AffineColors.mono : ∀ a0 a1 a2 a3 a4 a5 a6 a7 a8 a9 a10 a11 k, LeO (celluloidlaw14_AffineColors.f k a0 a1 a2 a3 a4 a5 a6 a7 a8 a9 a10 a11) (celluloidlaw14_AffineColors.f (k + 1) a0 a1 a2 a3 a4 a5 a6 a7 a8 a9 a10 a11) := by
  intro a0 a1 a2 a3 a4 a5 a6 a7 a8 a9 a10 a11 k
  have ih0 := celluloidlaw14_AffineColors.mono_l k
  unfold celluloidlaw14_AffineColors.f
  repeat' first
      | (with_reducible exact ih0 _ _ _ _ _ _ _ _ _ _ _ _ _ _ _ _ _)
      | (with_reducible exact affine_Color.mono _ _ _ _ _ _ _ _ _ _ _ _ _)
      | (with_reducible exact celluloidlaw14_awake.mono _)
      | (with_reducible exact celluloidref07_Cx.mono _ _ _ _ _ _ _ _ _)
      | (with_reducible exact celluloidref07_RGBA.mono _ _ _ _ _)
      | (with_reducible exact celluloidref14_Color.mono _ _ _ _ _ _ _ _ _ _ _ _ _)
      | (with_reducible exact LeO.refl _)
      | (with_reducible exact LeO.none _)
      | (with_reducible refine LeO.ite ?_ ?_)
      | (with_reducible refine LeO.bind ?_ (fun _ => ?_))
      | exact ih0 _ _ _ _ _ _ _ _ _ _ _ _ _ _ _ _ _
      | exact affine_Color.mono _ _ _ _ _ _ _ _ _ _ _ _ _
      | exact celluloidlaw14_awake.mono _
      | exact celluloidref07_Cx.mono _ _ _ _ _ _ _ _ _
      | exact celluloidref07_RGBA.mono _ _ _ _ _
      | exact celluloidref14_Color.mono _ _ _ _ _ _ _ _ _ _ _ _ _
      | exact LeO.none _
      | refine LeO.ite ?_ ?_
      | refine LeO.bind ?_ (fun _ => ?_)
def celluloidlaw14_AffineColors.T4 : Bool × List (List Nat × List Nat) := (true, [([], []), ([], []), ([0, 1], [0, 1]), ([], []), ([2, 3], [2, 3]), ([4, 2], [4]), ([5, 5], [5]), ([5, 6], [5, 6]), ([7, 6, 0, 1, 2, 3, 4, 5, 6, 7], [7])])
def celluloidlaw14_AffineColors.B4 : List Nat := [0, 0, 3, 0, 15, 31, 63, 127, 255]
theorem celluloidlaw14_AffineColors.tab4 : rtab .any (opsOf Try.f6 4) = celluloidlaw14_AffineColors.T4 := by kernel_rfl
theorem celluloidlaw14_AffineColors.bits4 : waitsOk celluloidlaw14_AffineColors.T4.2 celluloidlaw14_AffineColors.B4 = true := by kernel_rfl
set_option maxHeartbeats 8000000 in
set_option maxRecDepth 100000 in
theorem celluloidlaw14_AffineColors.calls (k : Nat) (a0_0 : Int) (a0_1 : Int) (a0_2 : Int) (a0_3 : Int) (a0_4 : Int) (a0_5 : Int) (a0_6 : Int) (a0_7 : Int) (a1_0 : Int) (a1_1 : Int) (a1_2 : Int) (a1_3 : Int) (r : Bool) (w : World) (h : celluloidlaw14_AffineColors.f k a0_0 a0_1 a0_2 a0_3 a0_4 a0_5 a0_6 a0_7 a1_0 a1_1 a1_2 a1_3 = some r) :
    Calls Try.prog 6 #[.agg #[.int .i64 a0_0, .int .i64 a0_1, .int .i64 a0_2, .int .i64 a0_3, .int .i64 a0_4, .int .i64 a0_5, .int .i64 a0_6, .int .i64 a0_7], .agg #[.int .i64 a1_0, .int .i64 a1_1, .int .i64 a1_2, .int .i64 a1_3]] w fun e w' => e = .returned (.bool r) ∧ Below w.heap.size w w' := by
  have hu41 := Try.underlying41
  have hu43 := Try.underlying43
  have HB := Aside0.mk (Below.refl w.heap.size w)
  have H : ((celluloidref07_Cx.f k a0_0 a0_1 a0_2 a0_3 a0_4 a0_5 a0_6 a0_7).bind fun t349 => (if t349 = true then ((celluloidref07_RGBA.f k a1_0 a1_1 a1_2 a1_3).bind fun t350 => (celluloidlaw14_AffineColors.j0 k t350 a0_0 a0_1 a0_2 a0_3 a0_4 a0_5 a0_6 a0_7 a1_0 a1_1 a1_2 a1_3 0 0 0 0)) else (celluloidlaw14_AffineColors.j0 k false a0_0 a0_1 a0_2 a0_3 a0_4 a0_5 a0_6 a0_7 a1_0 a1_1 a1_2 a1_3 0 0 0 0))) = some r := h
  clear h
  have HC3 := Aside0.mk H
  clear H
  go_enter Try.func6, Try.ntmps6
  go_upto_region 2 with (first | ((with_reducible refine gate_dst (N := 2) rfl ?_); refine box_event ?hg (N := 2) ?hd (cs := #[.int .i64 a0_0, .int .i64 a0_1, .int .i64 a0_2, .int .i64 a0_3, .int .i64 a0_4, .int .i64 a0_5, .int .i64 a0_6, .int .i64 a0_7]) (t := 41) ?hr ?_; (case hd => rfl); (case hg => rfl); (case hr => first | (go_simp; done) | (go_simp; rfl)); intro gb346 hg w4 hbox hb; have n0_ := Aside0.mk (below_step (by repeat (first | (with_reducible first | exact HB.out | apply below_alloc | apply pw_below_drewN | apply below_drew1) | exact HB.out)) hb); have n1_ := Aside0.mk (hbox); have n2_ := Aside0.mk ((by rw [hg]; exact (below_size (by repeat (first | (with_reducible first | exact HB.out | apply below_alloc | apply pw_below_drewN | apply below_drew1) | exact HB.out))) : w.heap.size ≤ gb346)); have n3_ := Aside0.mk ((by rw [hg]; exact (below_size (by repeat (first | (with_reducible first | exact HB.out | apply below_alloc | apply pw_below_drewN | apply below_drew1) | exact HB.out))) : w.heap.size ≤ gb346)); clear HB; have HB := n0_; have BK346 := n1_; have GW346 := n2_; have GE346 := n3_; clear n0_ n1_ n2_ n3_; clear hb hbox hg) | ((with_reducible refine gate_dst (N := 3) rfl ?_); refine box_event ?hg (N := 3) ?hd (cs := #[.int .i64 a1_0, .int .i64 a1_1, .int .i64 a1_2, .int .i64 a1_3]) (t := 43) ?hr ?_; (case hd => rfl); (case hg => rfl); (case hr => first | (go_simp; done) | (go_simp; rfl)); intro gb347 hg w5 hbox hb; have n0_ := Aside0.mk (blk_below (g := gb346) (o := .cells #[.int .i64 a0_0, .int .i64 a0_1, .int .i64 a0_2, .int .i64 a0_3, .int .i64 a0_4, .int .i64 a0_5, .int .i64 a0_6, .int .i64 a0_7] 41 (0, 0)) (by (with_reducible repeat (first | refine blk_drewN ?_ _ | refine blk_drew ?_ | refine blk_alloc ?_ _)); exact BK346.out) hb); have n1_ := Aside0.mk (below_step (by repeat (first | (with_reducible first | exact HB.out | apply below_alloc | apply pw_below_drewN | apply below_drew1 | refine below_set ?_ GE346.out) | exact HB.out)) hb); have n2_ := Aside0.mk (hbox); have n3_ := Aside0.mk ((by rw [hg]; exact (below_size (by repeat (first | (with_reducible first | exact HB.out | apply below_alloc | apply pw_below_drewN | apply below_drew1 | refine below_set ?_ GE346.out) | exact HB.out))) : w.heap.size ≤ gb347)); have n4_ := Aside0.mk ((by rw [hg]; exact (below_size (by repeat (first | (with_reducible first | exact HB.out | apply below_alloc | apply pw_below_drewN | apply below_drew1 | refine below_set ?_ GE346.out) | exact HB.out))) : w.heap.size ≤ gb347)); have n5_ := Aside0.mk ((by rw [hg]; exact Nat.ne_of_lt (blk_lt (g := gb346) (o := .cells #[.int .i64 a0_0, .int .i64 a0_1, .int .i64 a0_2, .int .i64 a0_3, .int .i64 a0_4, .int .i64 a0_5, .int .i64 a0_6, .int .i64 a0_7] 41 (0, 0)) (by (with_reducible repeat (first | refine blk_drewN ?_ _ | refine blk_drew ?_ | refine blk_alloc ?_ _)); exact BK346.out)) : gb346 ≠ gb347)); have n6_ := Aside0.mk ((by rw [hg]; exact Nat.ne_of_gt (blk_lt (g := gb346) (o := .cells #[.int .i64 a0_0, .int .i64 a0_1, .int .i64 a0_2, .int .i64 a0_3, .int .i64 a0_4, .int .i64 a0_5, .int .i64 a0_6, .int .i64 a0_7] 41 (0, 0)) (by (with_reducible repeat (first | refine blk_drewN ?_ _ | refine blk_drew ?_ | refine blk_alloc ?_ _)); exact BK346.out)) : gb347 ≠ gb346)); clear BK346; clear HB; have BK346 := n0_; have HB := n1_; have BK347 := n2_; have GW347 := n3_; have GE347 := n4_; have NB346_347 := n5_; have NB347_346 := n6_; clear n0_ n1_ n2_ n3_ n4_ n5_ n6_; clear hb hbox hg) | ((with_reducible refine gate_dst (N := 5) rfl ?_); refine box_event ?hg (N := 5) ?hd (cs := #[.int .i64 0, .int .i64 0, .int .i64 0, .int .i64 0]) (t := 43) ?hr ?_; (case hd => rfl); (case hg => rfl); (case hr => first | (go_simp; done) | (go_simp; rfl)); intro gb348 hg w6 hbox hb; have n0_ := Aside0.mk (blk_below (g := gb346) (o := .cells #[.int .i64 a0_0, .int .i64 a0_1, .int .i64 a0_2, .int .i64 a0_3, .int .i64 a0_4, .int .i64 a0_5, .int .i64 a0_6, .int .i64 a0_7] 41 (0, 0)) (by (with_reducible repeat (first | refine blk_drewN ?_ _ | refine blk_drew ?_ | refine blk_alloc ?_ _)); exact BK346.out) hb); have n1_ := Aside0.mk (blk_below (g := gb347) (o := .cells #[.int .i64 a1_0, .int .i64 a1_1, .int .i64 a1_2, .int .i64 a1_3] 43 (0, 0)) (by (with_reducible repeat (first | refine blk_drewN ?_ _ | refine blk_drew ?_ | refine blk_alloc ?_ _)); exact BK347.out) hb); have n2_ := Aside0.mk (below_step (by repeat (first | (with_reducible first | exact HB.out | apply below_alloc | apply pw_below_drewN | apply below_drew1 | refine below_set ?_ GE346.out | refine below_set ?_ GE347.out) | exact HB.out)) hb); have n3_ := Aside0.mk (hbox); have n4_ := Aside0.mk ((by rw [hg]; exact (below_size (by repeat (first | (with_reducible first | exact HB.out | apply below_alloc | apply pw_below_drewN | apply below_drew1 | refine below_set ?_ GE346.out | refine below_set ?_ GE347.out) | exact HB.out))) : w.heap.size ≤ gb348)); have n5_ := Aside0.mk ((by rw [hg]; exact (below_size (by repeat (first | (with_reducible first | exact HB.out | apply below_alloc | apply pw_below_drewN | apply below_drew1 | refine below_set ?_ GE346.out | refine below_set ?_ GE347.out) | exact HB.out))) : w.heap.size ≤ gb348)); have n6_ := Aside0.mk ((by rw [hg]; exact Nat.ne_of_lt (blk_lt (g := gb346) (o := .cells #[.int .i64 a0_0, .int .i64 a0_1, .int .i64 a0_2, .int .i64 a0_3, .int .i64 a0_4, .int .i64 a0_5, .int .i64 a0_6, .int .i64 a0_7] 41 (0, 0)) (by (with_reducible repeat (first | refine blk_drewN ?_ _ | refine blk_drew ?_ | refine blk_alloc ?_ _)); exact BK346.out)) : gb346 ≠ gb348)); have n7_ := Aside0.mk ((by rw [hg]; exact Nat.ne_of_gt (blk_lt (g := gb346) (o := .cells #[.int .i64 a0_0, .int .i64 a0_1, .int .i64 a0_2, .int .i64 a0_3, .int .i64 a0_4, .int .i64 a0_5, .int .i64 a0_6, .int .i64 a0_7] 41 (0, 0)) (by (with_reducible repeat (first | refine blk_drewN ?_ _ | refine blk_drew ?_ | refine blk_alloc ?_ _)); exact BK346.out)) : gb348 ≠ gb346)); have n8_ := Aside0.mk ((by rw [hg]; exact Nat.ne_of_lt (blk_lt (g := gb347) (o := .cells #[.int .i64 a1_0, .int .i64 a1_1, .int .i64 a1_2, .int .i64 a1_3] 43 (0, 0)) (by (with_reducible repeat (first | refine blk_drewN ?_ _ | refine blk_drew ?_ | refine blk_alloc ?_ _)); exact BK347.out)) : gb347 ≠ gb348)); have n9_ := Aside0.mk ((by rw [hg]; exact Nat.ne_of_gt (blk_lt (g := gb347) (o := .cells #[.int .i64 a1_0, .int .i64 a1_1, .int .i64 a1_2, .int .i64 a1_3] 43 (0, 0)) (by (with_reducible repeat (first | refine blk_drewN ?_ _ | refine blk_drew ?_ | refine blk_alloc ?_ _)); exact BK347.out)) : gb348 ≠ gb347)); clear BK346; clear BK347; clear HB; have BK346 := n0_; have BK347 := n1_; have HB := n2_; have BK348 := n3_; have GW348 := n4_; have GE348 := n5_; have NB346_348 := n6_; have NB348_346 := n7_; have NB347_348 := n8_; have NB348_347 := n9_; clear n0_ n1_ n2_ n3_ n4_ n5_ n6_ n7_ n8_ n9_; clear hb hbox hg; have hnb7 := NB348_346.out; have hnc7 := NB346_348.out; have hnb8 := NB348_347.out; have hnc8 := NB347_348.out; have hcz9_0 : w6.cell? ⟨gb348, 0, none⟩ = some (.int .i64 0) := (blk_cell BK348.out 0).trans rfl; have hcz9_1 : w6.cell? ⟨gb348, 1, none⟩ = some (.int .i64 0) := (blk_cell BK348.out 1).trans rfl; have hcz9_2 : w6.cell? ⟨gb348, 2, none⟩ = some (.int .i64 0) := (blk_cell BK348.out 2).trans rfl; have hcz9_3 : w6.cell? ⟨gb348, 3, none⟩ = some (.int .i64 0) := (blk_cell BK348.out 3).trans rfl; have hfz9_0 := blk_frozen BK348.out 0; have hfz9_1 := blk_frozen BK348.out 1; have hfz9_2 := blk_frozen BK348.out 2; have hfz9_3 := blk_frozen BK348.out 3))
  (try simp only [Act.put, List.setIfInBounds_toArray, List.set_cons_zero, List.set_cons_succ])
  go_cut [12] (fun v12 wc => ∃ (kq : Nat) (x12_2 : Bool), v12 = .bool x12_2 ∧ Aside0 (celluloidlaw14_AffineColors.j0 kq x12_2 a0_0 a0_1 a0_2 a0_3 a0_4 a0_5 a0_6 a0_7 a1_0 a1_1 a1_2 a1_3 0 0 0 0 = some r) ∧ Aside0 (kq ≤ k) ∧ Aside0 (wc.heap[gb346]? = some (.cells #[.int .i64 a0_0, .int .i64 a0_1, .int .i64 a0_2, .int .i64 a0_3, .int .i64 a0_4, .int .i64 a0_5, .int .i64 a0_6, .int .i64 a0_7] 41 (0, 0))) ∧ Aside0 (wc.heap[gb347]? = some (.cells #[.int .i64 a1_0, .int .i64 a1_1, .int .i64 a1_2, .int .i64 a1_3] 43 (0, 0))) ∧ Aside0 (wc.heap[gb348]? = some (.cells #[.int .i64 0, .int .i64 0, .int .i64 0, .int .i64 0] 43 (0, 0))) ∧ Aside0 (Below w.heap.size w wc))
  case first =>
    have H := HC3.out
    clear HC3
    replace H := Option.bind_eq_some_iff.mp H
    obtain ⟨t349, A100, H⟩ := H
    replace H : (if t349 = true then ((celluloidref07_RGBA.f k a1_0 a1_1 a1_2 a1_3).bind fun t350 => (celluloidlaw14_AffineColors.j0 k t350 a0_0 a0_1 a0_2 a0_3 a0_4 a0_5 a0_6 a0_7 a1_0 a1_1 a1_2 a1_3 0 0 0 0)) else (celluloidlaw14_AffineColors.j0 k false a0_0 a0_1 a0_2 a0_3 a0_4 a0_5 a0_6 a0_7 a1_0 a1_1 a1_2 a1_3 0 0 0 0)) = some r := H
    have A10 := Aside0.mk A100
    clear A100
    by_cases c11 : t349 = true
    · subst c11
      have H1 : ((celluloidref07_RGBA.f k a1_0 a1_1 a1_2 a1_3).bind fun t350 => (celluloidlaw14_AffineColors.j0 k t350 a0_0 a0_1 a0_2 a0_3 a0_4 a0_5 a0_6 a0_7 a1_0 a1_1 a1_2 a1_3 0 0 0 0)) = some r := by rw [if_pos rfl] at H; exact H
      clear H
      have H := H1
      clear H1
      replace H := Option.bind_eq_some_iff.mp H
      obtain ⟨t350, A120, H⟩ := H
      replace H : (celluloidlaw14_AffineColors.j0 k t350 a0_0 a0_1 a0_2 a0_3 a0_4 a0_5 a0_6 a0_7 a1_0 a1_1 a1_2 a1_3 0 0 0 0) = some r := H
      have A12 := Aside0.mk A120
      clear A120
      have H' := Aside0.mk H
      clear H
      have hnb13 := NB346_347.out
      have hnc13 := NB347_346.out
      have hnb14 := NB346_348.out
      have hnc14 := NB348_346.out
      have hcz15_0 : w6.cell? ⟨gb346, 0, none⟩ = some (.int .i64 a0_0) := (blk_cell BK346.out 0).trans rfl
      have hcz15_1 : w6.cell? ⟨gb346, 1, none⟩ = some (.int .i64 a0_1) := (blk_cell BK346.out 1).trans rfl
      have hcz15_2 : w6.cell? ⟨gb346, 2, none⟩ = some (.int .i64 a0_2) := (blk_cell BK346.out 2).trans rfl
      have hcz15_3 : w6.cell? ⟨gb346, 3, none⟩ = some (.int .i64 a0_3) := (blk_cell BK346.out 3).trans rfl
      have hcz15_4 : w6.cell? ⟨gb346, 4, none⟩ = some (.int .i64 a0_4) := (blk_cell BK346.out 4).trans rfl
      have hcz15_5 : w6.cell? ⟨gb346, 5, none⟩ = some (.int .i64 a0_5) := (blk_cell BK346.out 5).trans rfl
      have hcz15_6 : w6.cell? ⟨gb346, 6, none⟩ = some (.int .i64 a0_6) := (blk_cell BK346.out 6).trans rfl
      have hcz15_7 : w6.cell? ⟨gb346, 7, none⟩ = some (.int .i64 a0_7) := (blk_cell BK346.out 7).trans rfl
      have hfz15_0 := blk_frozen BK346.out 0
      have hfz15_1 := blk_frozen BK346.out 1
      have hfz15_2 := blk_frozen BK346.out 2
      have hfz15_3 := blk_frozen BK346.out 3
      have hfz15_4 := blk_frozen BK346.out 4
      have hfz15_5 := blk_frozen BK346.out 5
      have hfz15_6 := blk_frozen BK346.out 6
      have hfz15_7 := blk_frozen BK346.out 7
      go_wp2_with (first | ((with_reducible refine gate_callee (f := 21) rfl ?_); refine goesL_ (some 8) rfl rfl Try.func21 (by kernel_rfl) rfl #[.agg #[.int .i64 a0_0, .int .i64 a0_1, .int .i64 a0_2, .int .i64 a0_3, .int .i64 a0_4, .int .i64 a0_5, .int .i64 a0_6, .int .i64 a0_7]] rfl (by (try simp only [List.map_toArray, List.map_cons, List.map_nil]); first | done | rfl | (simp only [List.length_drop, List.length_take]; rfl)) ?_; (with_reducible refine (celluloidref07_Cx.calls k a0_0 a0_1 a0_2 a0_3 a0_4 a0_5 a0_6 a0_7 true _ A10.out).mono ?_); rintro e w16 ⟨rfl, hb⟩; refine ⟨_, rfl, ?_⟩; have n0_ := Aside0.mk (blk_below (g := gb346) (o := .cells #[.int .i64 a0_0, .int .i64 a0_1, .int .i64 a0_2, .int .i64 a0_3, .int .i64 a0_4, .int .i64 a0_5, .int .i64 a0_6, .int .i64 a0_7] 41 (0, 0)) (by (with_reducible repeat (first | refine blk_drewN ?_ _ | refine blk_drew ?_ | refine blk_alloc ?_ _)); refine blk_far ?_ NB346_348.out _; (with_reducible repeat (first | refine blk_drewN ?_ _ | refine blk_drew ?_ | refine blk_alloc ?_ _)); refine blk_far ?_ NB346_348.out _; (with_reducible repeat (first | refine blk_drewN ?_ _ | refine blk_drew ?_ | refine blk_alloc ?_ _)); refine blk_far ?_ NB346_348.out _; (with_reducible repeat (first | refine blk_drewN ?_ _ | refine blk_drew ?_ | refine blk_alloc ?_ _)); refine blk_far ?_ NB346_348.out _; (with_reducible repeat (first | refine blk_drewN ?_ _ | refine blk_drew ?_ | refine blk_alloc ?_ _)); exact BK346.out) hb); have n1_ := Aside0.mk (blk_below (g := gb347) (o := .cells #[.int .i64 a1_0, .int .i64 a1_1, .int .i64 a1_2, .int .i64 a1_3] 43 (0, 0)) (by (with_reducible repeat (first | refine blk_drewN ?_ _ | refine blk_drew ?_ | refine blk_alloc ?_ _)); refine blk_far ?_ NB347_348.out _; (with_reducible repeat (first | refine blk_drewN ?_ _ | refine blk_drew ?_ | refine blk_alloc ?_ _)); refine blk_far ?_ NB347_348.out _; (with_reducible repeat (first | refine blk_drewN ?_ _ | refine blk_drew ?_ | refine blk_alloc ?_ _)); refine blk_far ?_ NB347_348.out _; (with_reducible repeat (first | refine blk_drewN ?_ _ | refine blk_drew ?_ | refine blk_alloc ?_ _)); refine blk_far ?_ NB347_348.out _; (with_reducible repeat (first | refine blk_drewN ?_ _ | refine blk_drew ?_ | refine blk_alloc ?_ _)); exact BK347.out) hb); have n2_ := Aside0.mk (blk_below (g := gb348) (o := .cells #[.int .i64 0, .int .i64 0, .int .i64 0, .int .i64 0] 43 (0, 0)) (by (with_reducible repeat (first | refine blk_drewN ?_ _ | refine blk_drew ?_ | refine blk_alloc ?_ _)); refine blk_put (cs := #[.int .i64 0, .int .i64 0, .int .i64 0, .int .i64 0]) ?_ 3 _ rfl; (with_reducible repeat (first | refine blk_drewN ?_ _ | refine blk_drew ?_ | refine blk_alloc ?_ _)); refine blk_put (cs := #[.int .i64 0, .int .i64 0, .int .i64 0, .int .i64 0]) ?_ 2 _ rfl; (with_reducible repeat (first | refine blk_drewN ?_ _ | refine blk_drew ?_ | refine blk_alloc ?_ _)); refine blk_put (cs := #[.int .i64 0, .int .i64 0, .int .i64 0, .int .i64 0]) ?_ 1 _ rfl; (with_reducible repeat (first | refine blk_drewN ?_ _ | refine blk_drew ?_ | refine blk_alloc ?_ _)); refine blk_put (cs := #[.int .i64 0, .int .i64 0, .int .i64 0, .int .i64 0]) ?_ 0 _ rfl; (with_reducible repeat (first | refine blk_drewN ?_ _ | refine blk_drew ?_ | refine blk_alloc ?_ _)); exact BK348.out) hb); have n3_ := Aside0.mk (below_step (by repeat (first | (with_reducible first | exact HB.out | apply below_alloc | apply pw_below_drewN | apply below_drew1 | refine below_set ?_ GE346.out | refine below_set ?_ GE347.out | refine below_set ?_ GE348.out) | exact HB.out)) hb); clear BK346; clear BK347; clear BK348; clear HB; have BK346 := n0_; have BK347 := n1_; have BK348 := n2_; have HB := n3_; clear n0_ n1_ n2_ n3_; (try clear hb); (try clear hb2); (try clear hk); (try clear hi); have hnb17 := NB347_348.out; have hnc17 := NB348_347.out; have hcz18_0 : w16.cell? ⟨gb347, 0, none⟩ = some (.int .i64 a1_0) := (blk_cell BK347.out 0).trans rfl; have hcz18_1 : w16.cell? ⟨gb347, 1, none⟩ = some (.int .i64 a1_1) := (blk_cell BK347.out 1).trans rfl; have hcz18_2 : w16.cell? ⟨gb347, 2, none⟩ = some (.int .i64 a1_2) := (blk_cell BK347.out 2).trans rfl; have hcz18_3 : w16.cell? ⟨gb347, 3, none⟩ = some (.int .i64 a1_3) := (blk_cell BK347.out 3).trans rfl; have hfz18_0 := blk_frozen BK347.out 0; have hfz18_1 := blk_frozen BK347.out 1; have hfz18_2 := blk_frozen BK347.out 2; have hfz18_3 := blk_frozen BK347.out 3) | (go_at_call 22; (with_reducible refine (celluloidref07_RGBA.calls k a1_0 a1_1 a1_2 a1_3 t350 _ A12.out).mono ?_); rintro e w19 ⟨rfl, hb⟩; have n0_ := Aside0.mk (blk_below (g := gb346) (o := .cells #[.int .i64 a0_0, .int .i64 a0_1, .int .i64 a0_2, .int .i64 a0_3, .int .i64 a0_4, .int .i64 a0_5, .int .i64 a0_6, .int .i64 a0_7] 41 (0, 0)) (by (with_reducible repeat (first | refine blk_drewN ?_ _ | refine blk_drew ?_ | refine blk_alloc ?_ _)); exact BK346.out) hb); have n1_ := Aside0.mk (blk_below (g := gb347) (o := .cells #[.int .i64 a1_0, .int .i64 a1_1, .int .i64 a1_2, .int .i64 a1_3] 43 (0, 0)) (by (with_reducible repeat (first | refine blk_drewN ?_ _ | refine blk_drew ?_ | refine blk_alloc ?_ _)); exact BK347.out) hb); have n2_ := Aside0.mk (blk_below (g := gb348) (o := .cells #[.int .i64 0, .int .i64 0, .int .i64 0, .int .i64 0] 43 (0, 0)) (by (with_reducible repeat (first | refine blk_drewN ?_ _ | refine blk_drew ?_ | refine blk_alloc ?_ _)); exact BK348.out) hb); have n3_ := Aside0.mk (below_step (by repeat (first | (with_reducible first | exact HB.out | apply below_alloc | apply pw_below_drewN | apply below_drew1 | refine below_set ?_ GE346.out | refine below_set ?_ GE347.out | refine below_set ?_ GE348.out) | exact HB.out)) hb); clear BK346; clear BK347; clear BK348; clear HB; have BK346 := n0_; have BK347 := n1_; have BK348 := n2_; have HB := n3_; clear n0_ n1_ n2_ n3_; (try clear hb); (try clear hb2); (try clear hk); (try clear hi)))
      go_meet
      case rel => exact ⟨_, (t350), (by first | rfl | (simp; done) | (simp [*]; done)), H', ⟨by first | omega | exact Nat.le_refl _⟩, ⟨by (with_reducible repeat (first | refine blk_drewN ?_ _ | refine blk_drew ?_ | refine blk_alloc ?_ _)); exact BK346.out⟩, ⟨by (with_reducible repeat (first | refine blk_drewN ?_ _ | refine blk_drew ?_ | refine blk_alloc ?_ _)); exact BK347.out⟩, ⟨by (with_reducible repeat (first | refine blk_drewN ?_ _ | refine blk_drew ?_ | refine blk_alloc ?_ _)); exact BK348.out⟩, ⟨by repeat (first | (with_reducible first | exact HB.out | apply below_alloc | apply pw_below_drewN | apply below_drew1 | refine below_set ?_ GE346.out | refine below_set ?_ GE347.out | refine below_set ?_ GE348.out) | exact HB.out)⟩⟩
    · replace c11 := Bool.eq_false_iff.mpr c11
      subst c11
      have H1 : (celluloidlaw14_AffineColors.j0 k false a0_0 a0_1 a0_2 a0_3 a0_4 a0_5 a0_6 a0_7 a1_0 a1_1 a1_2 a1_3 0 0 0 0) = some r := by rw [if_neg (show ¬ (false = true) by decide)] at H; exact H
      clear H
      have H := H1
      clear H1
      have H' := Aside0.mk H
      clear H
      have hnb20 := NB346_347.out
      have hnc20 := NB347_346.out
      have hnb21 := NB346_348.out
      have hnc21 := NB348_346.out
      have hcz22_0 : w6.cell? ⟨gb346, 0, none⟩ = some (.int .i64 a0_0) := (blk_cell BK346.out 0).trans rfl
      have hcz22_1 : w6.cell? ⟨gb346, 1, none⟩ = some (.int .i64 a0_1) := (blk_cell BK346.out 1).trans rfl
      have hcz22_2 : w6.cell? ⟨gb346, 2, none⟩ = some (.int .i64 a0_2) := (blk_cell BK346.out 2).trans rfl
      have hcz22_3 : w6.cell? ⟨gb346, 3, none⟩ = some (.int .i64 a0_3) := (blk_cell BK346.out 3).trans rfl
      have hcz22_4 : w6.cell? ⟨gb346, 4, none⟩ = some (.int .i64 a0_4) := (blk_cell BK346.out 4).trans rfl
      have hcz22_5 : w6.cell? ⟨gb346, 5, none⟩ = some (.int .i64 a0_5) := (blk_cell BK346.out 5).trans rfl
      have hcz22_6 : w6.cell? ⟨gb346, 6, none⟩ = some (.int .i64 a0_6) := (blk_cell BK346.out 6).trans rfl
      have hcz22_7 : w6.cell? ⟨gb346, 7, none⟩ = some (.int .i64 a0_7) := (blk_cell BK346.out 7).trans rfl
      have hfz22_0 := blk_frozen BK346.out 0
      have hfz22_1 := blk_frozen BK346.out 1
      have hfz22_2 := blk_frozen BK346.out 2
      have hfz22_3 := blk_frozen BK346.out 3
      have hfz22_4 := blk_frozen BK346.out 4
      have hfz22_5 := blk_frozen BK346.out 5
      have hfz22_6 := blk_frozen BK346.out 6
      have hfz22_7 := blk_frozen BK346.out 7
      go_wp2_with (first | ((with_reducible refine gate_callee (f := 21) rfl ?_); refine goesL_ (some 8) rfl rfl Try.func21 (by kernel_rfl) rfl #[.agg #[.int .i64 a0_0, .int .i64 a0_1, .int .i64 a0_2, .int .i64 a0_3, .int .i64 a0_4, .int .i64 a0_5, .int .i64 a0_6, .int .i64 a0_7]] rfl (by (try simp only [List.map_toArray, List.map_cons, List.map_nil]); first | done | rfl | (simp only [List.length_drop, List.length_take]; rfl)) ?_; (with_reducible refine (celluloidref07_Cx.calls k a0_0 a0_1 a0_2 a0_3 a0_4 a0_5 a0_6 a0_7 false _ A10.out).mono ?_); rintro e w23 ⟨rfl, hb⟩; refine ⟨_, rfl, ?_⟩; have n0_ := Aside0.mk (blk_below (g := gb346) (o := .cells #[.int .i64 a0_0, .int .i64 a0_1, .int .i64 a0_2, .int .i64 a0_3, .int .i64 a0_4, .int .i64 a0_5, .int .i64 a0_6, .int .i64 a0_7] 41 (0, 0)) (by (with_reducible repeat (first | refine blk_drewN ?_ _ | refine blk_drew ?_ | refine blk_alloc ?_ _)); refine blk_far ?_ NB346_348.out _; (with_reducible repeat (first | refine blk_drewN ?_ _ | refine blk_drew ?_ | refine blk_alloc ?_ _)); refine blk_far ?_ NB346_348.out _; (with_reducible repeat (first | refine blk_drewN ?_ _ | refine blk_drew ?_ | refine blk_alloc ?_ _)); refine blk_far ?_ NB346_348.out _; (with_reducible repeat (first | refine blk_drewN ?_ _ | refine blk_drew ?_ | refine blk_alloc ?_ _)); refine blk_far ?_ NB346_348.out _; (with_reducible repeat (first | refine blk_drewN ?_ _ | refine blk_drew ?_ | refine blk_alloc ?_ _)); exact BK346.out) hb); have n1_ := Aside0.mk (blk_below (g := gb347) (o := .cells #[.int .i64 a1_0, .int .i64 a1_1, .int .i64 a1_2, .int .i64 a1_3] 43 (0, 0)) (by (with_reducible repeat (first | refine blk_drewN ?_ _ | refine blk_drew ?_ | refine blk_alloc ?_ _)); refine blk_far ?_ NB347_348.out _; (with_reducible repeat (first | refine blk_drewN ?_ _ | refine blk_drew ?_ | refine blk_alloc ?_ _)); refine blk_far ?_ NB347_348.out _; (with_reducible repeat (first | refine blk_drewN ?_ _ | refine blk_drew ?_ | refine blk_alloc ?_ _)); refine blk_far ?_ NB347_348.out _; (with_reducible repeat (first | refine blk_drewN ?_ _ | refine blk_drew ?_ | refine blk_alloc ?_ _)); refine blk_far ?_ NB347_348.out _; (with_reducible repeat (first | refine blk_drewN ?_ _ | refine blk_drew ?_ | refine blk_alloc ?_ _)); exact BK347.out) hb); have n2_ := Aside0.mk (blk_below (g := gb348) (o := .cells #[.int .i64 0, .int .i64 0, .int .i64 0, .int .i64 0] 43 (0, 0)) (by (with_reducible repeat (first | refine blk_drewN ?_ _ | refine blk_drew ?_ | refine blk_alloc ?_ _)); refine blk_put (cs := #[.int .i64 0, .int .i64 0, .int .i64 0, .int .i64 0]) ?_ 3 _ rfl; (with_reducible repeat (first | refine blk_drewN ?_ _ | refine blk_drew ?_ | refine blk_alloc ?_ _)); refine blk_put (cs := #[.int .i64 0, .int .i64 0, .int .i64 0, .int .i64 0]) ?_ 2 _ rfl; (with_reducible repeat (first | refine blk_drewN ?_ _ | refine blk_drew ?_ | refine blk_alloc ?_ _)); refine blk_put (cs := #[.int .i64 0, .int .i64 0, .int .i64 0, .int .i64 0]) ?_ 1 _ rfl; (with_reducible repeat (first | refine blk_drewN ?_ _ | refine blk_drew ?_ | refine blk_alloc ?_ _)); refine blk_put (cs := #[.int .i64 0, .int .i64 0, .int .i64 0, .int .i64 0]) ?_ 0 _ rfl; (with_reducible repeat (first | refine blk_drewN ?_ _ | refine blk_drew ?_ | refine blk_alloc ?_ _)); exact BK348.out) hb); have n3_ := Aside0.mk (below_step (by repeat (first | (with_reducible first | exact HB.out | apply below_alloc | apply pw_below_drewN | apply below_drew1 | refine below_set ?_ GE346.out | refine below_set ?_ GE347.out | refine below_set ?_ GE348.out) | exact HB.out)) hb); clear BK346; clear BK347; clear BK348; clear HB; have BK346 := n0_; have BK347 := n1_; have BK348 := n2_; have HB := n3_; clear n0_ n1_ n2_ n3_; (try clear hb); (try clear hb2); (try clear hk); (try clear hi)))
      go_meet
      case rel => exact ⟨_, (false), (by first | rfl | (simp; done) | (simp [*]; done)), H', ⟨by first | omega | exact Nat.le_refl _⟩, ⟨by (with_reducible repeat (first | refine blk_drewN ?_ _ | refine blk_drew ?_ | refine blk_alloc ?_ _)); exact BK346.out⟩, ⟨by (with_reducible repeat (first | refine blk_drewN ?_ _ | refine blk_drew ?_ | refine blk_alloc ?_ _)); exact BK347.out⟩, ⟨by (with_reducible repeat (first | refine blk_drewN ?_ _ | refine blk_drew ?_ | refine blk_alloc ?_ _)); exact BK348.out⟩, ⟨by repeat (first | (with_reducible first | exact HB.out | apply below_alloc | apply pw_below_drewN | apply below_drew1 | refine below_set ?_ GE346.out | refine below_set ?_ GE347.out | refine below_set ?_ GE348.out) | exact HB.out)⟩⟩
  case rest =>
    clear HC3
    try clear c1
    try clear c2
    try clear p2
    try clear c6
    try clear c7
    try clear c8
    try clear c11
    try clear c13
    try clear c14
    try clear c17
    try clear c20
    try clear c21
    try clear hcz15_0
    try clear hcz15_1
    try clear hcz15_2
    try clear hcz15_3
    try clear hcz15_4
    try clear hcz15_5
    try clear hcz15_6
    try clear hcz15_7
    try clear hcz18_0
    try clear hcz18_1
    try clear hcz18_2
    try clear hcz18_3
    try clear hcz22_0
    try clear hcz22_1
    try clear hcz22_2
    try clear hcz22_3
    try clear hcz22_4
    try clear hcz22_5
    try clear hcz22_6
    try clear hcz22_7
    try clear hcz9_0
    try clear hcz9_1
    try clear hcz9_2
    try clear hcz9_3
    try clear hfz15_0
    try clear hfz15_1
    try clear hfz15_2
    try clear hfz15_3
    try clear hfz15_4
    try clear hfz15_5
    try clear hfz15_6
    try clear hfz15_7
    try clear hfz18_0
    try clear hfz18_1
    try clear hfz18_2
    try clear hfz18_3
    try clear hfz22_0
    try clear hfz22_1
    try clear hfz22_2
    try clear hfz22_3
    try clear hfz22_4
    try clear hfz22_5
    try clear hfz22_6
    try clear hfz22_7
    try clear hfz9_0
    try clear hfz9_1
    try clear hfz9_2
    try clear hfz9_3
    obtain ⟨kq, x12_2, rfl, HA, HJ2, BK346, BK347, BK348, HB⟩ := hcut
    cases kq with
    | zero => exact absurd HA.out (by simp [celluloidlaw14_AffineColors.j0])
    | succ kj2 =>
      have H := HA.out
      clear HA
      simp only [celluloidlaw14_AffineColors.j0] at H
      by_cases c24 : x12_2 = true
      · subst c24
        have H1 : ((celluloidref14_Color.f kj2 a0_0 a0_1 a0_2 a0_3 a0_4 a0_5 a0_6 a0_7 a1_0 a1_1 a1_2 a1_3).bind fun bt351 => ((affine_Color.f kj2 a0_0 a0_1 a0_2 a0_3 a0_4 a0_5 a0_6 a0_7 a1_0 a1_1 a1_2 a1_3).bind fun bt355 => (if (bt355.1 == bt351.1 && (bt355.2.1 == bt351.2.1 && (bt355.2.2.1 == bt351.2.2.1 && (bt355.2.2.2 == bt351.2.2.2)))) = true then ((celluloidlaw14_awake.f kj2).bind fun t359 => (some t359)) else (some false)))) = some r := by rw [if_pos rfl] at H; exact H
        clear H
        have H := H1
        clear H1
        replace H := Option.bind_eq_some_iff.mp H
        obtain ⟨⟨t351, t352, t353, t354⟩, A250, H⟩ := H
        replace H : ((affine_Color.f kj2 a0_0 a0_1 a0_2 a0_3 a0_4 a0_5 a0_6 a0_7 a1_0 a1_1 a1_2 a1_3).bind fun bt355 => (if (bt355.1 == t351 && (bt355.2.1 == t352 && (bt355.2.2.1 == t353 && (bt355.2.2.2 == t354)))) = true then ((celluloidlaw14_awake.f kj2).bind fun t359 => (some t359)) else (some false))) = some r := H
        have A25 := Aside0.mk A250
        clear A250
        replace H := Option.bind_eq_some_iff.mp H
        obtain ⟨⟨t355, t356, t357, t358⟩, A260, H⟩ := H
        replace H : (if (t355 == t351 && (t356 == t352 && (t357 == t353 && (t358 == t354)))) = true then ((celluloidlaw14_awake.f kj2).bind fun t359 => (some t359)) else (some false)) = some r := H
        have A26 := Aside0.mk A260
        clear A260
        by_cases c27 : (t355 == t351 && (t356 == t352 && (t357 == t353 && (t358 == t354)))) = true
        · rw [if_pos c27] at H
          have c27b0 : (t355 == t351 && (t356 == t352 && (t357 == t353 && (t358 == t354)))) = true := c27
          (try (have c27b1 : decide (t355 = t351 && (t356 == t352 && (t357 == t353 && (t358 == t354)))) = true := by simpa using c27))
          (try (have c27b2 : (t355 == t351 && (t356 == t352 && (t357 == t353 && (t358 == t354)))) = true := by simpa using c27))
          clear c27
          replace H := Option.bind_eq_some_iff.mp H
          obtain ⟨t359, A280, H⟩ := H
          replace H : (some t359) = some r := H
          have A28 := Aside0.mk A280
          clear A280
          obtain rfl := Option.some.inj H
          have hnb29 := NB346_347.out
          have hnc29 := NB347_346.out
          have hnb30 := NB346_348.out
          have hnc30 := NB348_346.out
          have hcz31_0 : wc.cell? ⟨gb346, 0, none⟩ = some (.int .i64 a0_0) := (blk_cell BK346.out 0).trans rfl
          have hcz31_1 : wc.cell? ⟨gb346, 1, none⟩ = some (.int .i64 a0_1) := (blk_cell BK346.out 1).trans rfl
          have hcz31_2 : wc.cell? ⟨gb346, 2, none⟩ = some (.int .i64 a0_2) := (blk_cell BK346.out 2).trans rfl
          have hcz31_3 : wc.cell? ⟨gb346, 3, none⟩ = some (.int .i64 a0_3) := (blk_cell BK346.out 3).trans rfl
          have hcz31_4 : wc.cell? ⟨gb346, 4, none⟩ = some (.int .i64 a0_4) := (blk_cell BK346.out 4).trans rfl
          have hcz31_5 : wc.cell? ⟨gb346, 5, none⟩ = some (.int .i64 a0_5) := (blk_cell BK346.out 5).trans rfl
          have hcz31_6 : wc.cell? ⟨gb346, 6, none⟩ = some (.int .i64 a0_6) := (blk_cell BK346.out 6).trans rfl
          have hcz31_7 : wc.cell? ⟨gb346, 7, none⟩ = some (.int .i64 a0_7) := (blk_cell BK346.out 7).trans rfl
          have hfz31_0 := blk_frozen BK346.out 0
          have hfz31_1 := blk_frozen BK346.out 1
          have hfz31_2 := blk_frozen BK346.out 2
          have hfz31_3 := blk_frozen BK346.out 3
          have hfz31_4 := blk_frozen BK346.out 4
          have hfz31_5 := blk_frozen BK346.out 5
          have hfz31_6 := blk_frozen BK346.out 6
          have hfz31_7 := blk_frozen BK346.out 7
          have hnb32 := NB347_348.out
          have hnc32 := NB348_347.out
          have hcz33_0 : wc.cell? ⟨gb347, 0, none⟩ = some (.int .i64 a1_0) := (blk_cell BK347.out 0).trans rfl
          have hcz33_1 : wc.cell? ⟨gb347, 1, none⟩ = some (.int .i64 a1_1) := (blk_cell BK347.out 1).trans rfl
          have hcz33_2 : wc.cell? ⟨gb347, 2, none⟩ = some (.int .i64 a1_2) := (blk_cell BK347.out 2).trans rfl
          have hcz33_3 : wc.cell? ⟨gb347, 3, none⟩ = some (.int .i64 a1_3) := (blk_cell BK347.out 3).trans rfl
          have hfz33_0 := blk_frozen BK347.out 0
          have hfz33_1 := blk_frozen BK347.out 1
          have hfz33_2 := blk_frozen BK347.out 2
          have hfz33_3 := blk_frozen BK347.out 3
          try go_wp2_with (first | ((with_reducible refine gate_callee (f := 23) rfl ?_); refine goesL_ (some 15) rfl rfl Try.func23 (by kernel_rfl) rfl #[.agg #[.int .i64 a0_0, .int .i64 a0_1, .int .i64 a0_2, .int .i64 a0_3, .int .i64 a0_4, .int .i64 a0_5, .int .i64 a0_6, .int .i64 a0_7], .agg #[.int .i64 a1_0, .int .i64 a1_1, .int .i64 a1_2, .int .i64 a1_3]] rfl (by (try simp only [List.map_toArray, List.map_cons, List.map_nil]); first | done | rfl | (simp only [List.length_drop, List.length_take]; rfl)) ?_; (with_reducible refine (celluloidref14_Color.calls kj2 a0_0 a0_1 a0_2 a0_3 a0_4 a0_5 a0_6 a0_7 a1_0 a1_1 a1_2 a1_3 t351 t352 t353 t354 _ A25.out).mono ?_); rintro e w34 ⟨rfl, hb⟩; refine ⟨_, rfl, ?_⟩; have n0_ := Aside0.mk (blk_below (g := gb346) (o := .cells #[.int .i64 a0_0, .int .i64 a0_1, .int .i64 a0_2, .int .i64 a0_3, .int .i64 a0_4, .int .i64 a0_5, .int .i64 a0_6, .int .i64 a0_7] 41 (0, 0)) (by (with_reducible repeat (first | refine blk_drewN ?_ _ | refine blk_drew ?_ | refine blk_alloc ?_ _)); exact BK346.out) hb); have n1_ := Aside0.mk (blk_below (g := gb347) (o := .cells #[.int .i64 a1_0, .int .i64 a1_1, .int .i64 a1_2, .int .i64 a1_3] 43 (0, 0)) (by (with_reducible repeat (first | refine blk_drewN ?_ _ | refine blk_drew ?_ | refine blk_alloc ?_ _)); exact BK347.out) hb); have n2_ := Aside0.mk (blk_below (g := gb348) (o := .cells #[.int .i64 0, .int .i64 0, .int .i64 0, .int .i64 0] 43 (0, 0)) (by (with_reducible repeat (first | refine blk_drewN ?_ _ | refine blk_drew ?_ | refine blk_alloc ?_ _)); exact BK348.out) hb); have n3_ := Aside0.mk (below_step (by repeat (first | (with_reducible first | exact HB.out | apply below_alloc | apply pw_below_drewN | apply below_drew1 | refine below_set ?_ GE346.out | refine below_set ?_ GE347.out | refine below_set ?_ GE348.out) | exact HB.out)) hb); clear BK346; clear BK347; clear BK348; clear HB; have BK346 := n0_; have BK347 := n1_; have BK348 := n2_; have HB := n3_; clear n0_ n1_ n2_ n3_; (try clear hb); (try clear hb2); (try clear hk); (try clear hi); have hcz35_0 : w34.cell? ⟨gb348, 0, none⟩ = some (.int .i64 0) := (blk_cell BK348.out 0).trans rfl; have hcz35_1 : w34.cell? ⟨gb348, 1, none⟩ = some (.int .i64 0) := (blk_cell BK348.out 1).trans rfl; have hcz35_2 : w34.cell? ⟨gb348, 2, none⟩ = some (.int .i64 0) := (blk_cell BK348.out 2).trans rfl; have hcz35_3 : w34.cell? ⟨gb348, 3, none⟩ = some (.int .i64 0) := (blk_cell BK348.out 3).trans rfl; have hfz35_0 := blk_frozen BK348.out 0; have hfz35_1 := blk_frozen BK348.out 1; have hfz35_2 := blk_frozen BK348.out 2; have hfz35_3 := blk_frozen BK348.out 3))
          have n0_ : Aside0 (((((w34.setCell ⟨gb348, 0, none⟩ (.int .i64 t351)).setCell ⟨gb348, 1, none⟩ (.int .i64 t352)).setCell ⟨gb348, 2, none⟩ (.int .i64 t353)).setCell ⟨gb348, 3, none⟩ (.int .i64 t354)).heap[gb346]? = some (.cells #[.int .i64 a0_0, .int .i64 a0_1, .int .i64 a0_2, .int .i64 a0_3, .int .i64 a0_4, .int .i64 a0_5, .int .i64 a0_6, .int .i64 a0_7] 41 (0, 0))) := ⟨by (with_reducible repeat (first | refine blk_drewN ?_ _ | refine blk_drew ?_ | refine blk_alloc ?_ _)); refine blk_far ?_ NB346_348.out _; (with_reducible repeat (first | refine blk_drewN ?_ _ | refine blk_drew ?_ | refine blk_alloc ?_ _)); refine blk_far ?_ NB346_348.out _; (with_reducible repeat (first | refine blk_drewN ?_ _ | refine blk_drew ?_ | refine blk_alloc ?_ _)); refine blk_far ?_ NB346_348.out _; (with_reducible repeat (first | refine blk_drewN ?_ _ | refine blk_drew ?_ | refine blk_alloc ?_ _)); refine blk_far ?_ NB346_348.out _; (with_reducible repeat (first | refine blk_drewN ?_ _ | refine blk_drew ?_ | refine blk_alloc ?_ _)); exact BK346.out⟩
          have n1_ : Aside0 (((((w34.setCell ⟨gb348, 0, none⟩ (.int .i64 t351)).setCell ⟨gb348, 1, none⟩ (.int .i64 t352)).setCell ⟨gb348, 2, none⟩ (.int .i64 t353)).setCell ⟨gb348, 3, none⟩ (.int .i64 t354)).heap[gb347]? = some (.cells #[.int .i64 a1_0, .int .i64 a1_1, .int .i64 a1_2, .int .i64 a1_3] 43 (0, 0))) := ⟨by (with_reducible repeat (first | refine blk_drewN ?_ _ | refine blk_drew ?_ | refine blk_alloc ?_ _)); refine blk_far ?_ NB347_348.out _; (with_reducible repeat (first | refine blk_drewN ?_ _ | refine blk_drew ?_ | refine blk_alloc ?_ _)); refine blk_far ?_ NB347_348.out _; (with_reducible repeat (first | refine blk_drewN ?_ _ | refine blk_drew ?_ | refine blk_alloc ?_ _)); refine blk_far ?_ NB347_348.out _; (with_reducible repeat (first | refine blk_drewN ?_ _ | refine blk_drew ?_ | refine blk_alloc ?_ _)); refine blk_far ?_ NB347_348.out _; (with_reducible repeat (first | refine blk_drewN ?_ _ | refine blk_drew ?_ | refine blk_alloc ?_ _)); exact BK347.out⟩
          have n2_ : Aside0 (((((w34.setCell ⟨gb348, 0, none⟩ (.int .i64 t351)).setCell ⟨gb348, 1, none⟩ (.int .i64 t352)).setCell ⟨gb348, 2, none⟩ (.int .i64 t353)).setCell ⟨gb348, 3, none⟩ (.int .i64 t354)).heap[gb348]? = some (.cells #[.int .i64 t351, .int .i64 t352, .int .i64 t353, .int .i64 t354] 43 (0, 0))) := ⟨by (with_reducible repeat (first | refine blk_drewN ?_ _ | refine blk_drew ?_ | refine blk_alloc ?_ _)); refine blk_put (cs := #[.int .i64 t351, .int .i64 t352, .int .i64 t353, .int .i64 0]) ?_ 3 _ rfl; (with_reducible repeat (first | refine blk_drewN ?_ _ | refine blk_drew ?_ | refine blk_alloc ?_ _)); refine blk_put (cs := #[.int .i64 t351, .int .i64 t352, .int .i64 0, .int .i64 0]) ?_ 2 _ rfl; (with_reducible repeat (first | refine blk_drewN ?_ _ | refine blk_drew ?_ | refine blk_alloc ?_ _)); refine blk_put (cs := #[.int .i64 t351, .int .i64 0, .int .i64 0, .int .i64 0]) ?_ 1 _ rfl; (with_reducible repeat (first | refine blk_drewN ?_ _ | refine blk_drew ?_ | refine blk_alloc ?_ _)); refine blk_put (cs := #[.int .i64 0, .int .i64 0, .int .i64 0, .int .i64 0]) ?_ 0 _ rfl; (with_reducible repeat (first | refine blk_drewN ?_ _ | refine blk_drew ?_ | refine blk_alloc ?_ _)); exact BK348.out⟩
          have n3_ : Aside0 (Below w.heap.size w ((((w34.setCell ⟨gb348, 0, none⟩ (.int .i64 t351)).setCell ⟨gb348, 1, none⟩ (.int .i64 t352)).setCell ⟨gb348, 2, none⟩ (.int .i64 t353)).setCell ⟨gb348, 3, none⟩ (.int .i64 t354))) := ⟨by repeat (first | (with_reducible first | exact HB.out | apply below_alloc | apply pw_below_drewN | apply below_drew1 | refine below_set ?_ GE346.out | refine below_set ?_ GE347.out | refine below_set ?_ GE348.out) | exact HB.out)⟩
          (try clear BK346)
          (try clear BK347)
          (try clear BK348)
          (try clear HB)
          generalize ((((w34.setCell ⟨gb348, 0, none⟩ (.int .i64 t351)).setCell ⟨gb348, 1, none⟩ (.int .i64 t352)).setCell ⟨gb348, 2, none⟩ (.int .i64 t353)).setCell ⟨gb348, 3, none⟩ (.int .i64 t354)) = w36 at n0_ n1_ n2_ n3_ ⊢
          have BK346 := n0_
          have BK347 := n1_
          have BK348 := n2_
          have HB := n3_
          clear n0_ n1_ n2_ n3_
          have n0_ := Aside0.mk (blk_drew BK346.out)
          have n1_ := Aside0.mk (blk_drew BK347.out)
          have n2_ := Aside0.mk (blk_drew BK348.out)
          have n3_ := Aside0.mk (below_drew1 HB.out)
          clear BK346
          clear BK347
          clear BK348
          clear HB
          have BK346 := n0_
          have BK347 := n1_
          have BK348 := n2_
          have HB := n3_
          clear n0_ n1_ n2_ n3_
          refine start_ (n := 9) (S := fun w' => w'.cell? ⟨gb346, 0, none⟩ = some (.int .i64 a0_0) ∧ w'.cell? ⟨gb346, 1, none⟩ = some (.int .i64 a0_1) ∧ w'.cell? ⟨gb346, 2, none⟩ = some (.int .i64 a0_2) ∧ w'.cell? ⟨gb346, 3, none⟩ = some (.int .i64 a0_3) ∧ w'.cell? ⟨gb346, 4, none⟩ = some (.int .i64 a0_4) ∧ w'.cell? ⟨gb346, 5, none⟩ = some (.int .i64 a0_5) ∧ w'.cell? ⟨gb346, 6, none⟩ = some (.int .i64 a0_6) ∧ w'.cell? ⟨gb346, 7, none⟩ = some (.int .i64 a0_7) ∧ w'.cell? ⟨gb347, 0, none⟩ = some (.int .i64 a1_0) ∧ w'.cell? ⟨gb347, 1, none⟩ = some (.int .i64 a1_1) ∧ w'.cell? ⟨gb347, 2, none⟩ = some (.int .i64 a1_2) ∧ w'.cell? ⟨gb347, 3, none⟩ = some (.int .i64 a1_3) ∧ w'.cell? ⟨gb348, 0, none⟩ = some (.int .i64 t351) ∧ w'.cell? ⟨gb348, 1, none⟩ = some (.int .i64 t352) ∧ w'.cell? ⟨gb348, 2, none⟩ = some (.int .i64 t353) ∧ w'.cell? ⟨gb348, 3, none⟩ = some (.int .i64 t354)) (ds := []) #[false, false, false, false, false, false, false, false, false] (by kernel_rfl) rfl rfl ⟨(blk_cell BK346.out 0).trans rfl, (blk_cell BK346.out 1).trans rfl, (blk_cell BK346.out 2).trans rfl, (blk_cell BK346.out 3).trans rfl, (blk_cell BK346.out 4).trans rfl, (blk_cell BK346.out 5).trans rfl, (blk_cell BK346.out 6).trans rfl, (blk_cell BK346.out 7).trans rfl, (blk_cell BK347.out 0).trans rfl, (blk_cell BK347.out 1).trans rfl, (blk_cell BK347.out 2).trans rfl, (blk_cell BK347.out 3).trans rfl, (blk_cell BK348.out 0).trans rfl, (blk_cell BK348.out 1).trans rfl, (blk_cell BK348.out 2).trans rfl, (blk_cell BK348.out 3).trans rfl⟩ (fun hHeld => ?_); refine with_tabW celluloidlaw14_AffineColors.tab4 celluloidlaw14_AffineColors.bits4 (fun HT_ HW_ => ?_)
          generalize w36.drew = w37 at BK346 BK347 BK348 HB hHeld ⊢
          refine take_ (i := 0) (N := some 16) (v := ?_) (a' := ?_) #[true, false, false, false, false, false, false, false, false] rfl rfl (take_ofW HT_.out HW_.out (by kernel_rfl)) (fun _ _ _ h => h) (Or.inl ⟨by rfl, ?_⟩) hHeld ?_ ?_
          rotate_left
          · rintro w' ⟨s0, s1, s2, s3, s4, s5, s6, s7, s8, s9, s10, s11, s12, s13, s14, s15⟩
            go_simp
            with_reducible rfl
          rotate_left
          · simp only [Act.put, List.setIfInBounds_toArray, List.set_cons_zero, List.set_cons_succ, i64_w, i32_w]
            rfl
          refine take_ (i := 1) (N := some 17) (v := ?_) (a' := ?_) #[true, true, false, false, false, false, false, false, false] rfl rfl (take_ofW HT_.out HW_.out (by kernel_rfl)) (fun _ _ _ h => h) (Or.inl ⟨by rfl, ?_⟩) hHeld ?_ ?_
          rotate_left
          · rintro w' ⟨s0, s1, s2, s3, s4, s5, s6, s7, s8, s9, s10, s11, s12, s13, s14, s15⟩
            go_simp
            with_reducible rfl
          rotate_left
          · simp only [Act.put, List.setIfInBounds_toArray, List.set_cons_zero, List.set_cons_succ, i64_w, i32_w]
            rfl
          refine take_ (i := 3) (N := some 19) (v := ?_) (a' := ?_) #[true, true, false, true, false, false, false, false, false] rfl rfl (take_ofW HT_.out HW_.out (by kernel_rfl)) (fun _ _ _ h => h) (Or.inl ⟨by rfl, ?_⟩) hHeld ?_ ?_
          rotate_left
          · rintro w' ⟨s0, s1, s2, s3, s4, s5, s6, s7, s8, s9, s10, s11, s12, s13, s14, s15⟩
            go_simp
            with_reducible rfl
          rotate_left
          · simp only [Act.put, List.setIfInBounds_toArray, List.set_cons_zero, List.set_cons_succ, i64_w, i32_w]
            rfl
          refine one_ (i := 2) (N := some 18) #[true, true, true, true, false, false, false, false, false] rfl rfl (one_of HT_.out (by kernel_rfl)) (by decide) (fun K hK => ?_)
          refine goes_ Try.func24 (by kernel_rfl) rfl #[.agg #[.int .i64 a0_0, .int .i64 a0_1, .int .i64 a0_2, .int .i64 a0_3, .int .i64 a0_4, .int .i64 a0_5, .int .i64 a0_6, .int .i64 a0_7], .agg #[.int .i64 a1_0, .int .i64 a1_1, .int .i64 a1_2, .int .i64 a1_3]] (by rfl) rfl rfl (by (try simp only [List.map_toArray, List.map_cons, List.map_nil]); first | done | rfl | (simp only [List.length_drop, List.length_take]; rfl)) ?_
          with_reducible refine (affine_Color.calls kj2 a0_0 a0_1 a0_2 a0_3 a0_4 a0_5 a0_6 a0_7 a1_0 a1_1 a1_2 a1_3 t355 t356 t357 t358 _ A26.out).mono ?_
          rintro e w38 ⟨rfl, hb⟩
          refine ⟨_, rfl, ?_⟩
          have n0_ := Aside0.mk (blk_below (g := gb346) (o := .cells #[.int .i64 a0_0, .int .i64 a0_1, .int .i64 a0_2, .int .i64 a0_3, .int .i64 a0_4, .int .i64 a0_5, .int .i64 a0_6, .int .i64 a0_7] 41 (0, 0)) (by (with_reducible repeat (first | refine blk_drewN ?_ _ | refine blk_drew ?_ | refine blk_alloc ?_ _)); exact BK346.out) hb)
          have n1_ := Aside0.mk (blk_below (g := gb347) (o := .cells #[.int .i64 a1_0, .int .i64 a1_1, .int .i64 a1_2, .int .i64 a1_3] 43 (0, 0)) (by (with_reducible repeat (first | refine blk_drewN ?_ _ | refine blk_drew ?_ | refine blk_alloc ?_ _)); exact BK347.out) hb)
          have n2_ := Aside0.mk (blk_below (g := gb348) (o := .cells #[.int .i64 t351, .int .i64 t352, .int .i64 t353, .int .i64 t354] 43 (0, 0)) (by (with_reducible repeat (first | refine blk_drewN ?_ _ | refine blk_drew ?_ | refine blk_alloc ?_ _)); exact BK348.out) hb)
          have n3_ := Aside0.mk (below_step (by repeat (first | (with_reducible first | exact HB.out | apply below_alloc | apply pw_below_drewN | apply below_drew1 | refine below_set ?_ GE346.out | refine below_set ?_ GE347.out | refine below_set ?_ GE348.out) | exact HB.out)) hb)
          clear BK346
          clear BK347
          clear BK348
          clear HB
          have BK346 := n0_
          have BK347 := n1_
          have BK348 := n2_
          have HB := n3_
          clear n0_ n1_ n2_ n3_
          (try clear hb)
          (try clear hb2)
          (try clear hk)
          (try clear hi)
          refine hK.out _ _ ⟨(blk_cell BK346.out 0).trans rfl, (blk_cell BK346.out 1).trans rfl, (blk_cell BK346.out 2).trans rfl, (blk_cell BK346.out 3).trans rfl, (blk_cell BK346.out 4).trans rfl, (blk_cell BK346.out 5).trans rfl, (blk_cell BK346.out 6).trans rfl, (blk_cell BK346.out 7).trans rfl, (blk_cell BK347.out 0).trans rfl, (blk_cell BK347.out 1).trans rfl, (blk_cell BK347.out 2).trans rfl, (blk_cell BK347.out 3).trans rfl, (blk_cell BK348.out 0).trans rfl, (blk_cell BK348.out 1).trans rfl, (blk_cell BK348.out 2).trans rfl, (blk_cell BK348.out 3).trans rfl⟩ (fun hHeld => ?_)
          clear hK K
          refine norm_ (a' := ?_) ?_ ?_
          rotate_left
          · show Act.put _ (some 18) _ = _
            simp only [Act.put, List.setIfInBounds_toArray, List.set_cons_zero, List.set_cons_succ, i64_w, i32_w]
            rfl
          refine pure_ (i := 4) (N := some 20) (v := ?_) (a' := ?_) #[true, true, true, true, true, false, false, false, false] rfl rfl (any_of HT_.out (by kernel_rfl)) (fun _ _ _ h => h) (Or.inl ⟨by rfl, ?_⟩) ?_ ?_
          rotate_left
          · intro w'
            go_simp
            with_reducible rfl
          rotate_left
          · simp only [Act.put, List.setIfInBounds_toArray, List.set_cons_zero, List.set_cons_succ, i64_w, i32_w]
            rfl
          refine pure_ (i := 5) (N := some 21) (v := ?_) (a' := ?_) #[true, true, true, true, true, true, false, false, false] rfl rfl (any_of HT_.out (by kernel_rfl)) (fun _ _ _ h => h) (Or.inl ⟨by rfl, ?_⟩) ?_ ?_
          rotate_left
          · intro w'
            go_simp
            with_reducible rfl
          rotate_left
          · simp only [Act.put, List.setIfInBounds_toArray, List.set_cons_zero, List.set_cons_succ, i64_w, i32_w]
            rfl
          refine one_ (i := 6) (N := some 22) #[true, true, true, true, true, true, true, false, false] rfl rfl (one_of HT_.out (by kernel_rfl)) (by decide) (fun K hK => ?_)
          refine goes_ Try.func14 (by kernel_rfl) rfl #[] (by rfl) rfl rfl (by (try simp only [List.map_toArray, List.map_cons, List.map_nil]); first | done | rfl | (simp only [List.length_drop, List.length_take]; rfl)) ?_
          with_reducible refine (celluloidlaw14_awake.calls kj2  t359 _ A28.out).mono ?_
          rintro e w39 ⟨rfl, hb⟩
          refine ⟨_, rfl, ?_⟩
          have n0_ := Aside0.mk (blk_below (g := gb346) (o := .cells #[.int .i64 a0_0, .int .i64 a0_1, .int .i64 a0_2, .int .i64 a0_3, .int .i64 a0_4, .int .i64 a0_5, .int .i64 a0_6, .int .i64 a0_7] 41 (0, 0)) (by (with_reducible repeat (first | refine blk_drewN ?_ _ | refine blk_drew ?_ | refine blk_alloc ?_ _)); exact BK346.out) hb)
          have n1_ := Aside0.mk (blk_below (g := gb347) (o := .cells #[.int .i64 a1_0, .int .i64 a1_1, .int .i64 a1_2, .int .i64 a1_3] 43 (0, 0)) (by (with_reducible repeat (first | refine blk_drewN ?_ _ | refine blk_drew ?_ | refine blk_alloc ?_ _)); exact BK347.out) hb)
          have n2_ := Aside0.mk (blk_below (g := gb348) (o := .cells #[.int .i64 t351, .int .i64 t352, .int .i64 t353, .int .i64 t354] 43 (0, 0)) (by (with_reducible repeat (first | refine blk_drewN ?_ _ | refine blk_drew ?_ | refine blk_alloc ?_ _)); exact BK348.out) hb)
          have n3_ := Aside0.mk (below_step (by repeat (first | (with_reducible first | exact HB.out | apply below_alloc | apply pw_below_drewN | apply below_drew1 | refine below_set ?_ GE346.out | refine below_set ?_ GE347.out | refine below_set ?_ GE348.out) | exact HB.out)) hb)
          clear BK346
          clear BK347
          clear BK348
          clear HB
          have BK346 := n0_
          have BK347 := n1_
          have BK348 := n2_
          have HB := n3_
          clear n0_ n1_ n2_ n3_
          (try clear hb)
          (try clear hb2)
          (try clear hk)
          (try clear hi)
          refine hK.out _ _ ⟨(blk_cell BK346.out 0).trans rfl, (blk_cell BK346.out 1).trans rfl, (blk_cell BK346.out 2).trans rfl, (blk_cell BK346.out 3).trans rfl, (blk_cell BK346.out 4).trans rfl, (blk_cell BK346.out 5).trans rfl, (blk_cell BK346.out 6).trans rfl, (blk_cell BK346.out 7).trans rfl, (blk_cell BK347.out 0).trans rfl, (blk_cell BK347.out 1).trans rfl, (blk_cell BK347.out 2).trans rfl, (blk_cell BK347.out 3).trans rfl, (blk_cell BK348.out 0).trans rfl, (blk_cell BK348.out 1).trans rfl, (blk_cell BK348.out 2).trans rfl, (blk_cell BK348.out 3).trans rfl⟩ (fun hHeld => ?_)
          clear hK K
          refine norm_ (a' := ?_) ?_ ?_
          rotate_left
          · show Act.put _ (some 22) _ = _
            simp only [Act.put, List.setIfInBounds_toArray, List.set_cons_zero, List.set_cons_succ, i64_w, i32_w]
            rfl
          refine pure_ (i := 7) (N := some 23) (v := ?_) (a' := ?_) #[true, true, true, true, true, true, true, true, false] rfl rfl (any_of HT_.out (by kernel_rfl)) (fun _ _ _ h => h) (Or.inl ⟨by rfl, ?_⟩) ?_ ?_
          rotate_left
          · intro w'
            go_simp
            with_reducible rfl
          rotate_left
          · simp only [Act.put, List.setIfInBounds_toArray, List.set_cons_zero, List.set_cons_succ, i64_w, i32_w]
            rfl
          refine pure_ (i := 8) (N := some 4) (v := ?_) (a' := ?_) #[true, true, true, true, true, true, true, true, true] rfl rfl (any_of HT_.out (by kernel_rfl)) (fun _ _ _ h => h) (Or.inl ⟨by rfl, ?_⟩) ?_ ?_
          rotate_left
          · intro w'
            go_simp
            with_reducible rfl
          rotate_left
          · simp only [Act.put, List.setIfInBounds_toArray, List.set_cons_zero, List.set_cons_succ, i64_w, i32_w]
            rfl
          refine done_ (done_of HT_.out (by kernel_rfl)) ?_
          try go_wp2
          go_ret
          exact ⟨by first | rfl | (simp [errW_none, errW_some] <;> rfl) | (simp [*, errW_none, errW_some] <;> rfl), by repeat (first | (with_reducible first | exact HB.out | apply below_alloc | apply pw_below_drewN | apply below_drew1 | refine below_set ?_ GE346.out | refine below_set ?_ GE347.out | refine below_set ?_ GE348.out) | exact HB.out)⟩
        · rw [if_neg c27] at H
          have c27b0 : (t355 == t351 && (t356 == t352 && (t357 == t353 && (t358 == t354)))) = false := by simpa using c27
          (try (have c27b1 : decide (t355 = t351 && (t356 == t352 && (t357 == t353 && (t358 == t354)))) = false := by simpa using c27))
          (try (have c27b2 : (t355 == t351 && (t356 == t352 && (t357 == t353 && (t358 == t354)))) = false := by simpa using c27))
          (try (have c27b3 : ¬ (t355 = t351 && (t356 == t352 && (t357 == t353 && (t358 == t354)))) := by simpa using c27))
          clear c27
          obtain rfl := Option.some.inj H
          have hnb40 := NB346_347.out
          have hnc40 := NB347_346.out
          have hnb41 := NB346_348.out
          have hnc41 := NB348_346.out
          have hcz42_0 : wc.cell? ⟨gb346, 0, none⟩ = some (.int .i64 a0_0) := (blk_cell BK346.out 0).trans rfl
          have hcz42_1 : wc.cell? ⟨gb346, 1, none⟩ = some (.int .i64 a0_1) := (blk_cell BK346.out 1).trans rfl
          have hcz42_2 : wc.cell? ⟨gb346, 2, none⟩ = some (.int .i64 a0_2) := (blk_cell BK346.out 2).trans rfl
          have hcz42_3 : wc.cell? ⟨gb346, 3, none⟩ = some (.int .i64 a0_3) := (blk_cell BK346.out 3).trans rfl
          have hcz42_4 : wc.cell? ⟨gb346, 4, none⟩ = some (.int .i64 a0_4) := (blk_cell BK346.out 4).trans rfl
          have hcz42_5 : wc.cell? ⟨gb346, 5, none⟩ = some (.int .i64 a0_5) := (blk_cell BK346.out 5).trans rfl
          have hcz42_6 : wc.cell? ⟨gb346, 6, none⟩ = some (.int .i64 a0_6) := (blk_cell BK346.out 6).trans rfl
          have hcz42_7 : wc.cell? ⟨gb346, 7, none⟩ = some (.int .i64 a0_7) := (blk_cell BK346.out 7).trans rfl
          have hfz42_0 := blk_frozen BK346.out 0
          have hfz42_1 := blk_frozen BK346.out 1
          have hfz42_2 := blk_frozen BK346.out 2
          have hfz42_3 := blk_frozen BK346.out 3
          have hfz42_4 := blk_frozen BK346.out 4
          have hfz42_5 := blk_frozen BK346.out 5
          have hfz42_6 := blk_frozen BK346.out 6
          have hfz42_7 := blk_frozen BK346.out 7
          have hnb43 := NB347_348.out
          have hnc43 := NB348_347.out
          have hcz44_0 : wc.cell? ⟨gb347, 0, none⟩ = some (.int .i64 a1_0) := (blk_cell BK347.out 0).trans rfl
          have hcz44_1 : wc.cell? ⟨gb347, 1, none⟩ = some (.int .i64 a1_1) := (blk_cell BK347.out 1).trans rfl
          have hcz44_2 : wc.cell? ⟨gb347, 2, none⟩ = some (.int .i64 a1_2) := (blk_cell BK347.out 2).trans rfl
          have hcz44_3 : wc.cell? ⟨gb347, 3, none⟩ = some (.int .i64 a1_3) := (blk_cell BK347.out 3).trans rfl
          have hfz44_0 := blk_frozen BK347.out 0
          have hfz44_1 := blk_frozen BK347.out 1
          have hfz44_2 := blk_frozen BK347.out 2
          have hfz44_3 := blk_frozen BK347.out 3
          try go_wp2_with (first | ((with_reducible refine gate_callee (f := 23) rfl ?_); refine goesL_ (some 15) rfl rfl Try.func23 (by kernel_rfl) rfl #[.agg #[.int .i64 a0_0, .int .i64 a0_1, .int .i64 a0_2, .int .i64 a0_3, .int .i64 a0_4, .int .i64 a0_5, .int .i64 a0_6, .int .i64 a0_7], .agg #[.int .i64 a1_0, .int .i64 a1_1, .int .i64 a1_2, .int .i64 a1_3]] rfl (by (try simp only [List.map_toArray, List.map_cons, List.map_nil]); first | done | rfl | (simp only [List.length_drop, List.length_take]; rfl)) ?_; (with_reducible refine (celluloidref14_Color.calls kj2 a0_0 a0_1 a0_2 a0_3 a0_4 a0_5 a0_6 a0_7 a1_0 a1_1 a1_2 a1_3 t351 t352 t353 t354 _ A25.out).mono ?_); rintro e w45 ⟨rfl, hb⟩; refine ⟨_, rfl, ?_⟩; have n0_ := Aside0.mk (blk_below (g := gb346) (o := .cells #[.int .i64 a0_0, .int .i64 a0_1, .int .i64 a0_2, .int .i64 a0_3, .int .i64 a0_4, .int .i64 a0_5, .int .i64 a0_6, .int .i64 a0_7] 41 (0, 0)) (by (with_reducible repeat (first | refine blk_drewN ?_ _ | refine blk_drew ?_ | refine blk_alloc ?_ _)); exact BK346.out) hb); have n1_ := Aside0.mk (blk_below (g := gb347) (o := .cells #[.int .i64 a1_0, .int .i64 a1_1, .int .i64 a1_2, .int .i64 a1_3] 43 (0, 0)) (by (with_reducible repeat (first | refine blk_drewN ?_ _ | refine blk_drew ?_ | refine blk_alloc ?_ _)); exact BK347.out) hb); have n2_ := Aside0.mk (blk_below (g := gb348) (o := .cells #[.int .i64 0, .int .i64 0, .int .i64 0, .int .i64 0] 43 (0, 0)) (by (with_reducible repeat (first | refine blk_drewN ?_ _ | refine blk_drew ?_ | refine blk_alloc ?_ _)); exact BK348.out) hb); have n3_ := Aside0.mk (below_step (by repeat (first | (with_reducible first | exact HB.out | apply below_alloc | apply pw_below_drewN | apply below_drew1 | refine below_set ?_ GE346.out | refine below_set ?_ GE347.out | refine below_set ?_ GE348.out) | exact HB.out)) hb); clear BK346; clear BK347; clear BK348; clear HB; have BK346 := n0_; have BK347 := n1_; have BK348 := n2_; have HB := n3_; clear n0_ n1_ n2_ n3_; (try clear hb); (try clear hb2); (try clear hk); (try clear hi); have hcz46_0 : w45.cell? ⟨gb348, 0, none⟩ = some (.int .i64 0) := (blk_cell BK348.out 0).trans rfl; have hcz46_1 : w45.cell? ⟨gb348, 1, none⟩ = some (.int .i64 0) := (blk_cell BK348.out 1).trans rfl; have hcz46_2 : w45.cell? ⟨gb348, 2, none⟩ = some (.int .i64 0) := (blk_cell BK348.out 2).trans rfl; have hcz46_3 : w45.cell? ⟨gb348, 3, none⟩ = some (.int .i64 0) := (blk_cell BK348.out 3).trans rfl; have hfz46_0 := blk_frozen BK348.out 0; have hfz46_1 := blk_frozen BK348.out 1; have hfz46_2 := blk_frozen BK348.out 2; have hfz46_3 := blk_frozen BK348.out 3))
          have n0_ : Aside0 (((((w45.setCell ⟨gb348, 0, none⟩ (.int .i64 t351)).setCell ⟨gb348, 1, none⟩ (.int .i64 t352)).setCell ⟨gb348, 2, none⟩ (.int .i64 t353)).setCell ⟨gb348, 3, none⟩ (.int .i64 t354)).heap[gb346]? = some (.cells #[.int .i64 a0_0, .int .i64 a0_1, .int .i64 a0_2, .int .i64 a0_3, .int .i64 a0_4, .int .i64 a0_5, .int .i64 a0_6, .int .i64 a0_7] 41 (0, 0))) := ⟨by (with_reducible repeat (first | refine blk_drewN ?_ _ | refine blk_drew ?_ | refine blk_alloc ?_ _)); refine blk_far ?_ NB346_348.out _; (with_reducible repeat (first | refine blk_drewN ?_ _ | refine blk_drew ?_ | refine blk_alloc ?_ _)); refine blk_far ?_ NB346_348.out _; (with_reducible repeat (first | refine blk_drewN ?_ _ | refine blk_drew ?_ | refine blk_alloc ?_ _)); refine blk_far ?_ NB346_348.out _; (with_reducible repeat (first | refine blk_drewN ?_ _ | refine blk_drew ?_ | refine blk_alloc ?_ _)); refine blk_far ?_ NB346_348.out _; (with_reducible repeat (first | refine blk_drewN ?_ _ | refine blk_drew ?_ | refine blk_alloc ?_ _)); exact BK346.out⟩
          have n1_ : Aside0 (((((w45.setCell ⟨gb348, 0, none⟩ (.int .i64 t351)).setCell ⟨gb348, 1, none⟩ (.int .i64 t352)).setCell ⟨gb348, 2, none⟩ (.int .i64 t353)).setCell ⟨gb348, 3, none⟩ (.int .i64 t354)).heap[gb347]? = some (.cells #[.int .i64 a1_0, .int .i64 a1_1, .int .i64 a1_2, .int .i64 a1_3] 43 (0, 0))) := ⟨by (with_reducible repeat (first | refine blk_drewN ?_ _ | refine blk_drew ?_ | refine blk_alloc ?_ _)); refine blk_far ?_ NB347_348.out _; (with_reducible repeat (first | refine blk_drewN ?_ _ | refine blk_drew ?_ | refine blk_alloc ?_ _)); refine blk_far ?_ NB347_348.out _; (with_reducible repeat (first | refine blk_drewN ?_ _ | refine blk_drew ?_ | refine blk_alloc ?_ _)); refine blk_far ?_ NB347_348.out _; (with_reducible repeat (first | refine blk_drewN ?_ _ | refine blk_drew ?_ | refine blk_alloc ?_ _)); refine blk_far ?_ NB347_348.out _; (with_reducible repeat (first | refine blk_drewN ?_ _ | refine blk_drew ?_ | refine blk_alloc ?_ _)); exact BK347.out⟩
          have n2_ : Aside0 (((((w45.setCell ⟨gb348, 0, none⟩ (.int .i64 t351)).setCell ⟨gb348, 1, none⟩ (.int .i64 t352)).setCell ⟨gb348, 2, none⟩ (.int .i64 t353)).setCell ⟨gb348, 3, none⟩ (.int .i64 t354)).heap[gb348]? = some (.cells #[.int .i64 t351, .int .i64 t352, .int .i64 t353, .int .i64 t354] 43 (0, 0))) := ⟨by (with_reducible repeat (first | refine blk_drewN ?_ _ | refine blk_drew ?_ | refine blk_alloc ?_ _)); refine blk_put (cs := #[.int .i64 t351, .int .i64 t352, .int .i64 t353, .int .i64 0]) ?_ 3 _ rfl; (with_reducible repeat (first | refine blk_drewN ?_ _ | refine blk_drew ?_ | refine blk_alloc ?_ _)); refine blk_put (cs := #[.int .i64 t351, .int .i64 t352, .int .i64 0, .int .i64 0]) ?_ 2 _ rfl; (with_reducible repeat (first | refine blk_drewN ?_ _ | refine blk_drew ?_ | refine blk_alloc ?_ _)); refine blk_put (cs := #[.int .i64 t351, .int .i64 0, .int .i64 0, .int .i64 0]) ?_ 1 _ rfl; (with_reducible repeat (first | refine blk_drewN ?_ _ | refine blk_drew ?_ | refine blk_alloc ?_ _)); refine blk_put (cs := #[.int .i64 0, .int .i64 0, .int .i64 0, .int .i64 0]) ?_ 0 _ rfl; (with_reducible repeat (first | refine blk_drewN ?_ _ | refine blk_drew ?_ | refine blk_alloc ?_ _)); exact BK348.out⟩
          have n3_ : Aside0 (Below w.heap.size w ((((w45.setCell ⟨gb348, 0, none⟩ (.int .i64 t351)).setCell ⟨gb348, 1, none⟩ (.int .i64 t352)).setCell ⟨gb348, 2, none⟩ (.int .i64 t353)).setCell ⟨gb348, 3, none⟩ (.int .i64 t354))) := ⟨by repeat (first | (with_reducible first | exact HB.out | apply below_alloc | apply pw_below_drewN | apply below_drew1 | refine below_set ?_ GE346.out | refine below_set ?_ GE347.out | refine below_set ?_ GE348.out) | exact HB.out)⟩
          (try clear BK346)
          (try clear BK347)
          (try clear BK348)
          (try clear HB)
          generalize ((((w45.setCell ⟨gb348, 0, none⟩ (.int .i64 t351)).setCell ⟨gb348, 1, none⟩ (.int .i64 t352)).setCell ⟨gb348, 2, none⟩ (.int .i64 t353)).setCell ⟨gb348, 3, none⟩ (.int .i64 t354)) = w47 at n0_ n1_ n2_ n3_ ⊢
          have BK346 := n0_
          have BK347 := n1_
          have BK348 := n2_
          have HB := n3_
          clear n0_ n1_ n2_ n3_
          have n0_ := Aside0.mk (blk_drew BK346.out)
          have n1_ := Aside0.mk (blk_drew BK347.out)
          have n2_ := Aside0.mk (blk_drew BK348.out)
          have n3_ := Aside0.mk (below_drew1 HB.out)
          clear BK346
          clear BK347
          clear BK348
          clear HB
          have BK346 := n0_
          have BK347 := n1_
          have BK348 := n2_
          have HB := n3_
          clear n0_ n1_ n2_ n3_
          refine start_ (n := 9) (S := fun w' => w'.cell? ⟨gb346, 0, none⟩ = some (.int .i64 a0_0) ∧ w'.cell? ⟨gb346, 1, none⟩ = some (.int .i64 a0_1) ∧ w'.cell? ⟨gb346, 2, none⟩ = some (.int .i64 a0_2) ∧ w'.cell? ⟨gb346, 3, none⟩ = some (.int .i64 a0_3) ∧ w'.cell? ⟨gb346, 4, none⟩ = some (.int .i64 a0_4) ∧ w'.cell? ⟨gb346, 5, none⟩ = some (.int .i64 a0_5) ∧ w'.cell? ⟨gb346, 6, none⟩ = some (.int .i64 a0_6) ∧ w'.cell? ⟨gb346, 7, none⟩ = some (.int .i64 a0_7) ∧ w'.cell? ⟨gb347, 0, none⟩ = some (.int .i64 a1_0) ∧ w'.cell? ⟨gb347, 1, none⟩ = some (.int .i64 a1_1) ∧ w'.cell? ⟨gb347, 2, none⟩ = some (.int .i64 a1_2) ∧ w'.cell? ⟨gb347, 3, none⟩ = some (.int .i64 a1_3) ∧ w'.cell? ⟨gb348, 0, none⟩ = some (.int .i64 t351) ∧ w'.cell? ⟨gb348, 1, none⟩ = some (.int .i64 t352) ∧ w'.cell? ⟨gb348, 2, none⟩ = some (.int .i64 t353) ∧ w'.cell? ⟨gb348, 3, none⟩ = some (.int .i64 t354)) (ds := []) #[false, false, false, false, false, false, false, false, false] (by kernel_rfl) rfl rfl ⟨(blk_cell BK346.out 0).trans rfl, (blk_cell BK346.out 1).trans rfl, (blk_cell BK346.out 2).trans rfl, (blk_cell BK346.out 3).trans rfl, (blk_cell BK346.out 4).trans rfl, (blk_cell BK346.out 5).trans rfl, (blk_cell BK346.out 6).trans rfl, (blk_cell BK346.out 7).trans rfl, (blk_cell BK347.out 0).trans rfl, (blk_cell BK347.out 1).trans rfl, (blk_cell BK347.out 2).trans rfl, (blk_cell BK347.out 3).trans rfl, (blk_cell BK348.out 0).trans rfl, (blk_cell BK348.out 1).trans rfl, (blk_cell BK348.out 2).trans rfl, (blk_cell BK348.out 3).trans rfl⟩ (fun hHeld => ?_); refine with_tabW celluloidlaw14_AffineColors.tab4 celluloidlaw14_AffineColors.bits4 (fun HT_ HW_ => ?_)
          generalize w47.drew = w48 at BK346 BK347 BK348 HB hHeld ⊢
          refine take_ (i := 0) (N := some 16) (v := ?_) (a' := ?_) #[true, false, false, false, false, false, false, false, false] rfl rfl (take_ofW HT_.out HW_.out (by kernel_rfl)) (fun _ _ _ h => h) (Or.inl ⟨by rfl, ?_⟩) hHeld ?_ ?_
          rotate_left
          · rintro w' ⟨s0, s1, s2, s3, s4, s5, s6, s7, s8, s9, s10, s11, s12, s13, s14, s15⟩
            go_simp
            with_reducible rfl
          rotate_left
          · simp only [Act.put, List.setIfInBounds_toArray, List.set_cons_zero, List.set_cons_succ, i64_w, i32_w]
            rfl
          refine take_ (i := 1) (N := some 17) (v := ?_) (a' := ?_) #[true, true, false, false, false, false, false, false, false] rfl rfl (take_ofW HT_.out HW_.out (by kernel_rfl)) (fun _ _ _ h => h) (Or.inl ⟨by rfl, ?_⟩) hHeld ?_ ?_
          rotate_left
          · rintro w' ⟨s0, s1, s2, s3, s4, s5, s6, s7, s8, s9, s10, s11, s12, s13, s14, s15⟩
            go_simp
            with_reducible rfl
          rotate_left
          · simp only [Act.put, List.setIfInBounds_toArray, List.set_cons_zero, List.set_cons_succ, i64_w, i32_w]
            rfl
          refine take_ (i := 3) (N := some 19) (v := ?_) (a' := ?_) #[true, true, false, true, false, false, false, false, false] rfl rfl (take_ofW HT_.out HW_.out (by kernel_rfl)) (fun _ _ _ h => h) (Or.inl ⟨by rfl, ?_⟩) hHeld ?_ ?_
          rotate_left
          · rintro w' ⟨s0, s1, s2, s3, s4, s5, s6, s7, s8, s9, s10, s11, s12, s13, s14, s15⟩
            go_simp
            with_reducible rfl
          rotate_left
          · simp only [Act.put, List.setIfInBounds_toArray, List.set_cons_zero, List.set_cons_succ, i64_w, i32_w]
            rfl
          refine one_ (i := 2) (N := some 18) #[true, true, true, true, false, false, false, false, false] rfl rfl (one_of HT_.out (by kernel_rfl)) (by decide) (fun K hK => ?_)
          refine goes_ Try.func24 (by kernel_rfl) rfl #[.agg #[.int .i64 a0_0, .int .i64 a0_1, .int .i64 a0_2, .int .i64 a0_3, .int .i64 a0_4, .int .i64 a0_5, .int .i64 a0_6, .int .i64 a0_7], .agg #[.int .i64 a1_0, .int .i64 a1_1, .int .i64 a1_2, .int .i64 a1_3]] (by rfl) rfl rfl (by (try simp only [List.map_toArray, List.map_cons, List.map_nil]); first | done | rfl | (simp only [List.length_drop, List.length_take]; rfl)) ?_
          with_reducible refine (affine_Color.calls kj2 a0_0 a0_1 a0_2 a0_3 a0_4 a0_5 a0_6 a0_7 a1_0 a1_1 a1_2 a1_3 t355 t356 t357 t358 _ A26.out).mono ?_
          rintro e w49 ⟨rfl, hb⟩
          refine ⟨_, rfl, ?_⟩
          have n0_ := Aside0.mk (blk_below (g := gb346) (o := .cells #[.int .i64 a0_0, .int .i64 a0_1, .int .i64 a0_2, .int .i64 a0_3, .int .i64 a0_4, .int .i64 a0_5, .int .i64 a0_6, .int .i64 a0_7] 41 (0, 0)) (by (with_reducible repeat (first | refine blk_drewN ?_ _ | refine blk_drew ?_ | refine blk_alloc ?_ _)); exact BK346.out) hb)
          have n1_ := Aside0.mk (blk_below (g := gb347) (o := .cells #[.int .i64 a1_0, .int .i64 a1_1, .int .i64 a1_2, .int .i64 a1_3] 43 (0, 0)) (by (with_reducible repeat (first | refine blk_drewN ?_ _ | refine blk_drew ?_ | refine blk_alloc ?_ _)); exact BK347.out) hb)
          have n2_ := Aside0.mk (blk_below (g := gb348) (o := .cells #[.int .i64 t351, .int .i64 t352, .int .i64 t353, .int .i64 t354] 43 (0, 0)) (by (with_reducible repeat (first | refine blk_drewN ?_ _ | refine blk_drew ?_ | refine blk_alloc ?_ _)); exact BK348.out) hb)
          have n3_ := Aside0.mk (below_step (by repeat (first | (with_reducible first | exact HB.out | apply below_alloc | apply pw_below_drewN | apply below_drew1 | refine below_set ?_ GE346.out | refine below_set ?_ GE347.out | refine below_set ?_ GE348.out) | exact HB.out)) hb)
          clear BK346
          clear BK347
          clear BK348
          clear HB
          have BK346 := n0_
          have BK347 := n1_
          have BK348 := n2_
          have HB := n3_
          clear n0_ n1_ n2_ n3_
          (try clear hb)
          (try clear hb2)
          (try clear hk)
          (try clear hi)
          refine hK.out _ _ ⟨(blk_cell BK346.out 0).trans rfl, (blk_cell BK346.out 1).trans rfl, (blk_cell BK346.out 2).trans rfl, (blk_cell BK346.out 3).trans rfl, (blk_cell BK346.out 4).trans rfl, (blk_cell BK346.out 5).trans rfl, (blk_cell BK346.out 6).trans rfl, (blk_cell BK346.out 7).trans rfl, (blk_cell BK347.out 0).trans rfl, (blk_cell BK347.out 1).trans rfl, (blk_cell BK347.out 2).trans rfl, (blk_cell BK347.out 3).trans rfl, (blk_cell BK348.out 0).trans rfl, (blk_cell BK348.out 1).trans rfl, (blk_cell BK348.out 2).trans rfl, (blk_cell BK348.out 3).trans rfl⟩ (fun hHeld => ?_)
          clear hK K
          refine norm_ (a' := ?_) ?_ ?_
          rotate_left
          · show Act.put _ (some 18) _ = _
            simp only [Act.put, List.setIfInBounds_toArray, List.set_cons_zero, List.set_cons_succ, i64_w, i32_w]
            rfl
          refine pure_ (i := 4) (N := some 20) (v := ?_) (a' := ?_) #[true, true, true, true, true, false, false, false, false] rfl rfl (any_of HT_.out (by kernel_rfl)) (fun _ _ _ h => h) (Or.inl ⟨by rfl, ?_⟩) ?_ ?_
          rotate_left
          · intro w'
            go_simp
            with_reducible rfl
          rotate_left
          · simp only [Act.put, List.setIfInBounds_toArray, List.set_cons_zero, List.set_cons_succ, i64_w, i32_w]
            rfl
          refine pure_ (i := 5) (N := some 21) (v := ?_) (a' := ?_) #[true, true, true, true, true, true, false, false, false] rfl rfl (any_of HT_.out (by kernel_rfl)) (fun _ _ _ h => h) (Or.inl ⟨by rfl, ?_⟩) ?_ ?_
          rotate_left
          · intro w'
            go_simp
            with_reducible rfl
          rotate_left
          · simp only [Act.put, List.setIfInBounds_toArray, List.set_cons_zero, List.set_cons_succ, i64_w, i32_w]
            rfl
          refine pure_ (i := 6) (N := some 22) (v := undef) (a' := ?_) #[true, true, true, true, true, true, true, false, false] rfl rfl (any_of HT_.out (by kernel_rfl)) (fun _ _ _ h => h) (Or.inr ⟨by rfl, rfl⟩) ?_ ?_
          rotate_left
          · simp only [Act.put, List.setIfInBounds_toArray, List.set_cons_zero, List.set_cons_succ, i64_w, i32_w]
            rfl
          refine pure_ (i := 7) (N := some 23) (v := ?_) (a' := ?_) #[true, true, true, true, true, true, true, true, false] rfl rfl (any_of HT_.out (by kernel_rfl)) (fun _ _ _ h => h) (Or.inl ⟨by rfl, ?_⟩) ?_ ?_
          rotate_left
          · intro w'
            go_simp
            with_reducible rfl
          rotate_left
          · simp only [Act.put, List.setIfInBounds_toArray, List.set_cons_zero, List.set_cons_succ, i64_w, i32_w]
            rfl
          refine pure_ (i := 8) (N := some 4) (v := ?_) (a' := ?_) #[true, true, true, true, true, true, true, true, true] rfl rfl (any_of HT_.out (by kernel_rfl)) (fun _ _ _ h => h) (Or.inl ⟨by rfl, ?_⟩) ?_ ?_
          rotate_left
          · intro w'
            go_simp
            with_reducible rfl
          rotate_left
          · simp only [Act.put, List.setIfInBounds_toArray, List.set_cons_zero, List.set_cons_succ, i64_w, i32_w]
            rfl
          refine done_ (done_of HT_.out (by kernel_rfl)) ?_
          try go_wp2
          go_ret
          exact ⟨by first | rfl | (simp [errW_none, errW_some] <;> rfl) | (simp [*, errW_none, errW_some] <;> rfl), by repeat (first | (with_reducible first | exact HB.out | apply below_alloc | apply pw_below_drewN | apply below_drew1 | refine below_set ?_ GE346.out | refine below_set ?_ GE347.out | refine below_set ?_ GE348.out) | exact HB.out)⟩
      · replace c24 := Bool.eq_false_iff.mpr c24
        subst c24
        have H1 : ((affine_Color.f kj2 a0_0 a0_1 a0_2 a0_3 a0_4 a0_5 a0_6 a0_7 a1_0 a1_1 a1_2 a1_3).bind fun bt360 => (if (bt360.1 == 0 && (bt360.2.1 == 0 && (bt360.2.2.1 == 0 && (bt360.2.2.2 == 0)))) = true then ((celluloidlaw14_awake.f kj2).bind fun t364 => (some t364)) else (some false))) = some r := by rw [if_neg (show ¬ (false = true) by decide)] at H; exact H
        clear H
        have H := H1
        clear H1
        replace H := Option.bind_eq_some_iff.mp H
        obtain ⟨⟨t360, t361, t362, t363⟩, A500, H⟩ := H
        replace H : (if (t360 == 0 && (t361 == 0 && (t362 == 0 && (t363 == 0)))) = true then ((celluloidlaw14_awake.f kj2).bind fun t364 => (some t364)) else (some false)) = some r := H
        have A50 := Aside0.mk A500
        clear A500
        by_cases c51 : (t360 == 0 && (t361 == 0 && (t362 == 0 && (t363 == 0)))) = true
        · rw [if_pos c51] at H
          have c51b0 : (t360 == 0 && (t361 == 0 && (t362 == 0 && (t363 == 0)))) = true := c51
          (try (have c51b1 : decide (t360 = 0 && (t361 == 0 && (t362 == 0 && (t363 == 0)))) = true := by simpa using c51))
          (try (have c51b2 : (t360 == 0 && (t361 == 0 && (t362 == 0 && (t363 == 0)))) = true := by simpa using c51))
          clear c51
          replace H := Option.bind_eq_some_iff.mp H
          obtain ⟨t364, A520, H⟩ := H
          replace H : (some t364) = some r := H
          have A52 := Aside0.mk A520
          clear A520
          obtain rfl := Option.some.inj H
          try go_wp2
          have n0_ := Aside0.mk (blk_drew BK346.out)
          have n1_ := Aside0.mk (blk_drew BK347.out)
          have n2_ := Aside0.mk (blk_drew BK348.out)
          have n3_ := Aside0.mk (below_drew1 HB.out)
          clear BK346
          clear BK347
          clear BK348
          clear HB
          have BK346 := n0_
          have BK347 := n1_
          have BK348 := n2_
          have HB := n3_
          clear n0_ n1_ n2_ n3_
          refine start_ (n := 9) (S := fun w' => w'.cell? ⟨gb346, 0, none⟩ = some (.int .i64 a0_0) ∧ w'.cell? ⟨gb346, 1, none⟩ = some (.int .i64 a0_1) ∧ w'.cell? ⟨gb346, 2, none⟩ = some (.int .i64 a0_2) ∧ w'.cell? ⟨gb346, 3, none⟩ = some (.int .i64 a0_3) ∧ w'.cell? ⟨gb346, 4, none⟩ = some (.int .i64 a0_4) ∧ w'.cell? ⟨gb346, 5, none⟩ = some (.int .i64 a0_5) ∧ w'.cell? ⟨gb346, 6, none⟩ = some (.int .i64 a0_6) ∧ w'.cell? ⟨gb346, 7, none⟩ = some (.int .i64 a0_7) ∧ w'.cell? ⟨gb347, 0, none⟩ = some (.int .i64 a1_0) ∧ w'.cell? ⟨gb347, 1, none⟩ = some (.int .i64 a1_1) ∧ w'.cell? ⟨gb347, 2, none⟩ = some (.int .i64 a1_2) ∧ w'.cell? ⟨gb347, 3, none⟩ = some (.int .i64 a1_3) ∧ w'.cell? ⟨gb348, 0, none⟩ = some (.int .i64 0) ∧ w'.cell? ⟨gb348, 1, none⟩ = some (.int .i64 0) ∧ w'.cell? ⟨gb348, 2, none⟩ = some (.int .i64 0) ∧ w'.cell? ⟨gb348, 3, none⟩ = some (.int .i64 0)) (ds := []) #[false, false, false, false, false, false, false, false, false] (by kernel_rfl) rfl rfl ⟨(blk_cell BK346.out 0).trans rfl, (blk_cell BK346.out 1).trans rfl, (blk_cell BK346.out 2).trans rfl, (blk_cell BK346.out 3).trans rfl, (blk_cell BK346.out 4).trans rfl, (blk_cell BK346.out 5).trans rfl, (blk_cell BK346.out 6).trans rfl, (blk_cell BK346.out 7).trans rfl, (blk_cell BK347.out 0).trans rfl, (blk_cell BK347.out 1).trans rfl, (blk_cell BK347.out 2).trans rfl, (blk_cell BK347.out 3).trans rfl, (blk_cell BK348.out 0).trans rfl, (blk_cell BK348.out 1).trans rfl, (blk_cell BK348.out 2).trans rfl, (blk_cell BK348.out 3).trans rfl⟩ (fun hHeld => ?_); refine with_tabW celluloidlaw14_AffineColors.tab4 celluloidlaw14_AffineColors.bits4 (fun HT_ HW_ => ?_)
          generalize wc.drew = w53 at BK346 BK347 BK348 HB hHeld ⊢
          refine take_ (i := 0) (N := some 16) (v := ?_) (a' := ?_) #[true, false, false, false, false, false, false, false, false] rfl rfl (take_ofW HT_.out HW_.out (by kernel_rfl)) (fun _ _ _ h => h) (Or.inl ⟨by rfl, ?_⟩) hHeld ?_ ?_
          rotate_left
          · rintro w' ⟨s0, s1, s2, s3, s4, s5, s6, s7, s8, s9, s10, s11, s12, s13, s14, s15⟩
            go_simp
            with_reducible rfl
          rotate_left
          · simp only [Act.put, List.setIfInBounds_toArray, List.set_cons_zero, List.set_cons_succ, i64_w, i32_w]
            rfl
          refine take_ (i := 1) (N := some 17) (v := ?_) (a' := ?_) #[true, true, false, false, false, false, false, false, false] rfl rfl (take_ofW HT_.out HW_.out (by kernel_rfl)) (fun _ _ _ h => h) (Or.inl ⟨by rfl, ?_⟩) hHeld ?_ ?_
          rotate_left
          · rintro w' ⟨s0, s1, s2, s3, s4, s5, s6, s7, s8, s9, s10, s11, s12, s13, s14, s15⟩
            go_simp
            with_reducible rfl
          rotate_left
          · simp only [Act.put, List.setIfInBounds_toArray, List.set_cons_zero, List.set_cons_succ, i64_w, i32_w]
            rfl
          refine take_ (i := 3) (N := some 19) (v := ?_) (a' := ?_) #[true, true, false, true, false, false, false, false, false] rfl rfl (take_ofW HT_.out HW_.out (by kernel_rfl)) (fun _ _ _ h => h) (Or.inl ⟨by rfl, ?_⟩) hHeld ?_ ?_
          rotate_left
          · rintro w' ⟨s0, s1, s2, s3, s4, s5, s6, s7, s8, s9, s10, s11, s12, s13, s14, s15⟩
            go_simp
            with_reducible rfl
          rotate_left
          · simp only [Act.put, List.setIfInBounds_toArray, List.set_cons_zero, List.set_cons_succ, i64_w, i32_w]
            rfl
          refine one_ (i := 2) (N := some 18) #[true, true, true, true, false, false, false, false, false] rfl rfl (one_of HT_.out (by kernel_rfl)) (by decide) (fun K hK => ?_)
          refine goes_ Try.func24 (by kernel_rfl) rfl #[.agg #[.int .i64 a0_0, .int .i64 a0_1, .int .i64 a0_2, .int .i64 a0_3, .int .i64 a0_4, .int .i64 a0_5, .int .i64 a0_6, .int .i64 a0_7], .agg #[.int .i64 a1_0, .int .i64 a1_1, .int .i64 a1_2, .int .i64 a1_3]] (by rfl) rfl rfl (by (try simp only [List.map_toArray, List.map_cons, List.map_nil]); first | done | rfl | (simp only [List.length_drop, List.length_take]; rfl)) ?_
          with_reducible refine (affine_Color.calls kj2 a0_0 a0_1 a0_2 a0_3 a0_4 a0_5 a0_6 a0_7 a1_0 a1_1 a1_2 a1_3 t360 t361 t362 t363 _ A50.out).mono ?_
          rintro e w54 ⟨rfl, hb⟩
          refine ⟨_, rfl, ?_⟩
          have n0_ := Aside0.mk (blk_below (g := gb346) (o := .cells #[.int .i64 a0_0, .int .i64 a0_1, .int .i64 a0_2, .int .i64 a0_3, .int .i64 a0_4, .int .i64 a0_5, .int .i64 a0_6, .int .i64 a0_7] 41 (0, 0)) (by (with_reducible repeat (first | refine blk_drewN ?_ _ | refine blk_drew ?_ | refine blk_alloc ?_ _)); exact BK346.out) hb)
          have n1_ := Aside0.mk (blk_below (g := gb347) (o := .cells #[.int .i64 a1_0, .int .i64 a1_1, .int .i64 a1_2, .int .i64 a1_3] 43 (0, 0)) (by (with_reducible repeat (first | refine blk_drewN ?_ _ | refine blk_drew ?_ | refine blk_alloc ?_ _)); exact BK347.out) hb)
          have n2_ := Aside0.mk (blk_below (g := gb348) (o := .cells #[.int .i64 0, .int .i64 0, .int .i64 0, .int .i64 0] 43 (0, 0)) (by (with_reducible repeat (first | refine blk_drewN ?_ _ | refine blk_drew ?_ | refine blk_alloc ?_ _)); exact BK348.out) hb)
          have n3_ := Aside0.mk (below_step (by repeat (first | (with_reducible first | exact HB.out | apply below_alloc | apply pw_below_drewN | apply below_drew1 | refine below_set ?_ GE346.out | refine below_set ?_ GE347.out | refine below_set ?_ GE348.out) | exact HB.out)) hb)
          clear BK346
          clear BK347
          clear BK348
          clear HB
          have BK346 := n0_
          have BK347 := n1_
          have BK348 := n2_
          have HB := n3_
          clear n0_ n1_ n2_ n3_
          (try clear hb)
          (try clear hb2)
          (try clear hk)
          (try clear hi)
          refine hK.out _ _ ⟨(blk_cell BK346.out 0).trans rfl, (blk_cell BK346.out 1).trans rfl, (blk_cell BK346.out 2).trans rfl, (blk_cell BK346.out 3).trans rfl, (blk_cell BK346.out 4).trans rfl, (blk_cell BK346.out 5).trans rfl, (blk_cell BK346.out 6).trans rfl, (blk_cell BK346.out 7).trans rfl, (blk_cell BK347.out 0).trans rfl, (blk_cell BK347.out 1).trans rfl, (blk_cell BK347.out 2).trans rfl, (blk_cell BK347.out 3).trans rfl, (blk_cell BK348.out 0).trans rfl, (blk_cell BK348.out 1).trans rfl, (blk_cell BK348.out 2).trans rfl, (blk_cell BK348.out 3).trans rfl⟩ (fun hHeld => ?_)
          clear hK K
          refine norm_ (a' := ?_) ?_ ?_
          rotate_left
          · show Act.put _ (some 18) _ = _
            simp only [Act.put, List.setIfInBounds_toArray, List.set_cons_zero, List.set_cons_succ, i64_w, i32_w]
            rfl
          refine pure_ (i := 4) (N := some 20) (v := ?_) (a' := ?_) #[true, true, true, true, true, false, false, false, false] rfl rfl (any_of HT_.out (by kernel_rfl)) (fun _ _ _ h => h) (Or.inl ⟨by rfl, ?_⟩) ?_ ?_
          rotate_left
          · intro w'
            go_simp
            with_reducible rfl
          rotate_left
          · simp only [Act.put, List.setIfInBounds_toArray, List.set_cons_zero, List.set_cons_succ, i64_w, i32_w]
            rfl
          refine pure_ (i := 5) (N := some 21) (v := ?_) (a' := ?_) #[true, true, true, true, true, true, false, false, false] rfl rfl (any_of HT_.out (by kernel_rfl)) (fun _ _ _ h => h) (Or.inl ⟨by rfl, ?_⟩) ?_ ?_
          rotate_left
          · intro w'
            go_simp
            with_reducible rfl
          rotate_left
          · simp only [Act.put, List.setIfInBounds_toArray, List.set_cons_zero, List.set_cons_succ, i64_w, i32_w]
            rfl
          refine one_ (i := 6) (N := some 22) #[true, true, true, true, true, true, true, false, false] rfl rfl (one_of HT_.out (by kernel_rfl)) (by decide) (fun K hK => ?_)
          refine goes_ Try.func14 (by kernel_rfl) rfl #[] (by rfl) rfl rfl (by (try simp only [List.map_toArray, List.map_cons, List.map_nil]); first | done | rfl | (simp only [List.length_drop, List.length_take]; rfl)) ?_
          with_reducible refine (celluloidlaw14_awake.calls kj2  t364 _ A52.out).mono ?_
          rintro e w55 ⟨rfl, hb⟩
          refine ⟨_, rfl, ?_⟩
          have n0_ := Aside0.mk (blk_below (g := gb346) (o := .cells #[.int .i64 a0_0, .int .i64 a0_1, .int .i64 a0_2, .int .i64 a0_3, .int .i64 a0_4, .int .i64 a0_5, .int .i64 a0_6, .int .i64 a0_7] 41 (0, 0)) (by (with_reducible repeat (first | refine blk_drewN ?_ _ | refine blk_drew ?_ | refine blk_alloc ?_ _)); exact BK346.out) hb)
          have n1_ := Aside0.mk (blk_below (g := gb347) (o := .cells #[.int .i64 a1_0, .int .i64 a1_1, .int .i64 a1_2, .int .i64 a1_3] 43 (0, 0)) (by (with_reducible repeat (first | refine blk_drewN ?_ _ | refine blk_drew ?_ | refine blk_alloc ?_ _)); exact BK347.out) hb)
          have n2_ := Aside0.mk (blk_below (g := gb348) (o := .cells #[.int .i64 0, .int .i64 0, .int .i64 0, .int .i64 0] 43 (0, 0)) (by (with_reducible repeat (first | refine blk_drewN ?_ _ | refine blk_drew ?_ | refine blk_alloc ?_ _)); exact BK348.out) hb)
          have n3_ := Aside0.mk (below_step (by repeat (first | (with_reducible first | exact HB.out | apply below_alloc | apply pw_below_drewN | apply below_drew1 | refine below_set ?_ GE346.out | refine below_set ?_ GE347.out | refine below_set ?_ GE348.out) | exact HB.out)) hb)
          clear BK346
          clear BK347
          clear BK348
          clear HB
          have BK346 := n0_
          have BK347 := n1_
          have BK348 := n2_
          have HB := n3_
          clear n0_ n1_ n2_ n3_
          (try clear hb)
          (try clear hb2)
          (try clear hk)
          (try clear hi)
          refine hK.out _ _ ⟨(blk_cell BK346.out 0).trans rfl, (blk_cell BK346.out 1).trans rfl, (blk_cell BK346.out 2).trans rfl, (blk_cell BK346.out 3).trans rfl, (blk_cell BK346.out 4).trans rfl, (blk_cell BK346.out 5).trans rfl, (blk_cell BK346.out 6).trans rfl, (blk_cell BK346.out 7).trans rfl, (blk_cell BK347.out 0).trans rfl, (blk_cell BK347.out 1).trans rfl, (blk_cell BK347.out 2).trans rfl, (blk_cell BK347.out 3).trans rfl, (blk_cell BK348.out 0).trans rfl, (blk_cell BK348.out 1).trans rfl, (blk_cell BK348.out 2).trans rfl, (blk_cell BK348.out 3).trans rfl⟩ (fun hHeld => ?_)
          clear hK K
          refine norm_ (a' := ?_) ?_ ?_
          rotate_left
          · show Act.put _ (some 22) _ = _
            simp only [Act.put, List.setIfInBounds_toArray, List.set_cons_zero, List.set_cons_succ, i64_w, i32_w]
            rfl
          refine pure_ (i := 7) (N := some 23) (v := ?_) (a' := ?_) #[true, true, true, true, true, true, true, true, false] rfl rfl (any_of HT_.out (by kernel_rfl)) (fun _ _ _ h => h) (Or.inl ⟨by rfl, ?_⟩) ?_ ?_
          rotate_left
          · intro w'
            go_simp
            with_reducible rfl
          rotate_left
          · simp only [Act.put, List.setIfInBounds_toArray, List.set_cons_zero, List.set_cons_succ, i64_w, i32_w]
            rfl
          refine pure_ (i := 8) (N := some 4) (v := ?_) (a' := ?_) #[true, true, true, true, true, true, true, true, true] rfl rfl (any_of HT_.out (by kernel_rfl)) (fun _ _ _ h => h) (Or.inl ⟨by rfl, ?_⟩) ?_ ?_
          rotate_left
          · intro w'
            go_simp
            with_reducible rfl
          rotate_left
          · simp only [Act.put, List.setIfInBounds_toArray, List.set_cons_zero, List.set_cons_succ, i64_w, i32_w]
            rfl
          refine done_ (done_of HT_.out (by kernel_rfl)) ?_
          try go_wp2
          go_ret
          exact ⟨by first | rfl | (simp [errW_none, errW_some] <;> rfl) | (simp [*, errW_none, errW_some] <;> rfl), by repeat (first | (with_reducible first | exact HB.out | apply below_alloc | apply pw_below_drewN | apply below_drew1 | refine below_set ?_ GE346.out | refine below_set ?_ GE347.out | refine below_set ?_ GE348.out) | exact HB.out)⟩
        · rw [if_neg c51] at H
          have c51b0 : (t360 == 0 && (t361 == 0 && (t362 == 0 && (t363 == 0)))) = false := by simpa using c51
          (try (have c51b1 : decide (t360 = 0 && (t361 == 0 && (t362 == 0 && (t363 == 0)))) = false := by simpa using c51))
          (try (have c51b2 : (t360 == 0 && (t361 == 0 && (t362 == 0 && (t363 == 0)))) = false := by simpa using c51))
          (try (have c51b3 : ¬ (t360 = 0 && (t361 == 0 && (t362 == 0 && (t363 == 0)))) := by simpa using c51))
          clear c51
          obtain rfl := Option.some.inj H
          try go_wp2
          have n0_ := Aside0.mk (blk_drew BK346.out)
          have n1_ := Aside0.mk (blk_drew BK347.out)
          have n2_ := Aside0.mk (blk_drew BK348.out)
          have n3_ := Aside0.mk (below_drew1 HB.out)
          clear BK346
          clear BK347
          clear BK348
          clear HB
          have BK346 := n0_
          have BK347 := n1_
          have BK348 := n2_
          have HB := n3_
          clear n0_ n1_ n2_ n3_
          refine start_ (n := 9) (S := fun w' => w'.cell? ⟨gb346, 0, none⟩ = some (.int .i64 a0_0) ∧ w'.cell? ⟨gb346, 1, none⟩ = some (.int .i64 a0_1) ∧ w'.cell? ⟨gb346, 2, none⟩ = some (.int .i64 a0_2) ∧ w'.cell? ⟨gb346, 3, none⟩ = some (.int .i64 a0_3) ∧ w'.cell? ⟨gb346, 4, none⟩ = some (.int .i64 a0_4) ∧ w'.cell? ⟨gb346, 5, none⟩ = some (.int .i64 a0_5) ∧ w'.cell? ⟨gb346, 6, none⟩ = some (.int .i64 a0_6) ∧ w'.cell? ⟨gb346, 7, none⟩ = some (.int .i64 a0_7) ∧ w'.cell? ⟨gb347, 0, none⟩ = some (.int .i64 a1_0) ∧ w'.cell? ⟨gb347, 1, none⟩ = some (.int .i64 a1_1) ∧ w'.cell? ⟨gb347, 2, none⟩ = some (.int .i64 a1_2) ∧ w'.cell? ⟨gb347, 3, none⟩ = some (.int .i64 a1_3) ∧ w'.cell? ⟨gb348, 0, none⟩ = some (.int .i64 0) ∧ w'.cell? ⟨gb348, 1, none⟩ = some (.int .i64 0) ∧ w'.cell? ⟨gb348, 2, none⟩ = some (.int .i64 0) ∧ w'.cell? ⟨gb348, 3, none⟩ = some (.int .i64 0)) (ds := []) #[false, false, false, false, false, false, false, false, false] (by kernel_rfl) rfl rfl ⟨(blk_cell BK346.out 0).trans rfl, (blk_cell BK346.out 1).trans rfl, (blk_cell BK346.out 2).trans rfl, (blk_cell BK346.out 3).trans rfl, (blk_cell BK346.out 4).trans rfl, (blk_cell BK346.out 5).trans rfl, (blk_cell BK346.out 6).trans rfl, (blk_cell BK346.out 7).trans rfl, (blk_cell BK347.out 0).trans rfl, (blk_cell BK347.out 1).trans rfl, (blk_cell BK347.out 2).trans rfl, (blk_cell BK347.out 3).trans rfl, (blk_cell BK348.out 0).trans rfl, (blk_cell BK348.out 1).trans rfl, (blk_cell BK348.out 2).trans rfl, (blk_cell BK348.out 3).trans rfl⟩ (fun hHeld => ?_); refine with_tabW celluloidlaw14_AffineColors.tab4 celluloidlaw14_AffineColors.bits4 (fun HT_ HW_ => ?_)
          generalize wc.drew = w56 at BK346 BK347 BK348 HB hHeld ⊢
          refine take_ (i := 0) (N := some 16) (v := ?_) (a' := ?_) #[true, false, false, false, false, false, false, false, false] rfl rfl (take_ofW HT_.out HW_.out (by kernel_rfl)) (fun _ _ _ h => h) (Or.inl ⟨by rfl, ?_⟩) hHeld ?_ ?_
          rotate_left
          · rintro w' ⟨s0, s1, s2, s3, s4, s5, s6, s7, s8, s9, s10, s11, s12, s13, s14, s15⟩
            go_simp
            with_reducible rfl
          rotate_left
          · simp only [Act.put, List.setIfInBounds_toArray, List.set_cons_zero, List.set_cons_succ, i64_w, i32_w]
            rfl
          refine take_ (i := 1) (N := some 17) (v := ?_) (a' := ?_) #[true, true, false, false, false, false, false, false, false] rfl rfl (take_ofW HT_.out HW_.out (by kernel_rfl)) (fun _ _ _ h => h) (Or.inl ⟨by rfl, ?_⟩) hHeld ?_ ?_
          rotate_left
          · rintro w' ⟨s0, s1, s2, s3, s4, s5, s6, s7, s8, s9, s10, s11, s12, s13, s14, s15⟩
            go_simp
            with_reducible rfl
          rotate_left
          · simp only [Act.put, List.setIfInBounds_toArray, List.set_cons_zero, List.set_cons_succ, i64_w, i32_w]
            rfl
          refine take_ (i := 3) (N := some 19) (v := ?_) (a' := ?_) #[true, true, false, true, false, false, false, false, false] rfl rfl (take_ofW HT_.out HW_.out (by kernel_rfl)) (fun _ _ _ h => h) (Or.inl ⟨by rfl, ?_⟩) hHeld ?_ ?_
          rotate_left
          · rintro w' ⟨s0, s1, s2, s3, s4, s5, s6, s7, s8, s9, s10, s11, s12, s13, s14, s15⟩
            go_simp
            with_reducible rfl
          rotate_left
          · simp only [Act.put, List.setIfInBounds_toArray, List.set_cons_zero, List.set_cons_succ, i64_w, i32_w]
            rfl
          refine one_ (i := 2) (N := some 18) #[true, true, true, true, false, false, false, false, false] rfl rfl (one_of HT_.out (by kernel_rfl)) (by decide) (fun K hK => ?_)
          refine goes_ Try.func24 (by kernel_rfl) rfl #[.agg #[.int .i64 a0_0, .int .i64 a0_1, .int .i64 a0_2, .int .i64 a0_3, .int .i64 a0_4, .int .i64 a0_5, .int .i64 a0_6, .int .i64 a0_7], .agg #[.int .i64 a1_0, .int .i64 a1_1, .int .i64 a1_2, .int .i64 a1_3]] (by rfl) rfl rfl (by (try simp only [List.map_toArray, List.map_cons, List.map_nil]); first | done | rfl | (simp only [List.length_drop, List.length_take]; rfl)) ?_
          with_reducible refine (affine_Color.calls kj2 a0_0 a0_1 a0_2 a0_3 a0_4 a0_5 a0_6 a0_7 a1_0 a1_1 a1_2 a1_3 t360 t361 t362 t363 _ A50.out).mono ?_
          rintro e w57 ⟨rfl, hb⟩
          refine ⟨_, rfl, ?_⟩
          have n0_ := Aside0.mk (blk_below (g := gb346) (o := .cells #[.int .i64 a0_0, .int .i64 a0_1, .int .i64 a0_2, .int .i64 a0_3, .int .i64 a0_4, .int .i64 a0_5, .int .i64 a0_6, .int .i64 a0_7] 41 (0, 0)) (by (with_reducible repeat (first | refine blk_drewN ?_ _ | refine blk_drew ?_ | refine blk_alloc ?_ _)); exact BK346.out) hb)
          have n1_ := Aside0.mk (blk_below (g := gb347) (o := .cells #[.int .i64 a1_0, .int .i64 a1_1, .int .i64 a1_2, .int .i64 a1_3] 43 (0, 0)) (by (with_reducible repeat (first | refine blk_drewN ?_ _ | refine blk_drew ?_ | refine blk_alloc ?_ _)); exact BK347.out) hb)
          have n2_ := Aside0.mk (blk_below (g := gb348) (o := .cells #[.int .i64 0, .int .i64 0, .int .i64 0, .int .i64 0] 43 (0, 0)) (by (with_reducible repeat (first | refine blk_drewN ?_ _ | refine blk_drew ?_ | refine blk_alloc ?_ _)); exact BK348.out) hb)
          have n3_ := Aside0.mk (below_step (by repeat (first | (with_reducible first | exact HB.out | apply below_alloc | apply pw_below_drewN | apply below_drew1 | refine below_set ?_ GE346.out | refine below_set ?_ GE347.out | refine below_set ?_ GE348.out) | exact HB.out)) hb)
          clear BK346
          clear BK347
          clear BK348
          clear HB
          have BK346 := n0_
          have BK347 := n1_
          have BK348 := n2_
          have HB := n3_
          clear n0_ n1_ n2_ n3_
          (try clear hb)
          (try clear hb2)
          (try clear hk)
          (try clear hi)
          refine hK.out _ _ ⟨(blk_cell BK346.out 0).trans rfl, (blk_cell BK346.out 1).trans rfl, (blk_cell BK346.out 2).trans rfl, (blk_cell BK346.out 3).trans rfl, (blk_cell BK346.out 4).trans rfl, (blk_cell BK346.out 5).trans rfl, (blk_cell BK346.out 6).trans rfl, (blk_cell BK346.out 7).trans rfl, (blk_cell BK347.out 0).trans rfl, (blk_cell BK347.out 1).trans rfl, (blk_cell BK347.out 2).trans rfl, (blk_cell BK347.out 3).trans rfl, (blk_cell BK348.out 0).trans rfl, (blk_cell BK348.out 1).trans rfl, (blk_cell BK348.out 2).trans rfl, (blk_cell BK348.out 3).trans rfl⟩ (fun hHeld => ?_)
          clear hK K
          refine norm_ (a' := ?_) ?_ ?_
          rotate_left
          · show Act.put _ (some 18) _ = _
            simp only [Act.put, List.setIfInBounds_toArray, List.set_cons_zero, List.set_cons_succ, i64_w, i32_w]
            rfl
          refine pure_ (i := 4) (N := some 20) (v := ?_) (a' := ?_) #[true, true, true, true, true, false, false, false, false] rfl rfl (any_of HT_.out (by kernel_rfl)) (fun _ _ _ h => h) (Or.inl ⟨by rfl, ?_⟩) ?_ ?_
          rotate_left
          · intro w'
            go_simp
            with_reducible rfl
          rotate_left
          · simp only [Act.put, List.setIfInBounds_toArray, List.set_cons_zero, List.set_cons_succ, i64_w, i32_w]
            rfl
          refine pure_ (i := 5) (N := some 21) (v := ?_) (a' := ?_) #[true, true, true, true, true, true, false, false, false] rfl rfl (any_of HT_.out (by kernel_rfl)) (fun _ _ _ h => h) (Or.inl ⟨by rfl, ?_⟩) ?_ ?_
          rotate_left
          · intro w'
            go_simp
            with_reducible rfl
          rotate_left
          · simp only [Act.put, List.setIfInBounds_toArray, List.set_cons_zero, List.set_cons_succ, i64_w, i32_w]
            rfl
          refine pure_ (i := 6) (N := some 22) (v := undef) (a' := ?_) #[true, true, true, true, true, true, true, false, false] rfl rfl (any_of HT_.out (by kernel_rfl)) (fun _ _ _ h => h) (Or.inr ⟨by rfl, rfl⟩) ?_ ?_
          rotate_left
          · simp only [Act.put, List.setIfInBounds_toArray, List.set_cons_zero, List.set_cons_succ, i64_w, i32_w]
            rfl
          refine pure_ (i := 7) (N := some 23) (v := ?_) (a' := ?_) #[true, true, true, true, true, true, true, true, false] rfl rfl (any_of HT_.out (by kernel_rfl)) (fun _ _ _ h => h) (Or.inl ⟨by rfl, ?_⟩) ?_ ?_
          rotate_left
          · intro w'
            go_simp
            with_reducible rfl
          rotate_left
          · simp only [Act.put, List.setIfInBounds_toArray, List.set_cons_zero, List.set_cons_succ, i64_w, i32_w]
            rfl
          refine pure_ (i := 8) (N := some 4) (v := ?_) (a' := ?_) #[true, true, true, true, true, true, true, true, true] rfl rfl (any_of HT_.out (by kernel_rfl)) (fun _ _ _ h => h) (Or.inl ⟨by rfl, ?_⟩) ?_ ?_
          rotate_left
          · intro w'
            go_simp
            with_reducible rfl
          rotate_left
          · simp only [Act.put, List.setIfInBounds_toArray, List.set_cons_zero, List.set_cons_succ, i64_w, i32_w]
            rfl
          refine done_ (done_of HT_.out (by kernel_rfl)) ?_
          try go_wp2
          go_ret
          exact ⟨by first | rfl | (simp [errW_none, errW_some] <;> rfl) | (simp [*, errW_none, errW_some] <;> rfl), by repeat (first | (with_reducible first | exact HB.out | apply below_alloc | apply pw_below_drewN | apply below_drew1 | refine below_set ?_ GE346.out | refine below_set ?_ GE347.out | refine below_set ?_ GE348.out) | exact HB.out)⟩

/-! ### celluloidlaw14_whole: function 25 -/
def celluloidlaw14_whole.f (a0_0 : Int) (a0_1 : Int) (a0_2 : Int) (a0_3 : Int) (a0_4 : Int) (a0_5 : Int) : Option (Int × Int × Int × Int × Int × Int) := some (wrap64 ((wrap64 (Int.tmod a0_0 4)) * 65536), wrap64 ((wrap64 (Int.tmod a0_1 4)) * 65536), wrap64 ((wrap64 (Int.tmod a0_2 4)) * 65536), wrap64 ((wrap64 (Int.tmod a0_3 4)) * 65536), wrap64 (a0_4), wrap64 (a0_5))
set_option maxHeartbeats 8000000 in
set_option maxRecDepth 100000 in
theorem celluloidlaw14_whole.calls (a0_0 : Int) (a0_1 : Int) (a0_2 : Int) (a0_3 : Int) (a0_4 : Int) (a0_5 : Int) (r1 : Int) (r2 : Int) (r3 : Int) (r4 : Int) (r5 : Int) (r6 : Int) (w : World) (h : celluloidlaw14_whole.f a0_0 a0_1 a0_2 a0_3 a0_4 a0_5 = some (r1, r2, r3, r4, r5, r6)) :
    Calls Try.prog 25 #[.agg #[.int .i8 a0_0, .int .i8 a0_1, .int .i8 a0_2, .int .i8 a0_3, .int .i8 a0_4, .int .i8 a0_5]] w fun e w' => e = .returned (.agg #[.int .i64 r1, .int .i64 r2, .int .i64 r3, .int .i64 r4, .int .i64 r5, .int .i64 r6]) ∧ Below w.heap.size w w' := by
  have hu49 := Try.underlying49
  have hu23 := Try.underlying23
  have HB := Aside0.mk (Below.refl w.heap.size w)
  have H : (some (wrap64 ((wrap64 (Int.tmod a0_0 4)) * 65536), wrap64 ((wrap64 (Int.tmod a0_1 4)) * 65536), wrap64 ((wrap64 (Int.tmod a0_2 4)) * 65536), wrap64 ((wrap64 (Int.tmod a0_3 4)) * 65536), wrap64 (a0_4), wrap64 (a0_5))) = some (r1, r2, r3, r4, r5, r6) := h
  clear h
  simp only [Option.some.injEq, Prod.mk.injEq] at H
  obtain ⟨rfl, rfl, rfl, rfl, rfl, rfl⟩ := H
  go_enter Try.func25, Try.ntmps25
  go_wp2_with (first | ((with_reducible refine gate_dst (N := 1) rfl ?_); refine box_event ?hg (N := 1) ?hd (cs := #[.int .i8 a0_0, .int .i8 a0_1, .int .i8 a0_2, .int .i8 a0_3, .int .i8 a0_4, .int .i8 a0_5]) (t := 49) ?hr ?_; (case hd => rfl); (case hg => rfl); (case hr => first | (go_simp; done) | (go_simp; rfl)); intro gb365 hg w2 hbox hb; have n0_ := Aside0.mk (below_step (by repeat (first | (with_reducible first | exact HB.out | apply below_alloc | apply pw_below_drewN | apply below_drew1) | exact HB.out)) hb); have n1_ := Aside0.mk (hbox); have n2_ := Aside0.mk ((by rw [hg]; exact (below_size (by repeat (first | (with_reducible first | exact HB.out | apply below_alloc | apply pw_below_drewN | apply below_drew1) | exact HB.out))) : w.heap.size ≤ gb365)); have n3_ := Aside0.mk ((by rw [hg]; exact (below_size (by repeat (first | (with_reducible first | exact HB.out | apply below_alloc | apply pw_below_drewN | apply below_drew1) | exact HB.out))) : w.heap.size ≤ gb365)); clear HB; have HB := n0_; have BK365 := n1_; have GW365 := n2_; have GE365 := n3_; clear n0_ n1_ n2_ n3_; clear hb hbox hg) | ((with_reducible refine gate_dst (N := 2) rfl ?_); refine box_event ?hg (N := 2) ?hd (cs := #[.int .i64 0, .int .i64 0, .int .i64 0, .int .i64 0, .int .i64 0, .int .i64 0]) (t := 23) ?hr ?_; (case hd => rfl); (case hg => rfl); (case hr => first | (go_simp; done) | (go_simp; rfl)); intro gb366 hg w3 hbox hb; have n0_ := Aside0.mk (blk_below (g := gb365) (o := .cells #[.int .i8 a0_0, .int .i8 a0_1, .int .i8 a0_2, .int .i8 a0_3, .int .i8 a0_4, .int .i8 a0_5] 49 (0, 0)) (by (with_reducible repeat (first | refine blk_drewN ?_ _ | refine blk_drew ?_ | refine blk_alloc ?_ _)); exact BK365.out) hb); have n1_ := Aside0.mk (below_step (by repeat (first | (with_reducible first | exact HB.out | apply below_alloc | apply pw_below_drewN | apply below_drew1 | refine below_set ?_ GE365.out) | exact HB.out)) hb); have n2_ := Aside0.mk (hbox); have n3_ := Aside0.mk ((by rw [hg]; exact (below_size (by repeat (first | (with_reducible first | exact HB.out | apply below_alloc | apply pw_below_drewN | apply below_drew1 | refine below_set ?_ GE365.out) | exact HB.out))) : w.heap.size ≤ gb366)); have n4_ := Aside0.mk ((by rw [hg]; exact (below_size (by repeat (first | (with_reducible first | exact HB.out | apply below_alloc | apply pw_below_drewN | apply below_drew1 | refine below_set ?_ GE365.out) | exact HB.out))) : w.heap.size ≤ gb366)); have n5_ := Aside0.mk ((by rw [hg]; exact Nat.ne_of_lt (blk_lt (g := gb365) (o := .cells #[.int .i8 a0_0, .int .i8 a0_1, .int .i8 a0_2, .int .i8 a0_3, .int .i8 a0_4, .int .i8 a0_5] 49 (0, 0)) (by (with_reducible repeat (first | refine blk_drewN ?_ _ | refine blk_drew ?_ | refine blk_alloc ?_ _)); exact BK365.out)) : gb365 ≠ gb366)); have n6_ := Aside0.mk ((by rw [hg]; exact Nat.ne_of_gt (blk_lt (g := gb365) (o := .cells #[.int .i8 a0_0, .int .i8 a0_1, .int .i8 a0_2, .int .i8 a0_3, .int .i8 a0_4, .int .i8 a0_5] 49 (0, 0)) (by (with_reducible repeat (first | refine blk_drewN ?_ _ | refine blk_drew ?_ | refine blk_alloc ?_ _)); exact BK365.out)) : gb366 ≠ gb365)); clear BK365; clear HB; have BK365 := n0_; have HB := n1_; have BK366 := n2_; have GW366 := n3_; have GE366 := n4_; have NB365_366 := n5_; have NB366_365 := n6_; clear n0_ n1_ n2_ n3_ n4_ n5_ n6_; clear hb hbox hg; have hnb4 := NB365_366.out; have hnc4 := NB366_365.out; have hcz5_0 : w3.cell? ⟨gb365, 0, none⟩ = some (.int .i8 a0_0) := (blk_cell BK365.out 0).trans rfl; have hcz5_1 : w3.cell? ⟨gb365, 1, none⟩ = some (.int .i8 a0_1) := (blk_cell BK365.out 1).trans rfl; have hcz5_2 : w3.cell? ⟨gb365, 2, none⟩ = some (.int .i8 a0_2) := (blk_cell BK365.out 2).trans rfl; have hcz5_3 : w3.cell? ⟨gb365, 3, none⟩ = some (.int .i8 a0_3) := (blk_cell BK365.out 3).trans rfl; have hcz5_4 : w3.cell? ⟨gb365, 4, none⟩ = some (.int .i8 a0_4) := (blk_cell BK365.out 4).trans rfl; have hcz5_5 : w3.cell? ⟨gb365, 5, none⟩ = some (.int .i8 a0_5) := (blk_cell BK365.out 5).trans rfl; have hfz5_0 := blk_frozen BK365.out 0; have hfz5_1 := blk_frozen BK365.out 1; have hfz5_2 := blk_frozen BK365.out 2; have hfz5_3 := blk_frozen BK365.out 3; have hfz5_4 := blk_frozen BK365.out 4; have hfz5_5 := blk_frozen BK365.out 5; have hcz6_0 : w3.cell? ⟨gb366, 0, none⟩ = some (.int .i64 0) := (blk_cell BK366.out 0).trans rfl; have hcz6_1 : w3.cell? ⟨gb366, 1, none⟩ = some (.int .i64 0) := (blk_cell BK366.out 1).trans rfl; have hcz6_2 : w3.cell? ⟨gb366, 2, none⟩ = some (.int .i64 0) := (blk_cell BK366.out 2).trans rfl; have hcz6_3 : w3.cell? ⟨gb366, 3, none⟩ = some (.int .i64 0) := (blk_cell BK366.out 3).trans rfl; have hcz6_4 : w3.cell? ⟨gb366, 4, none⟩ = some (.int .i64 0) := (blk_cell BK366.out 4).trans rfl; have hcz6_5 : w3.cell? ⟨gb366, 5, none⟩ = some (.int .i64 0) := (blk_cell BK366.out 5).trans rfl; have hfz6_0 := blk_frozen BK366.out 0; have hfz6_1 := blk_frozen BK366.out 1; have hfz6_2 := blk_frozen BK366.out 2; have hfz6_3 := blk_frozen BK366.out 3; have hfz6_4 := blk_frozen BK366.out 4; have hfz6_5 := blk_frozen BK366.out 5))
  refine bodyPost_ret (results_cell_row rfl _ _ gb366 23 #[.int .i64 (wrap64 ((wrap64 (Int.tmod a0_0 4)) * 65536)), .int .i64 (wrap64 ((wrap64 (Int.tmod a0_1 4)) * 65536)), .int .i64 (wrap64 ((wrap64 (Int.tmod a0_2 4)) * 65536)), .int .i64 (wrap64 ((wrap64 (Int.tmod a0_3 4)) * 65536)), .int .i64 (wrap64 (a0_4)), .int .i64 (wrap64 (a0_5))] (0, 0) _ rfl (by (with_reducible repeat (first | refine blk_drewN ?_ _ | refine blk_drew ?_ | refine blk_alloc ?_ _)); refine blk_put (cs := #[.int .i64 (wrap64 ((wrap64 (Int.tmod a0_0 4)) * 65536)), .int .i64 (wrap64 ((wrap64 (Int.tmod a0_1 4)) * 65536)), .int .i64 (wrap64 ((wrap64 (Int.tmod a0_2 4)) * 65536)), .int .i64 (wrap64 ((wrap64 (Int.tmod a0_3 4)) * 65536)), .int .i64 (wrap64 (a0_4)), .int .i64 0]) ?_ 5 _ rfl; (with_reducible repeat (first | refine blk_drewN ?_ _ | refine blk_drew ?_ | refine blk_alloc ?_ _)); refine blk_put (cs := #[.int .i64 (wrap64 ((wrap64 (Int.tmod a0_0 4)) * 65536)), .int .i64 (wrap64 ((wrap64 (Int.tmod a0_1 4)) * 65536)), .int .i64 (wrap64 ((wrap64 (Int.tmod a0_2 4)) * 65536)), .int .i64 (wrap64 ((wrap64 (Int.tmod a0_3 4)) * 65536)), .int .i64 0, .int .i64 0]) ?_ 4 _ rfl; (with_reducible repeat (first | refine blk_drewN ?_ _ | refine blk_drew ?_ | refine blk_alloc ?_ _)); refine blk_put (cs := #[.int .i64 (wrap64 ((wrap64 (Int.tmod a0_0 4)) * 65536)), .int .i64 (wrap64 ((wrap64 (Int.tmod a0_1 4)) * 65536)), .int .i64 (wrap64 ((wrap64 (Int.tmod a0_2 4)) * 65536)), .int .i64 0, .int .i64 0, .int .i64 0]) ?_ 3 _ rfl; (with_reducible repeat (first | refine blk_drewN ?_ _ | refine blk_drew ?_ | refine blk_alloc ?_ _)); refine blk_put (cs := #[.int .i64 (wrap64 ((wrap64 (Int.tmod a0_0 4)) * 65536)), .int .i64 (wrap64 ((wrap64 (Int.tmod a0_1 4)) * 65536)), .int .i64 0, .int .i64 0, .int .i64 0, .int .i64 0]) ?_ 2 _ rfl; (with_reducible repeat (first | refine blk_drewN ?_ _ | refine blk_drew ?_ | refine blk_alloc ?_ _)); refine blk_put (cs := #[.int .i64 (wrap64 ((wrap64 (Int.tmod a0_0 4)) * 65536)), .int .i64 0, .int .i64 0, .int .i64 0, .int .i64 0, .int .i64 0]) ?_ 1 _ rfl; (with_reducible repeat (first | refine blk_drewN ?_ _ | refine blk_drew ?_ | refine blk_alloc ?_ _)); refine blk_put (cs := #[.int .i64 0, .int .i64 0, .int .i64 0, .int .i64 0, .int .i64 0, .int .i64 0]) ?_ 0 _ rfl; (with_reducible repeat (first | refine blk_drewN ?_ _ | refine blk_drew ?_ | refine blk_alloc ?_ _)); exact BK366.out) Try.underlying23 rfl (by kernel_rfl)) rfl ?_
  exact ⟨by first | rfl | (simp [errW_none, errW_some] <;> rfl) | (simp [*, errW_none, errW_some] <;> rfl), by repeat (first | (with_reducible first | exact HB.out | apply below_alloc | apply pw_below_drewN | apply below_drew1 | refine below_set ?_ GE365.out | refine below_set ?_ GE366.out) | exact HB.out)⟩

end Go.Proofs.Ytaognlikgbcejaa.P
