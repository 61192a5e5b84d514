/- Printed by printx.py (wip/tool) out of the translation: plain functions that tell what the program answers, and the proofs that the program comes to these answers, for all arguments of their kinds. Lean checks it. -/
import Derived.Test.YtmdfcinjmlagcaaCx12
import Derived.Test.YtmdfcinjmlagcaaShort
import Derived.Test.YtmdfcinjmlagcaaPx0
namespace Go.Proofs.Ytmdfcinjmlagcaa.P
open Go.RowKit Go.Proofs.YtmdfcinjmlagcaaW.PrintWords Go.Proofs.YtmdfcinjmlagcaaW.PrintLast Go.Proofs.YtmdfcinjmlagcaaW.PrintMore
attribute [local go_sem] max2_int min2_int max_two min_two max_three min_three max_four min_four max_five min_five max_six min_six   -- for this text's walks alone
set_option linter.unusedVariables false
set_option linter.unusedSimpArgs false

/-! ### celluloidref14_Compose: function 36 -/
def celluloidref14_Compose.j0 : Nat → Bool → Int → Int → Int → Int → Int → Int → Int → Int → Int → Int → Int → Int → Option (Int × Int × Int × Int × Int × Int × Int)
  | 0, _, _, _, _, _, _, _, _, _, _, _, _, _ => none
  | k + 1, x14, x460000, x460001, x460002, x460003, x460004, x460005, x461000, x461001, x461002, x461003, x461004, x461005 => if x14 = true then (some (0, 0, 0, 0, 0, 0, 1)) else ((celluloidref14_floor.f (wrap64 ((wrap64 (x460000 * x461000)) + (wrap64 (x460002 * x461001)))) 65536).bind fun t465 => ((celluloidref14_floor.f (wrap64 ((wrap64 (x460001 * x461000)) + (wrap64 (x460003 * x461001)))) 65536).bind fun t466 => ((celluloidref14_floor.f (wrap64 ((wrap64 (x460000 * x461002)) + (wrap64 (x460002 * x461003)))) 65536).bind fun t467 => ((celluloidref14_floor.f (wrap64 ((wrap64 (x460001 * x461002)) + (wrap64 (x460003 * x461003)))) 65536).bind fun t468 => ((celluloidref14_floor.f (wrap64 ((wrap64 (x460000 * x461004)) + (wrap64 (x460002 * x461005)))) 65536).bind fun t469 => ((celluloidref14_floor.f (wrap64 ((wrap64 (x460001 * x461004)) + (wrap64 (x460003 * x461005)))) 65536).bind fun t470 => ((celluloidref07_Matrix.f t465 t466 t467 t468 (wrap64 (x460004 + t469)) (wrap64 (x460005 + t470))).bind fun t471 => (if t471 = true then (some (t465, t466, t467, t468, wrap64 (x460004 + t469), wrap64 (x460005 + t470), 0)) else (some (0, 0, 0, 0, 0, 0, 8))))))))))
def celluloidref14_Compose.f (k : Nat) (a0_0 : Int) (a0_1 : Int) (a0_2 : Int) (a0_3 : Int) (a0_4 : Int) (a0_5 : Int) (a1_0 : Int) (a1_1 : Int) (a1_2 : Int) (a1_3 : Int) (a1_4 : Int) (a1_5 : Int) : Option (Int × Int × Int × Int × Int × Int × Int) := (celluloidref07_Matrix.f a0_0 a0_1 a0_2 a0_3 a0_4 a0_5).bind fun t462 => (if t462 = true then ((celluloidref07_Matrix.f a1_0 a1_1 a1_2 a1_3 a1_4 a1_5).bind fun t463 => (celluloidref14_Compose.j0 k (!t463) a0_0 a0_1 a0_2 a0_3 a0_4 a0_5 a1_0 a1_1 a1_2 a1_3 a1_4 a1_5)) else (celluloidref14_Compose.j0 k true a0_0 a0_1 a0_2 a0_3 a0_4 a0_5 a1_0 a1_1 a1_2 a1_3 a1_4 a1_5))
theorem celluloidref14_Compose.mono_l : ∀ k, (∀ y0 y1 y2 y3 y4 y5 y6 y7 y8 y9 y10 y11 y12, LeO (celluloidref14_Compose.j0 k y0 y1 y2 y3 y4 y5 y6 y7 y8 y9 y10 y11 y12) (celluloidref14_Compose.j0 (k + 1) y0 y1 y2 y3 y4 y5 y6 y7 y8 y9 y10 y11 y12))
  | 0 => fun _ _ _ _ _ _ _ _ _ _ _ _ _ r h => by simp [celluloidref14_Compose.j0] at h
  | k + 1 => by
    have ih0 := celluloidref14_Compose.mono_l k
    · intro y0 y1 y2 y3 y4 y5 y6 y7 y8 y9 y10 y11 y12
      unfold celluloidref14_Compose.j0
      repeat' first
      | (with_reducible exact ih0 _ _ _ _ _ _ _ _ _ _ _ _ _)
      | (with_reducible exact LeO.refl _)
      | (with_reducible exact LeO.none _)
      | (with_reducible refine LeO.ite ?_ ?_)
      | (with_reducible refine LeO.bind ?_ (fun _ => ?_))
      | exact ih0 _ _ _ _ _ _ _ _ _ _ _ _ _
      | exact LeO.none _
      | refine LeO.ite ?_ ?_
      | refine LeO.bind ?_ (fun _ => ?_)
theorem celluloidref14_Compose.mono : ∀ a0 a1 a2 a3 a4 a5 a6 a7 a8 a9 a10 a11 k, LeO (celluloidref14_Compose.f k a0 a1 a2 a3 a4 a5 a6 a7 a8 a9 a10 a11) (celluloidref14_Compose.f (k + 1) a0 a1 a2 a3 a4 a5 a6 a7 a8 a9 a10 a11) := by
  intro a0 a1 a2 a3 a4 a5 a6 a7 a8 a9 a10 a11 k
  have ih0 := celluloidref14_Compose.mono_l k
  unfold celluloidref14_Compose.f
  repeat' first
      | (with_reducible exact ih0 _ _ _ _ _ _ _ _ _ _ _ _ _)
      | (with_reducible exact LeO.refl _)
      | (with_reducible exact LeO.none _)
      | (with_reducible refine LeO.ite ?_ ?_)
      | (with_reducible refine LeO.bind ?_ (fun _ => ?_))
      | exact ih0 _ _ _ _ _ _ _ _ _ _ _ _ _
      | exact LeO.none _
      | refine LeO.ite ?_ ?_
      | refine LeO.bind ?_ (fun _ => ?_)
def celluloidref14_Compose.T8 : Bool × List (List Nat × List Nat) := (true, [([], []), ([0], [0]), ([], []), ([2], [2]), ([], []), ([4], [4]), ([3, 5], [3, 5]), ([], []), ([7], [7]), ([], []), ([9], [9]), ([8, 10], [8, 10]), ([6, 11], [6, 11]), ([12], [12]), ([1, 13], [1, 13]), ([0, 1, 2, 3, 4, 5, 6, 7, 8, 9, 10, 11, 12, 13, 14], []), ([15, 14, 13, 0, 1, 2, 3, 4, 5, 6, 7, 8, 9, 10, 11, 12, 13, 14], [14, 15])])
def celluloidref14_Compose.B8 : List Nat := [0, 1, 0, 4, 0, 16, 60, 0, 128, 0, 512, 1920, 4092, 8188, 16383, 32767, 65535]
theorem celluloidref14_Compose.tab8 : rtab .any (opsOf Try.f36 8) = celluloidref14_Compose.T8 := by kernel_rfl
theorem celluloidref14_Compose.bits8 : waitsOk celluloidref14_Compose.T8.2 celluloidref14_Compose.B8 = true := by kernel_rfl
def celluloidref14_Compose.T9 : Bool × List (List Nat × List Nat) := (true, [([], []), ([0], [0]), ([], []), ([2], [2]), ([], []), ([4], [4]), ([3, 5], [3, 5]), ([], []), ([7], [7]), ([], []), ([9], [9]), ([8, 10], [8, 10]), ([6, 11], [6, 11]), ([12], [12]), ([1, 13], [1, 13]), ([0, 1, 2, 3, 4, 5, 6, 7, 8, 9, 10, 11, 12, 13, 14], []), ([15, 14, 13, 0, 1, 2, 3, 4, 5, 6, 7, 8, 9, 10, 11, 12, 13, 14], [14, 15])])
def celluloidref14_Compose.B9 : List Nat := [0, 1, 0, 4, 0, 16, 60, 0, 128, 0, 512, 1920, 4092, 8188, 16383, 32767, 65535]
theorem celluloidref14_Compose.tab9 : rtab .any (opsOf Try.f36 9) = celluloidref14_Compose.T9 := by kernel_rfl
theorem celluloidref14_Compose.bits9 : waitsOk celluloidref14_Compose.T9.2 celluloidref14_Compose.B9 = true := by kernel_rfl
set_option maxHeartbeats 8000000 in
set_option maxRecDepth 100000 in
theorem celluloidref14_Compose.calls (k : Nat) (a0_0 : Int) (a0_1 : Int) (a0_2 : Int) (a0_3 : Int) (a0_4 : Int) (a0_5 : Int) (a1_0 : Int) (a1_1 : Int) (a1_2 : Int) (a1_3 : Int) (a1_4 : Int) (a1_5 : Int) (r1 : Int) (r2 : Int) (r3 : Int) (r4 : Int) (r5 : Int) (r6 : Int) (r7 : Int) (w : World) (h : celluloidref14_Compose.f k a0_0 a0_1 a0_2 a0_3 a0_4 a0_5 a1_0 a1_1 a1_2 a1_3 a1_4 a1_5 = some (r1, r2, r3, r4, r5, r6, r7)) :
    Calls Try.prog 36 #[.agg #[.int .i64 a0_0, .int .i64 a0_1, .int .i64 a0_2, .int .i64 a0_3, .int .i64 a0_4, .int .i64 a0_5], .agg #[.int .i64 a1_0, .int .i64 a1_1, .int .i64 a1_2, .int .i64 a1_3, .int .i64 a1_4, .int .i64 a1_5]] w fun e w' => e = .returned (.tuple #[.agg #[.int .i64 r1, .int .i64 r2, .int .i64 r3, .int .i64 r4, .int .i64 r5, .int .i64 r6], .int .i64 r7]) ∧ Below w.heap.size w w' := by
  have hu28 := Try.underlying28
  have HB := Aside0.mk (Below.refl w.heap.size w)
  have H : ((celluloidref07_Matrix.f a0_0 a0_1 a0_2 a0_3 a0_4 a0_5).bind fun t462 => (if t462 = true then ((celluloidref07_Matrix.f a1_0 a1_1 a1_2 a1_3 a1_4 a1_5).bind fun t463 => (celluloidref14_Compose.j0 k (!t463) a0_0 a0_1 a0_2 a0_3 a0_4 a0_5 a1_0 a1_1 a1_2 a1_3 a1_4 a1_5)) else (celluloidref14_Compose.j0 k true a0_0 a0_1 a0_2 a0_3 a0_4 a0_5 a1_0 a1_1 a1_2 a1_3 a1_4 a1_5))) = some (r1, r2, r3, r4, r5, r6, r7) := h
  clear h
  have HC3 := Aside0.mk H
  clear H
  go_enter Try.func36, Try.ntmps36
  go_upto_region 1 with (first | ((with_reducible refine gate_dst (N := 2) rfl ?_); refine box_event ?hg (N := 2) ?hd (cs := #[.int .i64 a0_0, .int .i64 a0_1, .int .i64 a0_2, .int .i64 a0_3, .int .i64 a0_4, .int .i64 a0_5]) (t := 28) ?hr ?_; (case hd => rfl); (case hg => rfl); (case hr => first | (go_simp; done) | (go_simp; rfl)); intro gb459 hg w4 hbox hb; have n0_ := Aside0.mk (below_step (by repeat (first | (with_reducible first | exact HB.out | apply below_alloc | apply pw_below_drewN | apply below_drew1) | exact HB.out)) hb); have n1_ := Aside0.mk (hbox); have n2_ := Aside0.mk ((by rw [hg]; exact (below_size (by repeat (first | (with_reducible first | exact HB.out | apply below_alloc | apply pw_below_drewN | apply below_drew1) | exact HB.out))) : w.heap.size ≤ gb459)); have n3_ := Aside0.mk ((by rw [hg]; exact (below_size (by repeat (first | (with_reducible first | exact HB.out | apply below_alloc | apply pw_below_drewN | apply below_drew1) | exact HB.out))) : w.heap.size ≤ gb459)); clear HB; have HB := n0_; have BK459 := n1_; have GW459 := n2_; have GE459 := n3_; clear n0_ n1_ n2_ n3_; clear hb hbox hg) | ((with_reducible refine gate_dst (N := 3) rfl ?_); refine box_event ?hg (N := 3) ?hd (cs := #[.int .i64 a1_0, .int .i64 a1_1, .int .i64 a1_2, .int .i64 a1_3, .int .i64 a1_4, .int .i64 a1_5]) (t := 28) ?hr ?_; (case hd => rfl); (case hg => rfl); (case hr => first | (go_simp; done) | (go_simp; rfl)); intro gb460 hg w5 hbox hb; have n0_ := Aside0.mk (blk_below (g := gb459) (o := .cells #[.int .i64 a0_0, .int .i64 a0_1, .int .i64 a0_2, .int .i64 a0_3, .int .i64 a0_4, .int .i64 a0_5] 28 (0, 0)) (by (with_reducible repeat (first | refine blk_drewN ?_ _ | refine blk_drew ?_ | refine blk_alloc ?_ _)); exact BK459.out) hb); have n1_ := Aside0.mk (below_step (by repeat (first | (with_reducible first | exact HB.out | apply below_alloc | apply pw_below_drewN | apply below_drew1 | refine below_set ?_ GE459.out) | exact HB.out)) hb); have n2_ := Aside0.mk (hbox); have n3_ := Aside0.mk ((by rw [hg]; exact (below_size (by repeat (first | (with_reducible first | exact HB.out | apply below_alloc | apply pw_below_drewN | apply below_drew1 | refine below_set ?_ GE459.out) | exact HB.out))) : w.heap.size ≤ gb460)); have n4_ := Aside0.mk ((by rw [hg]; exact (below_size (by repeat (first | (with_reducible first | exact HB.out | apply below_alloc | apply pw_below_drewN | apply below_drew1 | refine below_set ?_ GE459.out) | exact HB.out))) : w.heap.size ≤ gb460)); have n5_ := Aside0.mk ((by rw [hg]; exact Nat.ne_of_lt (blk_lt (g := gb459) (o := .cells #[.int .i64 a0_0, .int .i64 a0_1, .int .i64 a0_2, .int .i64 a0_3, .int .i64 a0_4, .int .i64 a0_5] 28 (0, 0)) (by (with_reducible repeat (first | refine blk_drewN ?_ _ | refine blk_drew ?_ | refine blk_alloc ?_ _)); exact BK459.out)) : gb459 ≠ gb460)); have n6_ := Aside0.mk ((by rw [hg]; exact Nat.ne_of_gt (blk_lt (g := gb459) (o := .cells #[.int .i64 a0_0, .int .i64 a0_1, .int .i64 a0_2, .int .i64 a0_3, .int .i64 a0_4, .int .i64 a0_5] 28 (0, 0)) (by (with_reducible repeat (first | refine blk_drewN ?_ _ | refine blk_drew ?_ | refine blk_alloc ?_ _)); exact BK459.out)) : gb460 ≠ gb459)); clear BK459; clear HB; have BK459 := n0_; have HB := n1_; have BK460 := n2_; have GW460 := n3_; have GE460 := n4_; have NB459_460 := n5_; have NB460_459 := n6_; clear n0_ n1_ n2_ n3_ n4_ n5_ n6_; clear hb hbox hg) | ((with_reducible refine gate_dst (N := 4) rfl ?_); refine box_event ?hg (N := 4) ?hd (cs := #[.int .i64 0, .int .i64 0, .int .i64 0, .int .i64 0, .int .i64 0, .int .i64 0]) (t := 28) ?hr ?_; (case hd => rfl); (case hg => rfl); (case hr => first | (go_simp; done) | (go_simp; rfl)); intro gb461 hg w6 hbox hb; have n0_ := Aside0.mk (blk_below (g := gb459) (o := .cells #[.int .i64 a0_0, .int .i64 a0_1, .int .i64 a0_2, .int .i64 a0_3, .int .i64 a0_4, .int .i64 a0_5] 28 (0, 0)) (by (with_reducible repeat (first | refine blk_drewN ?_ _ | refine blk_drew ?_ | refine blk_alloc ?_ _)); exact BK459.out) hb); have n1_ := Aside0.mk (blk_below (g := gb460) (o := .cells #[.int .i64 a1_0, .int .i64 a1_1, .int .i64 a1_2, .int .i64 a1_3, .int .i64 a1_4, .int .i64 a1_5] 28 (0, 0)) (by (with_reducible repeat (first | refine blk_drewN ?_ _ | refine blk_drew ?_ | refine blk_alloc ?_ _)); exact BK460.out) hb); have n2_ := Aside0.mk (below_step (by repeat (first | (with_reducible first | exact HB.out | apply below_alloc | apply pw_below_drewN | apply below_drew1 | refine below_set ?_ GE459.out | refine below_set ?_ GE460.out) | exact HB.out)) hb); have n3_ := Aside0.mk (hbox); have n4_ := Aside0.mk ((by rw [hg]; exact (below_size (by repeat (first | (with_reducible first | exact HB.out | apply below_alloc | apply pw_below_drewN | apply below_drew1 | refine below_set ?_ GE459.out | refine below_set ?_ GE460.out) | exact HB.out))) : w.heap.size ≤ gb461)); have n5_ := Aside0.mk ((by rw [hg]; exact (below_size (by repeat (first | (with_reducible first | exact HB.out | apply below_alloc | apply pw_below_drewN | apply below_drew1 | refine below_set ?_ GE459.out | refine below_set ?_ GE460.out) | exact HB.out))) : w.heap.size ≤ gb461)); have n6_ := Aside0.mk ((by rw [hg]; exact Nat.ne_of_lt (blk_lt (g := gb459) (o := .cells #[.int .i64 a0_0, .int .i64 a0_1, .int .i64 a0_2, .int .i64 a0_3, .int .i64 a0_4, .int .i64 a0_5] 28 (0, 0)) (by (with_reducible repeat (first | refine blk_drewN ?_ _ | refine blk_drew ?_ | refine blk_alloc ?_ _)); exact BK459.out)) : gb459 ≠ gb461)); have n7_ := Aside0.mk ((by rw [hg]; exact Nat.ne_of_gt (blk_lt (g := gb459) (o := .cells #[.int .i64 a0_0, .int .i64 a0_1, .int .i64 a0_2, .int .i64 a0_3, .int .i64 a0_4, .int .i64 a0_5] 28 (0, 0)) (by (with_reducible repeat (first | refine blk_drewN ?_ _ | refine blk_drew ?_ | refine blk_alloc ?_ _)); exact BK459.out)) : gb461 ≠ gb459)); have n8_ := Aside0.mk ((by rw [hg]; exact Nat.ne_of_lt (blk_lt (g := gb460) (o := .cells #[.int .i64 a1_0, .int .i64 a1_1, .int .i64 a1_2, .int .i64 a1_3, .int .i64 a1_4, .int .i64 a1_5] 28 (0, 0)) (by (with_reducible repeat (first | refine blk_drewN ?_ _ | refine blk_drew ?_ | refine blk_alloc ?_ _)); exact BK460.out)) : gb460 ≠ gb461)); have n9_ := Aside0.mk ((by rw [hg]; exact Nat.ne_of_gt (blk_lt (g := gb460) (o := .cells #[.int .i64 a1_0, .int .i64 a1_1, .int .i64 a1_2, .int .i64 a1_3, .int .i64 a1_4, .int .i64 a1_5] 28 (0, 0)) (by (with_reducible repeat (first | refine blk_drewN ?_ _ | refine blk_drew ?_ | refine blk_alloc ?_ _)); exact BK460.out)) : gb461 ≠ gb460)); clear BK459; clear BK460; clear HB; have BK459 := n0_; have BK460 := n1_; have HB := n2_; have BK461 := n3_; have GW461 := n4_; have GE461 := n5_; have NB459_461 := n6_; have NB461_459 := n7_; have NB460_461 := n8_; have NB461_460 := n9_; clear n0_ n1_ n2_ n3_ n4_ n5_ n6_ n7_ n8_ n9_; clear hb hbox hg))
  (try simp only [Act.put, List.setIfInBounds_toArray, List.set_cons_zero, List.set_cons_succ])
  go_cut [14] (fun v14 wc => ∃ (kq : Nat) (x14_2 : Bool), v14 = .bool x14_2 ∧ Aside0 (celluloidref14_Compose.j0 kq x14_2 a0_0 a0_1 a0_2 a0_3 a0_4 a0_5 a1_0 a1_1 a1_2 a1_3 a1_4 a1_5 = some (r1, r2, r3, r4, r5, r6, r7)) ∧ Aside0 (kq ≤ k) ∧ Aside0 (wc.heap[gb459]? = some (.cells #[.int .i64 a0_0, .int .i64 a0_1, .int .i64 a0_2, .int .i64 a0_3, .int .i64 a0_4, .int .i64 a0_5] 28 (0, 0))) ∧ Aside0 (wc.heap[gb460]? = some (.cells #[.int .i64 a1_0, .int .i64 a1_1, .int .i64 a1_2, .int .i64 a1_3, .int .i64 a1_4, .int .i64 a1_5] 28 (0, 0))) ∧ Aside0 (wc.heap[gb461]? = some (.cells #[.int .i64 0, .int .i64 0, .int .i64 0, .int .i64 0, .int .i64 0, .int .i64 0] 28 (0, 0))) ∧ Aside0 (Below w.heap.size w wc))
  case first =>
    have H := HC3.out
    clear HC3
    replace H := Option.bind_eq_some_iff.mp H
    obtain ⟨t462, A70, H⟩ := H
    replace H : (if t462 = true then ((celluloidref07_Matrix.f a1_0 a1_1 a1_2 a1_3 a1_4 a1_5).bind fun t463 => (celluloidref14_Compose.j0 k (!t463) a0_0 a0_1 a0_2 a0_3 a0_4 a0_5 a1_0 a1_1 a1_2 a1_3 a1_4 a1_5)) else (celluloidref14_Compose.j0 k true a0_0 a0_1 a0_2 a0_3 a0_4 a0_5 a1_0 a1_1 a1_2 a1_3 a1_4 a1_5)) = some (r1, r2, r3, r4, r5, r6, r7) := H
    have A7 := Aside0.mk A70
    clear A70
    by_cases c8 : t462 = true
    · subst c8
      have H1 : ((celluloidref07_Matrix.f a1_0 a1_1 a1_2 a1_3 a1_4 a1_5).bind fun t463 => (celluloidref14_Compose.j0 k (!t463) a0_0 a0_1 a0_2 a0_3 a0_4 a0_5 a1_0 a1_1 a1_2 a1_3 a1_4 a1_5)) = some (r1, r2, r3, r4, r5, r6, r7) := by rw [if_pos rfl] at H; exact H
      clear H
      have H := H1
      clear H1
      replace H := Option.bind_eq_some_iff.mp H
      obtain ⟨t463, A90, H⟩ := H
      replace H : (celluloidref14_Compose.j0 k (!t463) a0_0 a0_1 a0_2 a0_3 a0_4 a0_5 a1_0 a1_1 a1_2 a1_3 a1_4 a1_5) = some (r1, r2, r3, r4, r5, r6, r7) := H
      have A9 := Aside0.mk A90
      clear A90
      have H' := Aside0.mk H
      clear H
      have hnb10 := NB459_460.out
      have hnc10 := NB460_459.out
      have hnb11 := NB459_461.out
      have hnc11 := NB461_459.out
      have hcz12_0 : w6.cell? ⟨gb459, 0, none⟩ = some (.int .i64 a0_0) := (blk_cell BK459.out 0).trans rfl
      have hcz12_1 : w6.cell? ⟨gb459, 1, none⟩ = some (.int .i64 a0_1) := (blk_cell BK459.out 1).trans rfl
      have hcz12_2 : w6.cell? ⟨gb459, 2, none⟩ = some (.int .i64 a0_2) := (blk_cell BK459.out 2).trans rfl
      have hcz12_3 : w6.cell? ⟨gb459, 3, none⟩ = some (.int .i64 a0_3) := (blk_cell BK459.out 3).trans rfl
      have hcz12_4 : w6.cell? ⟨gb459, 4, none⟩ = some (.int .i64 a0_4) := (blk_cell BK459.out 4).trans rfl
      have hcz12_5 : w6.cell? ⟨gb459, 5, none⟩ = some (.int .i64 a0_5) := (blk_cell BK459.out 5).trans rfl
      have hfz12_0 := blk_frozen BK459.out 0
      have hfz12_1 := blk_frozen BK459.out 1
      have hfz12_2 := blk_frozen BK459.out 2
      have hfz12_3 := blk_frozen BK459.out 3
      have hfz12_4 := blk_frozen BK459.out 4
      have hfz12_5 := blk_frozen BK459.out 5
      go_wp2_with (first | ((with_reducible refine gate_callee (f := 60) rfl ?_); refine goesL_ (some 8) rfl rfl Try.func60 (by kernel_rfl) rfl #[.agg #[.int .i64 a0_0, .int .i64 a0_1, .int .i64 a0_2, .int .i64 a0_3, .int .i64 a0_4, .int .i64 a0_5]] rfl (by (try simp only [List.map_toArray, List.map_cons, List.map_nil]); first | done | rfl | (simp only [List.length_drop, List.length_take]; rfl)) ?_; (with_reducible refine (celluloidref07_Matrix.calls a0_0 a0_1 a0_2 a0_3 a0_4 a0_5 true _ A7.out).mono ?_); rintro e w13 ⟨rfl, hb⟩; refine ⟨_, rfl, ?_⟩; have n0_ := Aside0.mk (blk_below (g := gb459) (o := .cells #[.int .i64 a0_0, .int .i64 a0_1, .int .i64 a0_2, .int .i64 a0_3, .int .i64 a0_4, .int .i64 a0_5] 28 (0, 0)) (by (with_reducible repeat (first | refine blk_drewN ?_ _ | refine blk_drew ?_ | refine blk_alloc ?_ _)); exact BK459.out) hb); have n1_ := Aside0.mk (blk_below (g := gb460) (o := .cells #[.int .i64 a1_0, .int .i64 a1_1, .int .i64 a1_2, .int .i64 a1_3, .int .i64 a1_4, .int .i64 a1_5] 28 (0, 0)) (by (with_reducible repeat (first | refine blk_drewN ?_ _ | refine blk_drew ?_ | refine blk_alloc ?_ _)); exact BK460.out) hb); have n2_ := Aside0.mk (blk_below (g := gb461) (o := .cells #[.int .i64 0, .int .i64 0, .int .i64 0, .int .i64 0, .int .i64 0, .int .i64 0] 28 (0, 0)) (by (with_reducible repeat (first | refine blk_drewN ?_ _ | refine blk_drew ?_ | refine blk_alloc ?_ _)); exact BK461.out) hb); have n3_ := Aside0.mk (below_step (by repeat (first | (with_reducible first | exact HB.out | apply below_alloc | apply pw_below_drewN | apply below_drew1 | refine below_set ?_ GE459.out | refine below_set ?_ GE460.out | refine below_set ?_ GE461.out) | exact HB.out)) hb); clear BK459; clear BK460; clear BK461; clear HB; have BK459 := n0_; have BK460 := n1_; have BK461 := n2_; have HB := n3_; clear n0_ n1_ n2_ n3_; (try clear hb); (try clear hb2); (try clear hk); (try clear hi); have hnb14 := NB460_461.out; have hnc14 := NB461_460.out; have hcz15_0 : w13.cell? ⟨gb460, 0, none⟩ = some (.int .i64 a1_0) := (blk_cell BK460.out 0).trans rfl; have hcz15_1 : w13.cell? ⟨gb460, 1, none⟩ = some (.int .i64 a1_1) := (blk_cell BK460.out 1).trans rfl; have hcz15_2 : w13.cell? ⟨gb460, 2, none⟩ = some (.int .i64 a1_2) := (blk_cell BK460.out 2).trans rfl; have hcz15_3 : w13.cell? ⟨gb460, 3, none⟩ = some (.int .i64 a1_3) := (blk_cell BK460.out 3).trans rfl; have hcz15_4 : w13.cell? ⟨gb460, 4, none⟩ = some (.int .i64 a1_4) := (blk_cell BK460.out 4).trans rfl; have hcz15_5 : w13.cell? ⟨gb460, 5, none⟩ = some (.int .i64 a1_5) := (blk_cell BK460.out 5).trans rfl; have hfz15_0 := blk_frozen BK460.out 0; have hfz15_1 := blk_frozen BK460.out 1; have hfz15_2 := blk_frozen BK460.out 2; have hfz15_3 := blk_frozen BK460.out 3; have hfz15_4 := blk_frozen BK460.out 4; have hfz15_5 := blk_frozen BK460.out 5) | (go_at_call 60; (with_reducible refine (celluloidref07_Matrix.calls a1_0 a1_1 a1_2 a1_3 a1_4 a1_5 t463 _ A9.out).mono ?_); rintro e w16 ⟨rfl, hb⟩; have n0_ := Aside0.mk (blk_below (g := gb459) (o := .cells #[.int .i64 a0_0, .int .i64 a0_1, .int .i64 a0_2, .int .i64 a0_3, .int .i64 a0_4, .int .i64 a0_5] 28 (0, 0)) (by (with_reducible repeat (first | refine blk_drewN ?_ _ | refine blk_drew ?_ | refine blk_alloc ?_ _)); exact BK459.out) hb); have n1_ := Aside0.mk (blk_below (g := gb460) (o := .cells #[.int .i64 a1_0, .int .i64 a1_1, .int .i64 a1_2, .int .i64 a1_3, .int .i64 a1_4, .int .i64 a1_5] 28 (0, 0)) (by (with_reducible repeat (first | refine blk_drewN ?_ _ | refine blk_drew ?_ | refine blk_alloc ?_ _)); exact BK460.out) hb); have n2_ := Aside0.mk (blk_below (g := gb461) (o := .cells #[.int .i64 0, .int .i64 0, .int .i64 0, .int .i64 0, .int .i64 0, .int .i64 0] 28 (0, 0)) (by (with_reducible repeat (first | refine blk_drewN ?_ _ | refine blk_drew ?_ | refine blk_alloc ?_ _)); exact BK461.out) hb); have n3_ := Aside0.mk (below_step (by repeat (first | (with_reducible first | exact HB.out | apply below_alloc | apply pw_below_drewN | apply below_drew1 | refine below_set ?_ GE459.out | refine below_set ?_ GE460.out | refine below_set ?_ GE461.out) | exact HB.out)) hb); clear BK459; clear BK460; clear BK461; clear HB; have BK459 := n0_; have BK460 := n1_; have BK461 := n2_; have HB := n3_; clear n0_ n1_ n2_ n3_; (try clear hb); (try clear hb2); (try clear hk); (try clear hi)))
      go_meet
      case rel => exact ⟨_, (!t463), (by first | rfl | (simp; done) | (simp [*]; done)), H', ⟨by first | omega | exact Nat.le_refl _⟩, ⟨by (with_reducible repeat (first | refine blk_drewN ?_ _ | refine blk_drew ?_ | refine blk_alloc ?_ _)); exact BK459.out⟩, ⟨by (with_reducible repeat (first | refine blk_drewN ?_ _ | refine blk_drew ?_ | refine blk_alloc ?_ _)); exact BK460.out⟩, ⟨by (with_reducible repeat (first | refine blk_drewN ?_ _ | refine blk_drew ?_ | refine blk_alloc ?_ _)); exact BK461.out⟩, ⟨by repeat (first | (with_reducible first | exact HB.out | apply below_alloc | apply pw_below_drewN | apply below_drew1 | refine below_set ?_ GE459.out | refine below_set ?_ GE460.out | refine below_set ?_ GE461.out) | exact HB.out)⟩⟩
    · replace c8 := Bool.eq_false_iff.mpr c8
      subst c8
      have H1 : (celluloidref14_Compose.j0 k true a0_0 a0_1 a0_2 a0_3 a0_4 a0_5 a1_0 a1_1 a1_2 a1_3 a1_4 a1_5) = some (r1, r2, r3, r4, r5, r6, r7) := by rw [if_neg (show ¬ (false = true) by decide)] at H; exact H
      clear H
      have H := H1
      clear H1
      have H' := Aside0.mk H
      clear H
      have hnb17 := NB459_460.out
      have hnc17 := NB460_459.out
      have hnb18 := NB459_461.out
      have hnc18 := NB461_459.out
      have hcz19_0 : w6.cell? ⟨gb459, 0, none⟩ = some (.int .i64 a0_0) := (blk_cell BK459.out 0).trans rfl
      have hcz19_1 : w6.cell? ⟨gb459, 1, none⟩ = some (.int .i64 a0_1) := (blk_cell BK459.out 1).trans rfl
      have hcz19_2 : w6.cell? ⟨gb459, 2, none⟩ = some (.int .i64 a0_2) := (blk_cell BK459.out 2).trans rfl
      have hcz19_3 : w6.cell? ⟨gb459, 3, none⟩ = some (.int .i64 a0_3) := (blk_cell BK459.out 3).trans rfl
      have hcz19_4 : w6.cell? ⟨gb459, 4, none⟩ = some (.int .i64 a0_4) := (blk_cell BK459.out 4).trans rfl
      have hcz19_5 : w6.cell? ⟨gb459, 5, none⟩ = some (.int .i64 a0_5) := (blk_cell BK459.out 5).trans rfl
      have hfz19_0 := blk_frozen BK459.out 0
      have hfz19_1 := blk_frozen BK459.out 1
      have hfz19_2 := blk_frozen BK459.out 2
      have hfz19_3 := blk_frozen BK459.out 3
      have hfz19_4 := blk_frozen BK459.out 4
      have hfz19_5 := blk_frozen BK459.out 5
      go_wp2_with (first | ((with_reducible refine gate_callee (f := 60) rfl ?_); refine goesL_ (some 8) rfl rfl Try.func60 (by kernel_rfl) rfl #[.agg #[.int .i64 a0_0, .int .i64 a0_1, .int .i64 a0_2, .int .i64 a0_3, .int .i64 a0_4, .int .i64 a0_5]] rfl (by (try simp only [List.map_toArray, List.map_cons, List.map_nil]); first | done | rfl | (simp only [List.length_drop, List.length_take]; rfl)) ?_; (with_reducible refine (celluloidref07_Matrix.calls a0_0 a0_1 a0_2 a0_3 a0_4 a0_5 false _ A7.out).mono ?_); rintro e w20 ⟨rfl, hb⟩; refine ⟨_, rfl, ?_⟩; have n0_ := Aside0.mk (blk_below (g := gb459) (o := .cells #[.int .i64 a0_0, .int .i64 a0_1, .int .i64 a0_2, .int .i64 a0_3, .int .i64 a0_4, .int .i64 a0_5] 28 (0, 0)) (by (with_reducible repeat (first | refine blk_drewN ?_ _ | refine blk_drew ?_ | refine blk_alloc ?_ _)); exact BK459.out) hb); have n1_ := Aside0.mk (blk_below (g := gb460) (o := .cells #[.int .i64 a1_0, .int .i64 a1_1, .int .i64 a1_2, .int .i64 a1_3, .int .i64 a1_4, .int .i64 a1_5] 28 (0, 0)) (by (with_reducible repeat (first | refine blk_drewN ?_ _ | refine blk_drew ?_ | refine blk_alloc ?_ _)); exact BK460.out) hb); have n2_ := Aside0.mk (blk_below (g := gb461) (o := .cells #[.int .i64 0, .int .i64 0, .int .i64 0, .int .i64 0, .int .i64 0, .int .i64 0] 28 (0, 0)) (by (with_reducible repeat (first | refine blk_drewN ?_ _ | refine blk_drew ?_ | refine blk_alloc ?_ _)); exact BK461.out) hb); have n3_ := Aside0.mk (below_step (by repeat (first | (with_reducible first | exact HB.out | apply below_alloc | apply pw_below_drewN | apply below_drew1 | refine below_set ?_ GE459.out | refine below_set ?_ GE460.out | refine below_set ?_ GE461.out) | exact HB.out)) hb); clear BK459; clear BK460; clear BK461; clear HB; have BK459 := n0_; have BK460 := n1_; have BK461 := n2_; have HB := n3_; clear n0_ n1_ n2_ n3_; (try clear hb); (try clear hb2); (try clear hk); (try clear hi)))
      go_meet
      case rel => exact ⟨_, (true), (by first | rfl | (simp; done) | (simp [*]; done)), H', ⟨by first | omega | exact Nat.le_refl _⟩, ⟨by (with_reducible repeat (first | refine blk_drewN ?_ _ | refine blk_drew ?_ | refine blk_alloc ?_ _)); exact BK459.out⟩, ⟨by (with_reducible repeat (first | refine blk_drewN ?_ _ | refine blk_drew ?_ | refine blk_alloc ?_ _)); exact BK460.out⟩, ⟨by (with_reducible repeat (first | refine blk_drewN ?_ _ | refine blk_drew ?_ | refine blk_alloc ?_ _)); exact BK461.out⟩, ⟨by repeat (first | (with_reducible first | exact HB.out | apply below_alloc | apply pw_below_drewN | apply below_drew1 | refine below_set ?_ GE459.out | refine below_set ?_ GE460.out | refine below_set ?_ GE461.out) | exact HB.out)⟩⟩
  case rest =>
    clear HC3
    try clear c1
    try clear p2
    try clear c3
    try clear c6
    try clear c8
    try clear c10
    try clear c11
    try clear c14
    try clear c17
    try clear c18
    try clear hcz12_0
    try clear hcz12_1
    try clear hcz12_2
    try clear hcz12_3
    try clear hcz12_4
    try clear hcz12_5
    try clear hcz15_0
    try clear hcz15_1
    try clear hcz15_2
    try clear hcz15_3
    try clear hcz15_4
    try clear hcz15_5
    try clear hcz19_0
    try clear hcz19_1
    try clear hcz19_2
    try clear hcz19_3
    try clear hcz19_4
    try clear hcz19_5
    try clear hfz12_0
    try clear hfz12_1
    try clear hfz12_2
    try clear hfz12_3
    try clear hfz12_4
    try clear hfz12_5
    try clear hfz15_0
    try clear hfz15_1
    try clear hfz15_2
    try clear hfz15_3
    try clear hfz15_4
    try clear hfz15_5
    try clear hfz19_0
    try clear hfz19_1
    try clear hfz19_2
    try clear hfz19_3
    try clear hfz19_4
    try clear hfz19_5
    obtain ⟨kq, x14_2, rfl, HA, HJ2, BK459, BK460, BK461, HB⟩ := hcut
    cases kq with
    | zero => exact absurd HA.out (by simp [celluloidref14_Compose.j0])
    | succ kj2 =>
      have H := HA.out
      clear HA
      simp only [celluloidref14_Compose.j0] at H
      by_cases c21 : x14_2 = true
      · subst c21
        have H1 : (some (0, 0, 0, 0, 0, 0, 1)) = some (r1, r2, r3, r4, r5, r6, r7) := by rw [if_pos rfl] at H; exact H
        clear H
        have H := H1
        clear H1
        simp only [Option.some.injEq, Prod.mk.injEq] at H
        obtain ⟨rfl, rfl, rfl, rfl, rfl, rfl, rfl⟩ := H
        have hnb22 := NB461_459.out
        have hnc22 := NB459_461.out
        have hnb23 := NB461_460.out
        have hnc23 := NB460_461.out
        have hcz24_0 : wc.cell? ⟨gb461, 0, none⟩ = some (.int .i64 0) := (blk_cell BK461.out 0).trans rfl
        have hcz24_1 : wc.cell? ⟨gb461, 1, none⟩ = some (.int .i64 0) := (blk_cell BK461.out 1).trans rfl
        have hcz24_2 : wc.cell? ⟨gb461, 2, none⟩ = some (.int .i64 0) := (blk_cell BK461.out 2).trans rfl
        have hcz24_3 : wc.cell? ⟨gb461, 3, none⟩ = some (.int .i64 0) := (blk_cell BK461.out 3).trans rfl
        have hcz24_4 : wc.cell? ⟨gb461, 4, none⟩ = some (.int .i64 0) := (blk_cell BK461.out 4).trans rfl
        have hcz24_5 : wc.cell? ⟨gb461, 5, none⟩ = some (.int .i64 0) := (blk_cell BK461.out 5).trans rfl
        have hfz24_0 := blk_frozen BK461.out 0
        have hfz24_1 := blk_frozen BK461.out 1
        have hfz24_2 := blk_frozen BK461.out 2
        have hfz24_3 := blk_frozen BK461.out 3
        have hfz24_4 := blk_frozen BK461.out 4
        have hfz24_5 := blk_frozen BK461.out 5
        go_wp2
        refine bodyPost_ret (results_ct rfl _ _ gb461 28 #[.int .i64 0, .int .i64 0, .int .i64 0, .int .i64 0, .int .i64 0, .int .i64 0] (0, 0) _ rfl (by (with_reducible repeat (first | refine blk_drewN ?_ _ | refine blk_drew ?_ | refine blk_alloc ?_ _)); refine blk_put (cs := #[.int .i64 0, .int .i64 0, .int .i64 0, .int .i64 0, .int .i64 0, .int .i64 0]) ?_ 5 _ rfl; (with_reducible repeat (first | refine blk_drewN ?_ _ | refine blk_drew ?_ | refine blk_alloc ?_ _)); refine blk_put (cs := #[.int .i64 0, .int .i64 0, .int .i64 0, .int .i64 0, .int .i64 0, .int .i64 0]) ?_ 4 _ rfl; (with_reducible repeat (first | refine blk_drewN ?_ _ | refine blk_drew ?_ | refine blk_alloc ?_ _)); refine blk_put (cs := #[.int .i64 0, .int .i64 0, .int .i64 0, .int .i64 0, .int .i64 0, .int .i64 0]) ?_ 3 _ rfl; (with_reducible repeat (first | refine blk_drewN ?_ _ | refine blk_drew ?_ | refine blk_alloc ?_ _)); refine blk_put (cs := #[.int .i64 0, .int .i64 0, .int .i64 0, .int .i64 0, .int .i64 0, .int .i64 0]) ?_ 2 _ rfl; (with_reducible repeat (first | refine blk_drewN ?_ _ | refine blk_drew ?_ | refine blk_alloc ?_ _)); refine blk_put (cs := #[.int .i64 0, .int .i64 0, .int .i64 0, .int .i64 0, .int .i64 0, .int .i64 0]) ?_ 1 _ rfl; (with_reducible repeat (first | refine blk_drewN ?_ _ | refine blk_drew ?_ | refine blk_alloc ?_ _)); refine blk_put (cs := #[.int .i64 0, .int .i64 0, .int .i64 0, .int .i64 0, .int .i64 0, .int .i64 0]) ?_ 0 _ rfl; (with_reducible repeat (first | refine blk_drewN ?_ _ | refine blk_drew ?_ | refine blk_alloc ?_ _)); exact BK461.out) Try.underlying28 rfl (by kernel_rfl)) rfl ?_
        exact ⟨by first | rfl | (simp [errW_none, errW_some] <;> rfl) | (simp [*, errW_none, errW_some] <;> rfl), by repeat (first | (with_reducible first | exact HB.out | apply below_alloc | apply pw_below_drewN | apply below_drew1 | refine below_set ?_ GE459.out | refine below_set ?_ GE460.out | refine below_set ?_ GE461.out) | exact HB.out)⟩
      · replace c21 := Bool.eq_false_iff.mpr c21
        subst c21
        have H1 : ((celluloidref14_floor.f (wrap64 ((wrap64 (a0_0 * a1_0)) + (wrap64 (a0_2 * a1_1)))) 65536).bind fun t465 => ((celluloidref14_floor.f (wrap64 ((wrap64 (a0_1 * a1_0)) + (wrap64 (a0_3 * a1_1)))) 65536).bind fun t466 => ((celluloidref14_floor.f (wrap64 ((wrap64 (a0_0 * a1_2)) + (wrap64 (a0_2 * a1_3)))) 65536).bind fun t467 => ((celluloidref14_floor.f (wrap64 ((wrap64 (a0_1 * a1_2)) + (wrap64 (a0_3 * a1_3)))) 65536).bind fun t468 => ((celluloidref14_floor.f (wrap64 ((wrap64 (a0_0 * a1_4)) + (wrap64 (a0_2 * a1_5)))) 65536).bind fun t469 => ((celluloidref14_floor.f (wrap64 ((wrap64 (a0_1 * a1_4)) + (wrap64 (a0_3 * a1_5)))) 65536).bind fun t470 => ((celluloidref07_Matrix.f t465 t466 t467 t468 (wrap64 (a0_4 + t469)) (wrap64 (a0_5 + t470))).bind fun t471 => (if t471 = true then (some (t465, t466, t467, t468, wrap64 (a0_4 + t469), wrap64 (a0_5 + t470), 0)) else (some (0, 0, 0, 0, 0, 0, 8)))))))))) = some (r1, r2, r3, r4, r5, r6, r7) := by rw [if_neg (show ¬ (false = true) by decide)] at H; exact H
        clear H
        have H := H1
        clear H1
        replace H := Option.bind_eq_some_iff.mp H
        obtain ⟨t465, A250, H⟩ := H
        replace H : ((celluloidref14_floor.f (wrap64 ((wrap64 (a0_1 * a1_0)) + (wrap64 (a0_3 * a1_1)))) 65536).bind fun t466 => ((celluloidref14_floor.f (wrap64 ((wrap64 (a0_0 * a1_2)) + (wrap64 (a0_2 * a1_3)))) 65536).bind fun t467 => ((celluloidref14_floor.f (wrap64 ((wrap64 (a0_1 * a1_2)) + (wrap64 (a0_3 * a1_3)))) 65536).bind fun t468 => ((celluloidref14_floor.f (wrap64 ((wrap64 (a0_0 * a1_4)) + (wrap64 (a0_2 * a1_5)))) 65536).bind fun t469 => ((celluloidref14_floor.f (wrap64 ((wrap64 (a0_1 * a1_4)) + (wrap64 (a0_3 * a1_5)))) 65536).bind fun t470 => ((celluloidref07_Matrix.f t465 t466 t467 t468 (wrap64 (a0_4 + t469)) (wrap64 (a0_5 + t470))).bind fun t471 => (if t471 = true then (some (t465, t466, t467, t468, wrap64 (a0_4 + t469), wrap64 (a0_5 + t470), 0)) else (some (0, 0, 0, 0, 0, 0, 8))))))))) = some (r1, r2, r3, r4, r5, r6, r7) := H
        have A25 := Aside0.mk A250
        clear A250
        replace H := Option.bind_eq_some_iff.mp H
        obtain ⟨t466, A260, H⟩ := H
        replace H : ((celluloidref14_floor.f (wrap64 ((wrap64 (a0_0 * a1_2)) + (wrap64 (a0_2 * a1_3)))) 65536).bind fun t467 => ((celluloidref14_floor.f (wrap64 ((wrap64 (a0_1 * a1_2)) + (wrap64 (a0_3 * a1_3)))) 65536).bind fun t468 => ((celluloidref14_floor.f (wrap64 ((wrap64 (a0_0 * a1_4)) + (wrap64 (a0_2 * a1_5)))) 65536).bind fun t469 => ((celluloidref14_floor.f (wrap64 ((wrap64 (a0_1 * a1_4)) + (wrap64 (a0_3 * a1_5)))) 65536).bind fun t470 => ((celluloidref07_Matrix.f t465 t466 t467 t468 (wrap64 (a0_4 + t469)) (wrap64 (a0_5 + t470))).bind fun t471 => (if t471 = true then (some (t465, t466, t467, t468, wrap64 (a0_4 + t469), wrap64 (a0_5 + t470), 0)) else (some (0, 0, 0, 0, 0, 0, 8)))))))) = some (r1, r2, r3, r4, r5, r6, r7) := H
        have A26 := Aside0.mk A260
        clear A260
        replace H := Option.bind_eq_some_iff.mp H
        obtain ⟨t467, A270, H⟩ := H
        replace H : ((celluloidref14_floor.f (wrap64 ((wrap64 (a0_1 * a1_2)) + (wrap64 (a0_3 * a1_3)))) 65536).bind fun t468 => ((celluloidref14_floor.f (wrap64 ((wrap64 (a0_0 * a1_4)) + (wrap64 (a0_2 * a1_5)))) 65536).bind fun t469 => ((celluloidref14_floor.f (wrap64 ((wrap64 (a0_1 * a1_4)) + (wrap64 (a0_3 * a1_5)))) 65536).bind fun t470 => ((celluloidref07_Matrix.f t465 t466 t467 t468 (wrap64 (a0_4 + t469)) (wrap64 (a0_5 + t470))).bind fun t471 => (if t471 = true then (some (t465, t466, t467, t468, wrap64 (a0_4 + t469), wrap64 (a0_5 + t470), 0)) else (some (0, 0, 0, 0, 0, 0, 8))))))) = some (r1, r2, r3, r4, r5, r6, r7) := H
        have A27 := Aside0.mk A270
        clear A270
        replace H := Option.bind_eq_some_iff.mp H
        obtain ⟨t468, A280, H⟩ := H
        replace H : ((celluloidref14_floor.f (wrap64 ((wrap64 (a0_0 * a1_4)) + (wrap64 (a0_2 * a1_5)))) 65536).bind fun t469 => ((celluloidref14_floor.f (wrap64 ((wrap64 (a0_1 * a1_4)) + (wrap64 (a0_3 * a1_5)))) 65536).bind fun t470 => ((celluloidref07_Matrix.f t465 t466 t467 t468 (wrap64 (a0_4 + t469)) (wrap64 (a0_5 + t470))).bind fun t471 => (if t471 = true then (some (t465, t466, t467, t468, wrap64 (a0_4 + t469), wrap64 (a0_5 + t470), 0)) else (some (0, 0, 0, 0, 0, 0, 8)))))) = some (r1, r2, r3, r4, r5, r6, r7) := H
        have A28 := Aside0.mk A280
        clear A280
        replace H := Option.bind_eq_some_iff.mp H
        obtain ⟨t469, A290, H⟩ := H
        replace H : ((celluloidref14_floor.f (wrap64 ((wrap64 (a0_1 * a1_4)) + (wrap64 (a0_3 * a1_5)))) 65536).bind fun t470 => ((celluloidref07_Matrix.f t465 t466 t467 t468 (wrap64 (a0_4 + t469)) (wrap64 (a0_5 + t470))).bind fun t471 => (if t471 = true then (some (t465, t466, t467, t468, wrap64 (a0_4 + t469), wrap64 (a0_5 + t470), 0)) else (some (0, 0, 0, 0, 0, 0, 8))))) = some (r1, r2, r3, r4, r5, r6, r7) := H
        have A29 := Aside0.mk A290
        clear A290
        replace H := Option.bind_eq_some_iff.mp H
        obtain ⟨t470, A300, H⟩ := H
        replace H : ((celluloidref07_Matrix.f t465 t466 t467 t468 (wrap64 (a0_4 + t469)) (wrap64 (a0_5 + t470))).bind fun t471 => (if t471 = true then (some (t465, t466, t467, t468, wrap64 (a0_4 + t469), wrap64 (a0_5 + t470), 0)) else (some (0, 0, 0, 0, 0, 0, 8)))) = some (r1, r2, r3, r4, r5, r6, r7) := H
        have A30 := Aside0.mk A300
        clear A300
        replace H := Option.bind_eq_some_iff.mp H
        obtain ⟨t471, A310, H⟩ := H
        replace H : (if t471 = true then (some (t465, t466, t467, t468, wrap64 (a0_4 + t469), wrap64 (a0_5 + t470), 0)) else (some (0, 0, 0, 0, 0, 0, 8))) = some (r1, r2, r3, r4, r5, r6, r7) := H
        have A31 := Aside0.mk A310
        clear A310
        by_cases c32 : t471 = true
        · subst c32
          have H1 : (some (t465, t466, t467, t468, wrap64 (a0_4 + t469), wrap64 (a0_5 + t470), 0)) = some (r1, r2, r3, r4, r5, r6, r7) := by rw [if_pos rfl] at H; exact H
          clear H
          have H := H1
          clear H1
          simp only [Option.some.injEq, Prod.mk.injEq] at H
          obtain ⟨rfl, rfl, rfl, rfl, rfl, rfl, rfl⟩ := H
          try go_wp2_with (first | ((with_reducible refine gate_dst (N := 6) rfl ?_); refine box_event ?hg (N := 6) ?hd (cs := #[.int .i64 0, .int .i64 0, .int .i64 0, .int .i64 0, .int .i64 0, .int .i64 0]) (t := 28) ?hr ?_; (case hd => rfl); (case hg => rfl); (case hr => first | (go_simp; done) | (go_simp; rfl)); intro gb464 hg w33 hbox hb; have n0_ := Aside0.mk (blk_below (g := gb459) (o := .cells #[.int .i64 a0_0, .int .i64 a0_1, .int .i64 a0_2, .int .i64 a0_3, .int .i64 a0_4, .int .i64 a0_5] 28 (0, 0)) (by (with_reducible repeat (first | refine blk_drewN ?_ _ | refine blk_drew ?_ | refine blk_alloc ?_ _)); exact BK459.out) hb); have n1_ := Aside0.mk (blk_below (g := gb460) (o := .cells #[.int .i64 a1_0, .int .i64 a1_1, .int .i64 a1_2, .int .i64 a1_3, .int .i64 a1_4, .int .i64 a1_5] 28 (0, 0)) (by (with_reducible repeat (first | refine blk_drewN ?_ _ | refine blk_drew ?_ | refine blk_alloc ?_ _)); exact BK460.out) hb); have n2_ := Aside0.mk (blk_below (g := gb461) (o := .cells #[.int .i64 0, .int .i64 0, .int .i64 0, .int .i64 0, .int .i64 0, .int .i64 0] 28 (0, 0)) (by (with_reducible repeat (first | refine blk_drewN ?_ _ | refine blk_drew ?_ | refine blk_alloc ?_ _)); exact BK461.out) hb); have n3_ := Aside0.mk (below_step (by repeat (first | (with_reducible first | exact HB.out | apply below_alloc | apply pw_below_drewN | apply below_drew1 | refine below_set ?_ GE459.out | refine below_set ?_ GE460.out | refine below_set ?_ GE461.out) | exact HB.out)) hb); have n4_ := Aside0.mk (hbox); have n5_ := Aside0.mk ((by rw [hg]; exact (below_size (by repeat (first | (with_reducible first | exact HB.out | apply below_alloc | apply pw_below_drewN | apply below_drew1 | refine below_set ?_ GE459.out | refine below_set ?_ GE460.out | refine below_set ?_ GE461.out) | exact HB.out))) : w.heap.size ≤ gb464)); have n6_ := Aside0.mk ((by rw [hg]; exact (below_size (by repeat (first | (with_reducible first | exact HB.out | apply below_alloc | apply pw_below_drewN | apply below_drew1 | refine below_set ?_ GE459.out | refine below_set ?_ GE460.out | refine below_set ?_ GE461.out) | exact HB.out))) : w.heap.size ≤ gb464)); have n7_ := Aside0.mk ((by rw [hg]; exact Nat.ne_of_lt (blk_lt (g := gb459) (o := .cells #[.int .i64 a0_0, .int .i64 a0_1, .int .i64 a0_2, .int .i64 a0_3, .int .i64 a0_4, .int .i64 a0_5] 28 (0, 0)) (by (with_reducible repeat (first | refine blk_drewN ?_ _ | refine blk_drew ?_ | refine blk_alloc ?_ _)); exact BK459.out)) : gb459 ≠ gb464)); have n8_ := Aside0.mk ((by rw [hg]; exact Nat.ne_of_gt (blk_lt (g := gb459) (o := .cells #[.int .i64 a0_0, .int .i64 a0_1, .int .i64 a0_2, .int .i64 a0_3, .int .i64 a0_4, .int .i64 a0_5] 28 (0, 0)) (by (with_reducible repeat (first | refine blk_drewN ?_ _ | refine blk_drew ?_ | refine blk_alloc ?_ _)); exact BK459.out)) : gb464 ≠ gb459)); have n9_ := Aside0.mk ((by rw [hg]; exact Nat.ne_of_lt (blk_lt (g := gb460) (o := .cells #[.int .i64 a1_0, .int .i64 a1_1, .int .i64 a1_2, .int .i64 a1_3, .int .i64 a1_4, .int .i64 a1_5] 28 (0, 0)) (by (with_reducible repeat (first | refine blk_drewN ?_ _ | refine blk_drew ?_ | refine blk_alloc ?_ _)); exact BK460.out)) : gb460 ≠ gb464)); have n10_ := Aside0.mk ((by rw [hg]; exact Nat.ne_of_gt (blk_lt (g := gb460) (o := .cells #[.int .i64 a1_0, .int .i64 a1_1, .int .i64 a1_2, .int .i64 a1_3, .int .i64 a1_4, .int .i64 a1_5] 28 (0, 0)) (by (with_reducible repeat (first | refine blk_drewN ?_ _ | refine blk_drew ?_ | refine blk_alloc ?_ _)); exact BK460.out)) : gb464 ≠ gb460)); have n11_ := Aside0.mk ((by rw [hg]; exact Nat.ne_of_lt (blk_lt (g := gb461) (o := .cells #[.int .i64 0, .int .i64 0, .int .i64 0, .int .i64 0, .int .i64 0, .int .i64 0] 28 (0, 0)) (by (with_reducible repeat (first | refine blk_drewN ?_ _ | refine blk_drew ?_ | refine blk_alloc ?_ _)); exact BK461.out)) : gb461 ≠ gb464)); have n12_ := Aside0.mk ((by rw [hg]; exact Nat.ne_of_gt (blk_lt (g := gb461) (o := .cells #[.int .i64 0, .int .i64 0, .int .i64 0, .int .i64 0, .int .i64 0, .int .i64 0] 28 (0, 0)) (by (with_reducible repeat (first | refine blk_drewN ?_ _ | refine blk_drew ?_ | refine blk_alloc ?_ _)); exact BK461.out)) : gb464 ≠ gb461)); clear BK459; clear BK460; clear BK461; clear HB; have BK459 := n0_; have BK460 := n1_; have BK461 := n2_; have HB := n3_; have BK464 := n4_; have GW464 := n5_; have GE464 := n6_; have NB459_464 := n7_; have NB464_459 := n8_; have NB460_464 := n9_; have NB464_460 := n10_; have NB461_464 := n11_; have NB464_461 := n12_; clear n0_ n1_ n2_ n3_ n4_ n5_ n6_ n7_ n8_ n9_ n10_ n11_ n12_; clear hb hbox hg; have hnb34 := NB459_460.out; have hnc34 := NB460_459.out; have hnb35 := NB459_461.out; have hnc35 := NB461_459.out; have hnb36 := NB459_464.out; have hnc36 := NB464_459.out; have hcz37_0 : w33.cell? ⟨gb459, 0, none⟩ = some (.int .i64 a0_0) := (blk_cell BK459.out 0).trans rfl; have hcz37_1 : w33.cell? ⟨gb459, 1, none⟩ = some (.int .i64 a0_1) := (blk_cell BK459.out 1).trans rfl; have hcz37_2 : w33.cell? ⟨gb459, 2, none⟩ = some (.int .i64 a0_2) := (blk_cell BK459.out 2).trans rfl; have hcz37_3 : w33.cell? ⟨gb459, 3, none⟩ = some (.int .i64 a0_3) := (blk_cell BK459.out 3).trans rfl; have hcz37_4 : w33.cell? ⟨gb459, 4, none⟩ = some (.int .i64 a0_4) := (blk_cell BK459.out 4).trans rfl; have hcz37_5 : w33.cell? ⟨gb459, 5, none⟩ = some (.int .i64 a0_5) := (blk_cell BK459.out 5).trans rfl; have hfz37_0 := blk_frozen BK459.out 0; have hfz37_1 := blk_frozen BK459.out 1; have hfz37_2 := blk_frozen BK459.out 2; have hfz37_3 := blk_frozen BK459.out 3; have hfz37_4 := blk_frozen BK459.out 4; have hfz37_5 := blk_frozen BK459.out 5; have hnb38 := NB460_461.out; have hnc38 := NB461_460.out; have hnb39 := NB460_464.out; have hnc39 := NB464_460.out; have hcz40_0 : w33.cell? ⟨gb460, 0, none⟩ = some (.int .i64 a1_0) := (blk_cell BK460.out 0).trans rfl; have hcz40_1 : w33.cell? ⟨gb460, 1, none⟩ = some (.int .i64 a1_1) := (blk_cell BK460.out 1).trans rfl; have hcz40_2 : w33.cell? ⟨gb460, 2, none⟩ = some (.int .i64 a1_2) := (blk_cell BK460.out 2).trans rfl; have hcz40_3 : w33.cell? ⟨gb460, 3, none⟩ = some (.int .i64 a1_3) := (blk_cell BK460.out 3).trans rfl; have hcz40_4 : w33.cell? ⟨gb460, 4, none⟩ = some (.int .i64 a1_4) := (blk_cell BK460.out 4).trans rfl; have hcz40_5 : w33.cell? ⟨gb460, 5, none⟩ = some (.int .i64 a1_5) := (blk_cell BK460.out 5).trans rfl; have hfz40_0 := blk_frozen BK460.out 0; have hfz40_1 := blk_frozen BK460.out 1; have hfz40_2 := blk_frozen BK460.out 2; have hfz40_3 := blk_frozen BK460.out 3; have hfz40_4 := blk_frozen BK460.out 4; have hfz40_5 := blk_frozen BK460.out 5) | ((with_reducible refine gate_callee (f := 63) rfl ?_); refine goesL_ (some 27) rfl rfl Try.func63 (by kernel_rfl) rfl #[.int .i64 (wrap64 ((wrap64 (a0_0 * a1_0)) + (wrap64 (a0_2 * a1_1)))), .int .i64 65536] rfl (by (try simp only [List.map_toArray, List.map_cons, List.map_nil]); first | done | rfl | (simp only [List.length_drop, List.length_take]; rfl)) ?_; (with_reducible refine (celluloidref14_floor.calls (wrap64 ((wrap64 (a0_0 * a1_0)) + (wrap64 (a0_2 * a1_1)))) 65536 t465 _ A25.out).mono ?_); rintro e w' ⟨rfl, ⟨nd, rfl⟩⟩; refine ⟨_, rfl, ?_⟩; (repeat (rw [drewN_self w33]; generalize hq_ : World.drewN w33 _ = w33; have n0_ : Aside0 (w33.heap[gb459]? = some (.cells #[.int .i64 a0_0, .int .i64 a0_1, .int .i64 a0_2, .int .i64 a0_3, .int .i64 a0_4, .int .i64 a0_5] 28 (0, 0))) := ⟨by rw [← hq_]; exact (by (with_reducible repeat (first | refine blk_drewN ?_ _ | refine blk_drew ?_ | refine blk_alloc ?_ _)); exact BK459.out)⟩; have n1_ : Aside0 (w33.heap[gb460]? = some (.cells #[.int .i64 a1_0, .int .i64 a1_1, .int .i64 a1_2, .int .i64 a1_3, .int .i64 a1_4, .int .i64 a1_5] 28 (0, 0))) := ⟨by rw [← hq_]; exact (by (with_reducible repeat (first | refine blk_drewN ?_ _ | refine blk_drew ?_ | refine blk_alloc ?_ _)); exact BK460.out)⟩; have n2_ : Aside0 (w33.heap[gb461]? = some (.cells #[.int .i64 0, .int .i64 0, .int .i64 0, .int .i64 0, .int .i64 0, .int .i64 0] 28 (0, 0))) := ⟨by rw [← hq_]; exact (by (with_reducible repeat (first | refine blk_drewN ?_ _ | refine blk_drew ?_ | refine blk_alloc ?_ _)); exact BK461.out)⟩; have n3_ : Aside0 (w33.heap[gb464]? = some (.cells #[.int .i64 0, .int .i64 0, .int .i64 0, .int .i64 0, .int .i64 0, .int .i64 0] 28 (0, 0))) := ⟨by rw [← hq_]; exact (by (with_reducible repeat (first | refine blk_drewN ?_ _ | refine blk_drew ?_ | refine blk_alloc ?_ _)); exact BK464.out)⟩; have n4_ : Aside0 (Below w.heap.size w w33) := ⟨by rw [← hq_]; exact (by repeat (first | (with_reducible first | exact HB.out | apply below_alloc | apply pw_below_drewN | apply below_drew1 | refine below_set ?_ GE459.out | refine below_set ?_ GE460.out | refine below_set ?_ GE461.out | refine below_set ?_ GE464.out) | exact HB.out))⟩; clear BK459 BK460 BK461 BK464 HB hq_; have BK459 := n0_; have BK460 := n1_; have BK461 := n2_; have BK464 := n3_; have HB := n4_; clear n0_ n1_ n2_ n3_ n4_)); have hnb41 := NB464_461.out; have hnc41 := NB461_464.out; have hcz42_0 : w33.cell? ⟨gb464, 0, none⟩ = some (.int .i64 0) := (blk_cell BK464.out 0).trans rfl; have hcz42_1 : w33.cell? ⟨gb464, 1, none⟩ = some (.int .i64 0) := (blk_cell BK464.out 1).trans rfl; have hcz42_2 : w33.cell? ⟨gb464, 2, none⟩ = some (.int .i64 0) := (blk_cell BK464.out 2).trans rfl; have hcz42_3 : w33.cell? ⟨gb464, 3, none⟩ = some (.int .i64 0) := (blk_cell BK464.out 3).trans rfl; have hcz42_4 : w33.cell? ⟨gb464, 4, none⟩ = some (.int .i64 0) := (blk_cell BK464.out 4).trans rfl; have hcz42_5 : w33.cell? ⟨gb464, 5, none⟩ = some (.int .i64 0) := (blk_cell BK464.out 5).trans rfl; have hfz42_0 := blk_frozen BK464.out 0; have hfz42_1 := blk_frozen BK464.out 1; have hfz42_2 := blk_frozen BK464.out 2; have hfz42_3 := blk_frozen BK464.out 3; have hfz42_4 := blk_frozen BK464.out 4; have hfz42_5 := blk_frozen BK464.out 5; have hcz43_0 : w33.cell? ⟨gb459, 0, none⟩ = some (.int .i64 a0_0) := (blk_cell BK459.out 0).trans rfl; have hcz43_1 : w33.cell? ⟨gb459, 1, none⟩ = some (.int .i64 a0_1) := (blk_cell BK459.out 1).trans rfl; have hcz43_2 : w33.cell? ⟨gb459, 2, none⟩ = some (.int .i64 a0_2) := (blk_cell BK459.out 2).trans rfl; have hcz43_3 : w33.cell? ⟨gb459, 3, none⟩ = some (.int .i64 a0_3) := (blk_cell BK459.out 3).trans rfl; have hcz43_4 : w33.cell? ⟨gb459, 4, none⟩ = some (.int .i64 a0_4) := (blk_cell BK459.out 4).trans rfl; have hcz43_5 : w33.cell? ⟨gb459, 5, none⟩ = some (.int .i64 a0_5) := (blk_cell BK459.out 5).trans rfl; have hfz43_0 := blk_frozen BK459.out 0; have hfz43_1 := blk_frozen BK459.out 1; have hfz43_2 := blk_frozen BK459.out 2; have hfz43_3 := blk_frozen BK459.out 3; have hfz43_4 := blk_frozen BK459.out 4; have hfz43_5 := blk_frozen BK459.out 5; have hcz44_0 : w33.cell? ⟨gb460, 0, none⟩ = some (.int .i64 a1_0) := (blk_cell BK460.out 0).trans rfl; have hcz44_1 : w33.cell? ⟨gb460, 1, none⟩ = some (.int .i64 a1_1) := (blk_cell BK460.out 1).trans rfl; have hcz44_2 : w33.cell? ⟨gb460, 2, none⟩ = some (.int .i64 a1_2) := (blk_cell BK460.out 2).trans rfl; have hcz44_3 : w33.cell? ⟨gb460, 3, none⟩ = some (.int .i64 a1_3) := (blk_cell BK460.out 3).trans rfl; have hcz44_4 : w33.cell? ⟨gb460, 4, none⟩ = some (.int .i64 a1_4) := (blk_cell BK460.out 4).trans rfl; have hcz44_5 : w33.cell? ⟨gb460, 5, none⟩ = some (.int .i64 a1_5) := (blk_cell BK460.out 5).trans rfl; have hfz44_0 := blk_frozen BK460.out 0; have hfz44_1 := blk_frozen BK460.out 1; have hfz44_2 := blk_frozen BK460.out 2; have hfz44_3 := blk_frozen BK460.out 3; have hfz44_4 := blk_frozen BK460.out 4; have hfz44_5 := blk_frozen BK460.out 5) | ((with_reducible refine gate_callee (f := 63) rfl ?_); refine goesL_ (some 40) rfl rfl Try.func63 (by kernel_rfl) rfl #[.int .i64 (wrap64 ((wrap64 (a0_1 * a1_0)) + (wrap64 (a0_3 * a1_1)))), .int .i64 65536] rfl (by (try simp only [List.map_toArray, List.map_cons, List.map_nil]); first | done | rfl | (simp only [List.length_drop, List.length_take]; rfl)) ?_; (with_reducible refine (celluloidref14_floor.calls (wrap64 ((wrap64 (a0_1 * a1_0)) + (wrap64 (a0_3 * a1_1)))) 65536 t466 _ A26.out).mono ?_); rintro e w' ⟨rfl, ⟨nd, rfl⟩⟩; refine ⟨_, rfl, ?_⟩) | ((with_reducible refine gate_callee (f := 63) rfl ?_); refine goesL_ (some 53) rfl rfl Try.func63 (by kernel_rfl) rfl #[.int .i64 (wrap64 ((wrap64 (a0_0 * a1_2)) + (wrap64 (a0_2 * a1_3)))), .int .i64 65536] rfl (by (try simp only [List.map_toArray, List.map_cons, List.map_nil]); first | done | rfl | (simp only [List.length_drop, List.length_take]; rfl)) ?_; (with_reducible refine (celluloidref14_floor.calls (wrap64 ((wrap64 (a0_0 * a1_2)) + (wrap64 (a0_2 * a1_3)))) 65536 t467 _ A27.out).mono ?_); rintro e w' ⟨rfl, ⟨nd, rfl⟩⟩; refine ⟨_, rfl, ?_⟩) | ((with_reducible refine gate_callee (f := 63) rfl ?_); refine goesL_ (some 66) rfl rfl Try.func63 (by kernel_rfl) rfl #[.int .i64 (wrap64 ((wrap64 (a0_1 * a1_2)) + (wrap64 (a0_3 * a1_3)))), .int .i64 65536] rfl (by (try simp only [List.map_toArray, List.map_cons, List.map_nil]); first | done | rfl | (simp only [List.length_drop, List.length_take]; rfl)) ?_; (with_reducible refine (celluloidref14_floor.calls (wrap64 ((wrap64 (a0_1 * a1_2)) + (wrap64 (a0_3 * a1_3)))) 65536 t468 _ A28.out).mono ?_); rintro e w' ⟨rfl, ⟨nd, rfl⟩⟩; refine ⟨_, rfl, ?_⟩))
          repeat rw [drewN_set]
          repeat rw [drewN_two]
          first | (rw [drewN_self w33]; generalize hq_ : World.drewN w33 _ = wq_) | (generalize hq_ : w33 = wq_)
          have n0_ : Aside0 (((((wq_.setCell ⟨gb464, 0, none⟩ (.int .i64 t465)).setCell ⟨gb464, 1, none⟩ (.int .i64 t466)).setCell ⟨gb464, 2, none⟩ (.int .i64 t467)).setCell ⟨gb464, 3, none⟩ (.int .i64 t468)).heap[gb459]? = some (.cells #[.int .i64 a0_0, .int .i64 a0_1, .int .i64 a0_2, .int .i64 a0_3, .int .i64 a0_4, .int .i64 a0_5] 28 (0, 0))) := ⟨by rw [← hq_]; exact by (with_reducible repeat (first | refine blk_drewN ?_ _ | refine blk_drew ?_ | refine blk_alloc ?_ _)); refine blk_far ?_ NB459_464.out _; (with_reducible repeat (first | refine blk_drewN ?_ _ | refine blk_drew ?_ | refine blk_alloc ?_ _)); refine blk_far ?_ NB459_464.out _; (with_reducible repeat (first | refine blk_drewN ?_ _ | refine blk_drew ?_ | refine blk_alloc ?_ _)); refine blk_far ?_ NB459_464.out _; (with_reducible repeat (first | refine blk_drewN ?_ _ | refine blk_drew ?_ | refine blk_alloc ?_ _)); refine blk_far ?_ NB459_464.out _; (with_reducible repeat (first | refine blk_drewN ?_ _ | refine blk_drew ?_ | refine blk_alloc ?_ _)); exact BK459.out⟩
          have n1_ : Aside0 (((((wq_.setCell ⟨gb464, 0, none⟩ (.int .i64 t465)).setCell ⟨gb464, 1, none⟩ (.int .i64 t466)).setCell ⟨gb464, 2, none⟩ (.int .i64 t467)).setCell ⟨gb464, 3, none⟩ (.int .i64 t468)).heap[gb460]? = some (.cells #[.int .i64 a1_0, .int .i64 a1_1, .int .i64 a1_2, .int .i64 a1_3, .int .i64 a1_4, .int .i64 a1_5] 28 (0, 0))) := ⟨by rw [← hq_]; exact by (with_reducible repeat (first | refine blk_drewN ?_ _ | refine blk_drew ?_ | refine blk_alloc ?_ _)); refine blk_far ?_ NB460_464.out _; (with_reducible repeat (first | refine blk_drewN ?_ _ | refine blk_drew ?_ | refine blk_alloc ?_ _)); refine blk_far ?_ NB460_464.out _; (with_reducible repeat (first | refine blk_drewN ?_ _ | refine blk_drew ?_ | refine blk_alloc ?_ _)); refine blk_far ?_ NB460_464.out _; (with_reducible repeat (first | refine blk_drewN ?_ _ | refine blk_drew ?_ | refine blk_alloc ?_ _)); refine blk_far ?_ NB460_464.out _; (with_reducible repeat (first | refine blk_drewN ?_ _ | refine blk_drew ?_ | refine blk_alloc ?_ _)); exact BK460.out⟩
          have n2_ : Aside0 (((((wq_.setCell ⟨gb464, 0, none⟩ (.int .i64 t465)).setCell ⟨gb464, 1, none⟩ (.int .i64 t466)).setCell ⟨gb464, 2, none⟩ (.int .i64 t467)).setCell ⟨gb464, 3, none⟩ (.int .i64 t468)).heap[gb461]? = some (.cells #[.int .i64 0, .int .i64 0, .int .i64 0, .int .i64 0, .int .i64 0, .int .i64 0] 28 (0, 0))) := ⟨by rw [← hq_]; exact by (with_reducible repeat (first | refine blk_drewN ?_ _ | refine blk_drew ?_ | refine blk_alloc ?_ _)); refine blk_far ?_ NB461_464.out _; (with_reducible repeat (first | refine blk_drewN ?_ _ | refine blk_drew ?_ | refine blk_alloc ?_ _)); refine blk_far ?_ NB461_464.out _; (with_reducible repeat (first | refine blk_drewN ?_ _ | refine blk_drew ?_ | refine blk_alloc ?_ _)); refine blk_far ?_ NB461_464.out _; (with_reducible repeat (first | refine blk_drewN ?_ _ | refine blk_drew ?_ | refine blk_alloc ?_ _)); refine blk_far ?_ NB461_464.out _; (with_reducible repeat (first | refine blk_drewN ?_ _ | refine blk_drew ?_ | refine blk_alloc ?_ _)); exact BK461.out⟩
          have n3_ : Aside0 (((((wq_.setCell ⟨gb464, 0, none⟩ (.int .i64 t465)).setCell ⟨gb464, 1, none⟩ (.int .i64 t466)).setCell ⟨gb464, 2, none⟩ (.int .i64 t467)).setCell ⟨gb464, 3, none⟩ (.int .i64 t468)).heap[gb464]? = some (.cells #[.int .i64 t465, .int .i64 t466, .int .i64 t467, .int .i64 t468, .int .i64 0, .int .i64 0] 28 (0, 0))) := ⟨by rw [← hq_]; exact by (with_reducible repeat (first | refine blk_drewN ?_ _ | refine blk_drew ?_ | refine blk_alloc ?_ _)); refine blk_put (cs := #[.int .i64 t465, .int .i64 t466, .int .i64 t467, .int .i64 0, .int .i64 0, .int .i64 0]) ?_ 3 _ rfl; (with_reducible repeat (first | refine blk_drewN ?_ _ | refine blk_drew ?_ | refine blk_alloc ?_ _)); refine blk_put (cs := #[.int .i64 t465, .int .i64 t466, .int .i64 0, .int .i64 0, .int .i64 0, .int .i64 0]) ?_ 2 _ rfl; (with_reducible repeat (first | refine blk_drewN ?_ _ | refine blk_drew ?_ | refine blk_alloc ?_ _)); refine blk_put (cs := #[.int .i64 t465, .int .i64 0, .int .i64 0, .int .i64 0, .int .i64 0, .int .i64 0]) ?_ 1 _ rfl; (with_reducible repeat (first | refine blk_drewN ?_ _ | refine blk_drew ?_ | refine blk_alloc ?_ _)); refine blk_put (cs := #[.int .i64 0, .int .i64 0, .int .i64 0, .int .i64 0, .int .i64 0, .int .i64 0]) ?_ 0 _ rfl; (with_reducible repeat (first | refine blk_drewN ?_ _ | refine blk_drew ?_ | refine blk_alloc ?_ _)); exact BK464.out⟩
          have n4_ : Aside0 (Below w.heap.size w ((((wq_.setCell ⟨gb464, 0, none⟩ (.int .i64 t465)).setCell ⟨gb464, 1, none⟩ (.int .i64 t466)).setCell ⟨gb464, 2, none⟩ (.int .i64 t467)).setCell ⟨gb464, 3, none⟩ (.int .i64 t468))) := ⟨by rw [← hq_]; exact by repeat (first | (with_reducible first | exact HB.out | apply below_alloc | apply pw_below_drewN | apply below_drew1 | refine below_set ?_ GE459.out | refine below_set ?_ GE460.out | refine below_set ?_ GE461.out | refine below_set ?_ GE464.out) | exact HB.out)⟩
          (try clear BK459)
          (try clear BK460)
          (try clear BK461)
          (try clear BK464)
          (try clear HB)
          generalize ((((wq_.setCell ⟨gb464, 0, none⟩ (.int .i64 t465)).setCell ⟨gb464, 1, none⟩ (.int .i64 t466)).setCell ⟨gb464, 2, none⟩ (.int .i64 t467)).setCell ⟨gb464, 3, none⟩ (.int .i64 t468)) = w45 at n0_ n1_ n2_ n3_ n4_ ⊢
          have BK459 := n0_
          have BK460 := n1_
          have BK461 := n2_
          have BK464 := n3_
          have HB := n4_
          clear n0_ n1_ n2_ n3_ n4_
          (repeat (rw [drewN_self w45]; generalize hq_ : World.drewN w45 _ = w45; have n0_ : Aside0 (w45.heap[gb459]? = some (.cells #[.int .i64 a0_0, .int .i64 a0_1, .int .i64 a0_2, .int .i64 a0_3, .int .i64 a0_4, .int .i64 a0_5] 28 (0, 0))) := ⟨by rw [← hq_]; exact (by (with_reducible repeat (first | refine blk_drewN ?_ _ | refine blk_drew ?_ | refine blk_alloc ?_ _)); exact BK459.out)⟩; have n1_ : Aside0 (w45.heap[gb460]? = some (.cells #[.int .i64 a1_0, .int .i64 a1_1, .int .i64 a1_2, .int .i64 a1_3, .int .i64 a1_4, .int .i64 a1_5] 28 (0, 0))) := ⟨by rw [← hq_]; exact (by (with_reducible repeat (first | refine blk_drewN ?_ _ | refine blk_drew ?_ | refine blk_alloc ?_ _)); exact BK460.out)⟩; have n2_ : Aside0 (w45.heap[gb461]? = some (.cells #[.int .i64 0, .int .i64 0, .int .i64 0, .int .i64 0, .int .i64 0, .int .i64 0] 28 (0, 0))) := ⟨by rw [← hq_]; exact (by (with_reducible repeat (first | refine blk_drewN ?_ _ | refine blk_drew ?_ | refine blk_alloc ?_ _)); exact BK461.out)⟩; have n3_ : Aside0 (w45.heap[gb464]? = some (.cells #[.int .i64 t465, .int .i64 t466, .int .i64 t467, .int .i64 t468, .int .i64 0, .int .i64 0] 28 (0, 0))) := ⟨by rw [← hq_]; exact (by (with_reducible repeat (first | refine blk_drewN ?_ _ | refine blk_drew ?_ | refine blk_alloc ?_ _)); exact BK464.out)⟩; have n4_ : Aside0 (Below w.heap.size w w45) := ⟨by rw [← hq_]; exact (by repeat (first | (with_reducible first | exact HB.out | apply below_alloc | apply pw_below_drewN | apply below_drew1 | refine below_set ?_ GE459.out | refine below_set ?_ GE460.out | refine below_set ?_ GE461.out | refine below_set ?_ GE464.out) | exact HB.out))⟩; clear BK459 BK460 BK461 BK464 HB hq_; have BK459 := n0_; have BK460 := n1_; have BK461 := n2_; have BK464 := n3_; have HB := n4_; clear n0_ n1_ n2_ n3_ n4_))
          have n0_ := Aside0.mk (blk_drew BK459.out)
          have n1_ := Aside0.mk (blk_drew BK460.out)
          have n2_ := Aside0.mk (blk_drew BK461.out)
          have n3_ := Aside0.mk (blk_drew BK464.out)
          have n4_ := Aside0.mk (below_drew1 HB.out)
          clear BK459
          clear BK460
          clear BK461
          clear BK464
          clear HB
          have BK459 := n0_
          have BK460 := n1_
          have BK461 := n2_
          have BK464 := n3_
          have HB := n4_
          clear n0_ n1_ n2_ n3_ n4_
          refine start_ (n := 17) (S := fun w' => w'.cell? ⟨gb459, 0, none⟩ = some (.int .i64 a0_0) ∧ w'.cell? ⟨gb459, 1, none⟩ = some (.int .i64 a0_1) ∧ w'.cell? ⟨gb459, 2, none⟩ = some (.int .i64 a0_2) ∧ w'.cell? ⟨gb459, 3, none⟩ = some (.int .i64 a0_3) ∧ w'.cell? ⟨gb459, 4, none⟩ = some (.int .i64 a0_4) ∧ w'.cell? ⟨gb459, 5, none⟩ = some (.int .i64 a0_5) ∧ w'.cell? ⟨gb460, 0, none⟩ = some (.int .i64 a1_0) ∧ w'.cell? ⟨gb460, 1, none⟩ = some (.int .i64 a1_1) ∧ w'.cell? ⟨gb460, 2, none⟩ = some (.int .i64 a1_2) ∧ w'.cell? ⟨gb460, 3, none⟩ = some (.int .i64 a1_3) ∧ w'.cell? ⟨gb460, 4, none⟩ = some (.int .i64 a1_4) ∧ w'.cell? ⟨gb460, 5, none⟩ = some (.int .i64 a1_5)) (ds := []) #[false, false, false, false, false, false, false, false, false, false, false, false, false, false, false, false, false] (by kernel_rfl) rfl rfl ⟨(blk_cell BK459.out 0).trans rfl, (blk_cell BK459.out 1).trans rfl, (blk_cell BK459.out 2).trans rfl, (blk_cell BK459.out 3).trans rfl, (blk_cell BK459.out 4).trans rfl, (blk_cell BK459.out 5).trans rfl, (blk_cell BK460.out 0).trans rfl, (blk_cell BK460.out 1).trans rfl, (blk_cell BK460.out 2).trans rfl, (blk_cell BK460.out 3).trans rfl, (blk_cell BK460.out 4).trans rfl, (blk_cell BK460.out 5).trans rfl⟩ (fun hHeld => ?_); refine with_tabW celluloidref14_Compose.tab8 celluloidref14_Compose.bits8 (fun HT_ HW_ => ?_)
          generalize w45.drew = w46 at BK459 BK460 BK461 BK464 HB hHeld ⊢
          refine pure_ (i := 0) (N := some 68) (v := ?_) (a' := ?_) #[true, false, false, false, false, false, false, false, false, false, false, false, false, false, false, false, false] rfl rfl (any_of HT_.out (by kernel_rfl)) (fun _ _ _ h => h) (Or.inl ⟨by rfl, ?_⟩) ?_ ?_
          rotate_left
          · intro w'
            go_simp
            with_reducible rfl
          rotate_left
          · simp only [Act.put, List.setIfInBounds_toArray, List.set_cons_zero, List.set_cons_succ, i64_w, i32_w]
            rfl
          refine pure_ (i := 2) (N := some 70) (v := ?_) (a' := ?_) #[true, false, true, false, false, false, false, false, false, false, false, false, false, false, false, false, false] rfl rfl (any_of HT_.out (by kernel_rfl)) (fun _ _ _ h => h) (Or.inl ⟨by rfl, ?_⟩) ?_ ?_
          rotate_left
          · intro w'
            go_simp
            with_reducible rfl
          rotate_left
          · simp only [Act.put, List.setIfInBounds_toArray, List.set_cons_zero, List.set_cons_succ, i64_w, i32_w]
            rfl
          refine pure_ (i := 4) (N := some 72) (v := ?_) (a' := ?_) #[true, false, true, false, true, false, false, false, false, false, false, false, false, false, false, false, false] rfl rfl (any_of HT_.out (by kernel_rfl)) (fun _ _ _ h => h) (Or.inl ⟨by rfl, ?_⟩) ?_ ?_
          rotate_left
          · intro w'
            go_simp
            with_reducible rfl
          rotate_left
          · simp only [Act.put, List.setIfInBounds_toArray, List.set_cons_zero, List.set_cons_succ, i64_w, i32_w]
            rfl
          refine pure_ (i := 7) (N := some 75) (v := ?_) (a' := ?_) #[true, false, true, false, true, false, false, true, false, false, false, false, false, false, false, false, false] rfl rfl (any_of HT_.out (by kernel_rfl)) (fun _ _ _ h => h) (Or.inl ⟨by rfl, ?_⟩) ?_ ?_
          rotate_left
          · intro w'
            go_simp
            with_reducible rfl
          rotate_left
          · simp only [Act.put, List.setIfInBounds_toArray, List.set_cons_zero, List.set_cons_succ, i64_w, i32_w]
            rfl
          refine pure_ (i := 9) (N := some 77) (v := ?_) (a' := ?_) #[true, false, true, false, true, false, false, true, false, true, false, false, false, false, false, false, false] rfl rfl (any_of HT_.out (by kernel_rfl)) (fun _ _ _ h => h) (Or.inl ⟨by rfl, ?_⟩) ?_ ?_
          rotate_left
          · intro w'
            go_simp
            with_reducible rfl
          rotate_left
          · simp only [Act.put, List.setIfInBounds_toArray, List.set_cons_zero, List.set_cons_succ, i64_w, i32_w]
            rfl
          refine take_ (i := 1) (N := some 69) (v := ?_) (a' := ?_) #[true, true, true, false, true, false, false, true, false, true, false, false, false, false, false, false, false] rfl rfl (take_ofW HT_.out HW_.out (by kernel_rfl)) (fun _ _ _ h => h) (Or.inl ⟨by rfl, ?_⟩) hHeld ?_ ?_
          rotate_left
          · rintro w' ⟨s0, s1, s2, s3, s4, s5, s6, s7, s8, s9, s10, s11⟩
            go_simp
            with_reducible rfl
          rotate_left
          · simp only [Act.put, List.setIfInBounds_toArray, List.set_cons_zero, List.set_cons_succ, i64_w, i32_w]
            rfl
          refine take_ (i := 3) (N := some 71) (v := ?_) (a' := ?_) #[true, true, true, true, true, false, false, true, false, true, false, false, false, false, false, false, false] rfl rfl (take_ofW HT_.out HW_.out (by kernel_rfl)) (fun _ _ _ h => h) (Or.inl ⟨by rfl, ?_⟩) hHeld ?_ ?_
          rotate_left
          · rintro w' ⟨s0, s1, s2, s3, s4, s5, s6, s7, s8, s9, s10, s11⟩
            go_simp
            with_reducible rfl
          rotate_left
          · simp only [Act.put, List.setIfInBounds_toArray, List.set_cons_zero, List.set_cons_succ, i64_w, i32_w]
            rfl
          refine take_ (i := 5) (N := some 73) (v := ?_) (a' := ?_) #[true, true, true, true, true, true, false, true, false, true, false, false, false, false, false, false, false] rfl rfl (take_ofW HT_.out HW_.out (by kernel_rfl)) (fun _ _ _ h => h) (Or.inl ⟨by rfl, ?_⟩) hHeld ?_ ?_
          rotate_left
          · rintro w' ⟨s0, s1, s2, s3, s4, s5, s6, s7, s8, s9, s10, s11⟩
            go_simp
            with_reducible rfl
          rotate_left
          · simp only [Act.put, List.setIfInBounds_toArray, List.set_cons_zero, List.set_cons_succ, i64_w, i32_w]
            rfl
          refine pure_ (i := 6) (N := some 74) (v := ?_) (a' := ?_) #[true, true, true, true, true, true, true, true, false, true, false, false, false, false, false, false, false] rfl rfl (any_of HT_.out (by kernel_rfl)) (fun _ _ _ h => h) (Or.inl ⟨by rfl, ?_⟩) ?_ ?_
          rotate_left
          · intro w'
            go_simp
            with_reducible rfl
          rotate_left
          · simp only [Act.put, List.setIfInBounds_toArray, List.set_cons_zero, List.set_cons_succ, i64_w, i32_w]
            rfl
          refine take_ (i := 8) (N := some 76) (v := ?_) (a' := ?_) #[true, true, true, true, true, true, true, true, true, true, false, false, false, false, false, false, false] rfl rfl (take_ofW HT_.out HW_.out (by kernel_rfl)) (fun _ _ _ h => h) (Or.inl ⟨by rfl, ?_⟩) hHeld ?_ ?_
          rotate_left
          · rintro w' ⟨s0, s1, s2, s3, s4, s5, s6, s7, s8, s9, s10, s11⟩
            go_simp
            with_reducible rfl
          rotate_left
          · simp only [Act.put, List.setIfInBounds_toArray, List.set_cons_zero, List.set_cons_succ, i64_w, i32_w]
            rfl
          refine take_ (i := 10) (N := some 78) (v := ?_) (a' := ?_) #[true, true, true, true, true, true, true, true, true, true, true, false, false, false, false, false, false] rfl rfl (take_ofW HT_.out HW_.out (by kernel_rfl)) (fun _ _ _ h => h) (Or.inl ⟨by rfl, ?_⟩) hHeld ?_ ?_
          rotate_left
          · rintro w' ⟨s0, s1, s2, s3, s4, s5, s6, s7, s8, s9, s10, s11⟩
            go_simp
            with_reducible rfl
          rotate_left
          · simp only [Act.put, List.setIfInBounds_toArray, List.set_cons_zero, List.set_cons_succ, i64_w, i32_w]
            rfl
          refine pure_ (i := 11) (N := some 79) (v := ?_) (a' := ?_) #[true, true, true, true, true, true, true, true, true, true, true, true, false, false, false, false, false] rfl rfl (any_of HT_.out (by kernel_rfl)) (fun _ _ _ h => h) (Or.inl ⟨by rfl, ?_⟩) ?_ ?_
          rotate_left
          · intro w'
            go_simp
            with_reducible rfl
          rotate_left
          · simp only [Act.put, List.setIfInBounds_toArray, List.set_cons_zero, List.set_cons_succ, i64_w, i32_w]
            rfl
          refine pure_ (i := 12) (N := some 80) (v := ?_) (a' := ?_) #[true, true, true, true, true, true, true, true, true, true, true, true, true, false, false, false, false] rfl rfl (any_of HT_.out (by kernel_rfl)) (fun _ _ _ h => h) (Or.inl ⟨by rfl, ?_⟩) ?_ ?_
          rotate_left
          · intro w'
            go_simp
            with_reducible rfl
          rotate_left
          · simp only [Act.put, List.setIfInBounds_toArray, List.set_cons_zero, List.set_cons_succ, i64_w, i32_w]
            rfl
          refine one_ (i := 13) (N := some 81) #[true, true, true, true, true, true, true, true, true, true, true, true, true, true, false, false, false] rfl rfl (one_of HT_.out (by kernel_rfl)) (by decide) (fun K hK => ?_)
          refine goes_ Try.func63 (by kernel_rfl) rfl #[.int .i64 (wrap64 ((wrap64 (a0_0 * a1_4)) + (wrap64 (a0_2 * a1_5)))), .int .i64 65536] (by rfl) rfl rfl (by (try simp only [List.map_toArray, List.map_cons, List.map_nil]); first | done | rfl | (simp only [List.length_drop, List.length_take]; rfl)) ?_
          with_reducible refine (celluloidref14_floor.calls (wrap64 ((wrap64 (a0_0 * a1_4)) + (wrap64 (a0_2 * a1_5)))) 65536 t469 _ A29.out).mono ?_
          rintro e w' ⟨rfl, ⟨nd, rfl⟩⟩
          refine ⟨_, rfl, ?_⟩
          refine hK.out _ _ ⟨(blk_cell BK459.out 0).trans rfl, (blk_cell BK459.out 1).trans rfl, (blk_cell BK459.out 2).trans rfl, (blk_cell BK459.out 3).trans rfl, (blk_cell BK459.out 4).trans rfl, (blk_cell BK459.out 5).trans rfl, (blk_cell BK460.out 0).trans rfl, (blk_cell BK460.out 1).trans rfl, (blk_cell BK460.out 2).trans rfl, (blk_cell BK460.out 3).trans rfl, (blk_cell BK460.out 4).trans rfl, (blk_cell BK460.out 5).trans rfl⟩ (fun hHeld => ?_)
          clear hK K
          refine norm_ (a' := ?_) ?_ ?_
          rotate_left
          · show Act.put _ (some 81) _ = _
            simp only [Act.put, List.setIfInBounds_toArray, List.set_cons_zero, List.set_cons_succ, i64_w, i32_w]
            rfl
          refine pure_ (i := 14) (N := some 82) (v := ?_) (a' := ?_) #[true, true, true, true, true, true, true, true, true, true, true, true, true, true, true, false, false] rfl rfl (any_of HT_.out (by kernel_rfl)) (fun _ _ _ h => h) (Or.inl ⟨by rfl, ?_⟩) ?_ ?_
          rotate_left
          · intro w'
            go_simp
            with_reducible rfl
          rotate_left
          · simp only [Act.put, List.setIfInBounds_toArray, List.set_cons_zero, List.set_cons_succ, i64_w, i32_w]
            rfl
          refine pure_ (i := 15) (N := some 83) (v := ?_) (a' := ?_) #[true, true, true, true, true, true, true, true, true, true, true, true, true, true, true, true, false] rfl rfl (any_of HT_.out (by kernel_rfl)) (fun _ _ _ h => h) (Or.inl ⟨by rfl, ?_⟩) ?_ ?_
          rotate_left
          · intro w'
            go_simp
            with_reducible rfl
          rotate_left
          · simp only [Act.put, List.setIfInBounds_toArray, List.set_cons_zero, List.set_cons_succ, i64_w, i32_w]
            rfl
          refine one_ (i := 16) (N := none) #[true, true, true, true, true, true, true, true, true, true, true, true, true, true, true, true, true] rfl rfl (one_of HT_.out (by kernel_rfl)) (by decide) (fun K hK => ?_)
          have hs47 : w46.cell? ⟨gb464, 4, none⟩ = some (.int .i64 0) := (blk_cell BK464.out 4).trans rfl
          have hfs47 := blk_frozen BK464.out 4
          have hns47_0 := NB459_464.out
          have hns47_1 := NB460_464.out
          have hns47_2 := NB461_464.out
          have hms47_0 := NB464_459.out
          have hms47_1 := NB464_460.out
          have hms47_2 := NB464_461.out
          refine skip_ (w1 := ?_) (by rfl) rfl ?_ ?_
          rotate_left
          · go_simp
            rfl
          refine hK.out _ _ ⟨((cell_far (p := ⟨gb464, _, none⟩) NB459_464.out _).trans (hHeld.1)), ((cell_far (p := ⟨gb464, _, none⟩) NB459_464.out _).trans (hHeld.2.1)), ((cell_far (p := ⟨gb464, _, none⟩) NB459_464.out _).trans (hHeld.2.2.1)), ((cell_far (p := ⟨gb464, _, none⟩) NB459_464.out _).trans (hHeld.2.2.2.1)), ((cell_far (p := ⟨gb464, _, none⟩) NB459_464.out _).trans (hHeld.2.2.2.2.1)), ((cell_far (p := ⟨gb464, _, none⟩) NB459_464.out _).trans (hHeld.2.2.2.2.2.1)), ((cell_far (p := ⟨gb464, _, none⟩) NB460_464.out _).trans (hHeld.2.2.2.2.2.2.1)), ((cell_far (p := ⟨gb464, _, none⟩) NB460_464.out _).trans (hHeld.2.2.2.2.2.2.2.1)), ((cell_far (p := ⟨gb464, _, none⟩) NB460_464.out _).trans (hHeld.2.2.2.2.2.2.2.2.1)), ((cell_far (p := ⟨gb464, _, none⟩) NB460_464.out _).trans (hHeld.2.2.2.2.2.2.2.2.2.1)), ((cell_far (p := ⟨gb464, _, none⟩) NB460_464.out _).trans (hHeld.2.2.2.2.2.2.2.2.2.2.1)), ((cell_far (p := ⟨gb464, _, none⟩) NB460_464.out _).trans (hHeld.2.2.2.2.2.2.2.2.2.2.2))⟩ (fun hHeld => ?_)
          clear hK K
          refine done_ (done_of HT_.out (by kernel_rfl)) ?_
          try go_wp2
          repeat rw [drewN_set]
          repeat rw [drewN_two]
          first | (rw [drewN_self w46]; generalize hq_ : World.drewN w46 _ = wq_) | (generalize hq_ : w46 = wq_)
          have n0_ : Aside0 ((wq_.setCell ⟨gb464, 4, none⟩ (.int .i64 (wrap64 (a0_4 + t469)))).heap[gb459]? = some (.cells #[.int .i64 a0_0, .int .i64 a0_1, .int .i64 a0_2, .int .i64 a0_3, .int .i64 a0_4, .int .i64 a0_5] 28 (0, 0))) := ⟨by rw [← hq_]; exact by (with_reducible repeat (first | refine blk_drewN ?_ _ | refine blk_drew ?_ | refine blk_alloc ?_ _)); refine blk_far ?_ NB459_464.out _; (with_reducible repeat (first | refine blk_drewN ?_ _ | refine blk_drew ?_ | refine blk_alloc ?_ _)); exact BK459.out⟩
          have n1_ : Aside0 ((wq_.setCell ⟨gb464, 4, none⟩ (.int .i64 (wrap64 (a0_4 + t469)))).heap[gb460]? = some (.cells #[.int .i64 a1_0, .int .i64 a1_1, .int .i64 a1_2, .int .i64 a1_3, .int .i64 a1_4, .int .i64 a1_5] 28 (0, 0))) := ⟨by rw [← hq_]; exact by (with_reducible repeat (first | refine blk_drewN ?_ _ | refine blk_drew ?_ | refine blk_alloc ?_ _)); refine blk_far ?_ NB460_464.out _; (with_reducible repeat (first | refine blk_drewN ?_ _ | refine blk_drew ?_ | refine blk_alloc ?_ _)); exact BK460.out⟩
          have n2_ : Aside0 ((wq_.setCell ⟨gb464, 4, none⟩ (.int .i64 (wrap64 (a0_4 + t469)))).heap[gb461]? = some (.cells #[.int .i64 0, .int .i64 0, .int .i64 0, .int .i64 0, .int .i64 0, .int .i64 0] 28 (0, 0))) := ⟨by rw [← hq_]; exact by (with_reducible repeat (first | refine blk_drewN ?_ _ | refine blk_drew ?_ | refine blk_alloc ?_ _)); refine blk_far ?_ NB461_464.out _; (with_reducible repeat (first | refine blk_drewN ?_ _ | refine blk_drew ?_ | refine blk_alloc ?_ _)); exact BK461.out⟩
          have n3_ : Aside0 ((wq_.setCell ⟨gb464, 4, none⟩ (.int .i64 (wrap64 (a0_4 + t469)))).heap[gb464]? = some (.cells #[.int .i64 t465, .int .i64 t466, .int .i64 t467, .int .i64 t468, .int .i64 (wrap64 (a0_4 + t469)), .int .i64 0] 28 (0, 0))) := ⟨by rw [← hq_]; exact by (with_reducible repeat (first | refine blk_drewN ?_ _ | refine blk_drew ?_ | refine blk_alloc ?_ _)); refine blk_put (cs := #[.int .i64 t465, .int .i64 t466, .int .i64 t467, .int .i64 t468, .int .i64 0, .int .i64 0]) ?_ 4 _ rfl; (with_reducible repeat (first | refine blk_drewN ?_ _ | refine blk_drew ?_ | refine blk_alloc ?_ _)); exact BK464.out⟩
          have n4_ : Aside0 (Below w.heap.size w (wq_.setCell ⟨gb464, 4, none⟩ (.int .i64 (wrap64 (a0_4 + t469))))) := ⟨by rw [← hq_]; exact by repeat (first | (with_reducible first | exact HB.out | apply below_alloc | apply pw_below_drewN | apply below_drew1 | refine below_set ?_ GE459.out | refine below_set ?_ GE460.out | refine below_set ?_ GE461.out | refine below_set ?_ GE464.out) | exact HB.out)⟩
          (try clear BK459)
          (try clear BK460)
          (try clear BK461)
          (try clear BK464)
          (try clear HB)
          generalize (wq_.setCell ⟨gb464, 4, none⟩ (.int .i64 (wrap64 (a0_4 + t469)))) = w48 at n0_ n1_ n2_ n3_ n4_ ⊢
          have BK459 := n0_
          have BK460 := n1_
          have BK461 := n2_
          have BK464 := n3_
          have HB := n4_
          clear n0_ n1_ n2_ n3_ n4_
          (repeat (rw [drewN_self w48]; generalize hq_ : World.drewN w48 _ = w48; have n0_ : Aside0 (w48.heap[gb459]? = some (.cells #[.int .i64 a0_0, .int .i64 a0_1, .int .i64 a0_2, .int .i64 a0_3, .int .i64 a0_4, .int .i64 a0_5] 28 (0, 0))) := ⟨by rw [← hq_]; exact (by (with_reducible repeat (first | refine blk_drewN ?_ _ | refine blk_drew ?_ | refine blk_alloc ?_ _)); exact BK459.out)⟩; have n1_ : Aside0 (w48.heap[gb460]? = some (.cells #[.int .i64 a1_0, .int .i64 a1_1, .int .i64 a1_2, .int .i64 a1_3, .int .i64 a1_4, .int .i64 a1_5] 28 (0, 0))) := ⟨by rw [← hq_]; exact (by (with_reducible repeat (first | refine blk_drewN ?_ _ | refine blk_drew ?_ | refine blk_alloc ?_ _)); exact BK460.out)⟩; have n2_ : Aside0 (w48.heap[gb461]? = some (.cells #[.int .i64 0, .int .i64 0, .int .i64 0, .int .i64 0, .int .i64 0, .int .i64 0] 28 (0, 0))) := ⟨by rw [← hq_]; exact (by (with_reducible repeat (first | refine blk_drewN ?_ _ | refine blk_drew ?_ | refine blk_alloc ?_ _)); exact BK461.out)⟩; have n3_ : Aside0 (w48.heap[gb464]? = some (.cells #[.int .i64 t465, .int .i64 t466, .int .i64 t467, .int .i64 t468, .int .i64 (wrap64 (a0_4 + t469)), .int .i64 0] 28 (0, 0))) := ⟨by rw [← hq_]; exact (by (with_reducible repeat (first | refine blk_drewN ?_ _ | refine blk_drew ?_ | refine blk_alloc ?_ _)); exact BK464.out)⟩; have n4_ : Aside0 (Below w.heap.size w w48) := ⟨by rw [← hq_]; exact (by repeat (first | (with_reducible first | exact HB.out | apply below_alloc | apply pw_below_drewN | apply below_drew1 | refine below_set ?_ GE459.out | refine below_set ?_ GE460.out | refine below_set ?_ GE461.out | refine below_set ?_ GE464.out) | exact HB.out))⟩; clear BK459 BK460 BK461 BK464 HB hq_; have BK459 := n0_; have BK460 := n1_; have BK461 := n2_; have BK464 := n3_; have HB := n4_; clear n0_ n1_ n2_ n3_ n4_))
          have n0_ := Aside0.mk (blk_drew BK459.out)
          have n1_ := Aside0.mk (blk_drew BK460.out)
          have n2_ := Aside0.mk (blk_drew BK461.out)
          have n3_ := Aside0.mk (blk_drew BK464.out)
          have n4_ := Aside0.mk (below_drew1 HB.out)
          clear BK459
          clear BK460
          clear BK461
          clear BK464
          clear HB
          have BK459 := n0_
          have BK460 := n1_
          have BK461 := n2_
          have BK464 := n3_
          have HB := n4_
          clear n0_ n1_ n2_ n3_ n4_
          refine start_ (n := 17) (S := fun w' => w'.cell? ⟨gb459, 0, none⟩ = some (.int .i64 a0_0) ∧ w'.cell? ⟨gb459, 1, none⟩ = some (.int .i64 a0_1) ∧ w'.cell? ⟨gb459, 2, none⟩ = some (.int .i64 a0_2) ∧ w'.cell? ⟨gb459, 3, none⟩ = some (.int .i64 a0_3) ∧ w'.cell? ⟨gb459, 4, none⟩ = some (.int .i64 a0_4) ∧ w'.cell? ⟨gb459, 5, none⟩ = some (.int .i64 a0_5) ∧ w'.cell? ⟨gb460, 0, none⟩ = some (.int .i64 a1_0) ∧ w'.cell? ⟨gb460, 1, none⟩ = some (.int .i64 a1_1) ∧ w'.cell? ⟨gb460, 2, none⟩ = some (.int .i64 a1_2) ∧ w'.cell? ⟨gb460, 3, none⟩ = some (.int .i64 a1_3) ∧ w'.cell? ⟨gb460, 4, none⟩ = some (.int .i64 a1_4) ∧ w'.cell? ⟨gb460, 5, none⟩ = some (.int .i64 a1_5)) (ds := []) #[false, false, false, false, false, false, false, false, false, false, false, false, false, false, false, false, false] (by kernel_rfl) rfl rfl ⟨(blk_cell BK459.out 0).trans rfl, (blk_cell BK459.out 1).trans rfl, (blk_cell BK459.out 2).trans rfl, (blk_cell BK459.out 3).trans rfl, (blk_cell BK459.out 4).trans rfl, (blk_cell BK459.out 5).trans rfl, (blk_cell BK460.out 0).trans rfl, (blk_cell BK460.out 1).trans rfl, (blk_cell BK460.out 2).trans rfl, (blk_cell BK460.out 3).trans rfl, (blk_cell BK460.out 4).trans rfl, (blk_cell BK460.out 5).trans rfl⟩ (fun hHeld => ?_); refine with_tabW celluloidref14_Compose.tab9 celluloidref14_Compose.bits9 (fun HT_ HW_ => ?_)
          generalize w48.drew = w49 at BK459 BK460 BK461 BK464 HB hHeld ⊢
          refine pure_ (i := 0) (N := some 84) (v := ?_) (a' := ?_) #[true, false, false, false, false, false, false, false, false, false, false, false, false, false, false, false, false] rfl rfl (any_of HT_.out (by kernel_rfl)) (fun _ _ _ h => h) (Or.inl ⟨by rfl, ?_⟩) ?_ ?_
          rotate_left
          · intro w'
            go_simp
            with_reducible rfl
          rotate_left
          · simp only [Act.put, List.setIfInBounds_toArray, List.set_cons_zero, List.set_cons_succ, i64_w, i32_w]
            rfl
          refine pure_ (i := 2) (N := some 86) (v := ?_) (a' := ?_) #[true, false, true, false, false, false, false, false, false, false, false, false, false, false, false, false, false] rfl rfl (any_of HT_.out (by kernel_rfl)) (fun _ _ _ h => h) (Or.inl ⟨by rfl, ?_⟩) ?_ ?_
          rotate_left
          · intro w'
            go_simp
            with_reducible rfl
          rotate_left
          · simp only [Act.put, List.setIfInBounds_toArray, List.set_cons_zero, List.set_cons_succ, i64_w, i32_w]
            rfl
          refine pure_ (i := 4) (N := some 88) (v := ?_) (a' := ?_) #[true, false, true, false, true, false, false, false, false, false, false, false, false, false, false, false, false] rfl rfl (any_of HT_.out (by kernel_rfl)) (fun _ _ _ h => h) (Or.inl ⟨by rfl, ?_⟩) ?_ ?_
          rotate_left
          · intro w'
            go_simp
            with_reducible rfl
          rotate_left
          · simp only [Act.put, List.setIfInBounds_toArray, List.set_cons_zero, List.set_cons_succ, i64_w, i32_w]
            rfl
          refine pure_ (i := 7) (N := some 91) (v := ?_) (a' := ?_) #[true, false, true, false, true, false, false, true, false, false, false, false, false, false, false, false, false] rfl rfl (any_of HT_.out (by kernel_rfl)) (fun _ _ _ h => h) (Or.inl ⟨by rfl, ?_⟩) ?_ ?_
          rotate_left
          · intro w'
            go_simp
            with_reducible rfl
          rotate_left
          · simp only [Act.put, List.setIfInBounds_toArray, List.set_cons_zero, List.set_cons_succ, i64_w, i32_w]
            rfl
          refine pure_ (i := 9) (N := some 93) (v := ?_) (a' := ?_) #[true, false, true, false, true, false, false, true, false, true, false, false, false, false, false, false, false] rfl rfl (any_of HT_.out (by kernel_rfl)) (fun _ _ _ h => h) (Or.inl ⟨by rfl, ?_⟩) ?_ ?_
          rotate_left
          · intro w'
            go_simp
            with_reducible rfl
          rotate_left
          · simp only [Act.put, List.setIfInBounds_toArray, List.set_cons_zero, List.set_cons_succ, i64_w, i32_w]
            rfl
          refine take_ (i := 1) (N := some 85) (v := ?_) (a' := ?_) #[true, true, true, false, true, false, false, true, false, true, false, false, false, false, false, false, false] rfl rfl (take_ofW HT_.out HW_.out (by kernel_rfl)) (fun _ _ _ h => h) (Or.inl ⟨by rfl, ?_⟩) hHeld ?_ ?_
          rotate_left
          · rintro w' ⟨s0, s1, s2, s3, s4, s5, s6, s7, s8, s9, s10, s11⟩
            go_simp
            with_reducible rfl
          rotate_left
          · simp only [Act.put, List.setIfInBounds_toArray, List.set_cons_zero, List.set_cons_succ, i64_w, i32_w]
            rfl
          refine take_ (i := 3) (N := some 87) (v := ?_) (a' := ?_) #[true, true, true, true, true, false, false, true, false, true, false, false, false, false, false, false, false] rfl rfl (take_ofW HT_.out HW_.out (by kernel_rfl)) (fun _ _ _ h => h) (Or.inl ⟨by rfl, ?_⟩) hHeld ?_ ?_
          rotate_left
          · rintro w' ⟨s0, s1, s2, s3, s4, s5, s6, s7, s8, s9, s10, s11⟩
            go_simp
            with_reducible rfl
          rotate_left
          · simp only [Act.put, List.setIfInBounds_toArray, List.set_cons_zero, List.set_cons_succ, i64_w, i32_w]
            rfl
          refine take_ (i := 5) (N := some 89) (v := ?_) (a' := ?_) #[true, true, true, true, true, true, false, true, false, true, false, false, false, false, false, false, false] rfl rfl (take_ofW HT_.out HW_.out (by kernel_rfl)) (fun _ _ _ h => h) (Or.inl ⟨by rfl, ?_⟩) hHeld ?_ ?_
          rotate_left
          · rintro w' ⟨s0, s1, s2, s3, s4, s5, s6, s7, s8, s9, s10, s11⟩
            go_simp
            with_reducible rfl
          rotate_left
          · simp only [Act.put, List.setIfInBounds_toArray, List.set_cons_zero, List.set_cons_succ, i64_w, i32_w]
            rfl
          refine pure_ (i := 6) (N := some 90) (v := ?_) (a' := ?_) #[true, true, true, true, true, true, true, true, false, true, false, false, false, false, false, false, false] rfl rfl (any_of HT_.out (by kernel_rfl)) (fun _ _ _ h => h) (Or.inl ⟨by rfl, ?_⟩) ?_ ?_
          rotate_left
          · intro w'
            go_simp
            with_reducible rfl
          rotate_left
          · simp only [Act.put, List.setIfInBounds_toArray, List.set_cons_zero, List.set_cons_succ, i64_w, i32_w]
            rfl
          refine take_ (i := 8) (N := some 92) (v := ?_) (a' := ?_) #[true, true, true, true, true, true, true, true, true, true, false, false, false, false, false, false, false] rfl rfl (take_ofW HT_.out HW_.out (by kernel_rfl)) (fun _ _ _ h => h) (Or.inl ⟨by rfl, ?_⟩) hHeld ?_ ?_
          rotate_left
          · rintro w' ⟨s0, s1, s2, s3, s4, s5, s6, s7, s8, s9, s10, s11⟩
            go_simp
            with_reducible rfl
          rotate_left
          · simp only [Act.put, List.setIfInBounds_toArray, List.set_cons_zero, List.set_cons_succ, i64_w, i32_w]
            rfl
          refine take_ (i := 10) (N := some 94) (v := ?_) (a' := ?_) #[true, true, true, true, true, true, true, true, true, true, true, false, false, false, false, false, false] rfl rfl (take_ofW HT_.out HW_.out (by kernel_rfl)) (fun _ _ _ h => h) (Or.inl ⟨by rfl, ?_⟩) hHeld ?_ ?_
          rotate_left
          · rintro w' ⟨s0, s1, s2, s3, s4, s5, s6, s7, s8, s9, s10, s11⟩
            go_simp
            with_reducible rfl
          rotate_left
          · simp only [Act.put, List.setIfInBounds_toArray, List.set_cons_zero, List.set_cons_succ, i64_w, i32_w]
            rfl
          refine pure_ (i := 11) (N := some 95) (v := ?_) (a' := ?_) #[true, true, true, true, true, true, true, true, true, true, true, true, false, false, false, false, false] rfl rfl (any_of HT_.out (by kernel_rfl)) (fun _ _ _ h => h) (Or.inl ⟨by rfl, ?_⟩) ?_ ?_
          rotate_left
          · intro w'
            go_simp
            with_reducible rfl
          rotate_left
          · simp only [Act.put, List.setIfInBounds_toArray, List.set_cons_zero, List.set_cons_succ, i64_w, i32_w]
            rfl
          refine pure_ (i := 12) (N := some 96) (v := ?_) (a' := ?_) #[true, true, true, true, true, true, true, true, true, true, true, true, true, false, false, false, false] rfl rfl (any_of HT_.out (by kernel_rfl)) (fun _ _ _ h => h) (Or.inl ⟨by rfl, ?_⟩) ?_ ?_
          rotate_left
          · intro w'
            go_simp
            with_reducible rfl
          rotate_left
          · simp only [Act.put, List.setIfInBounds_toArray, List.set_cons_zero, List.set_cons_succ, i64_w, i32_w]
            rfl
          refine one_ (i := 13) (N := some 97) #[true, true, true, true, true, true, true, true, true, true, true, true, true, true, false, false, false] rfl rfl (one_of HT_.out (by kernel_rfl)) (by decide) (fun K hK => ?_)
          refine goes_ Try.func63 (by kernel_rfl) rfl #[.int .i64 (wrap64 ((wrap64 (a0_1 * a1_4)) + (wrap64 (a0_3 * a1_5)))), .int .i64 65536] (by rfl) rfl rfl (by (try simp only [List.map_toArray, List.map_cons, List.map_nil]); first | done | rfl | (simp only [List.length_drop, List.length_take]; rfl)) ?_
          with_reducible refine (celluloidref14_floor.calls (wrap64 ((wrap64 (a0_1 * a1_4)) + (wrap64 (a0_3 * a1_5)))) 65536 t470 _ A30.out).mono ?_
          rintro e w' ⟨rfl, ⟨nd, rfl⟩⟩
          refine ⟨_, rfl, ?_⟩
          refine hK.out _ _ ⟨(blk_cell BK459.out 0).trans rfl, (blk_cell BK459.out 1).trans rfl, (blk_cell BK459.out 2).trans rfl, (blk_cell BK459.out 3).trans rfl, (blk_cell BK459.out 4).trans rfl, (blk_cell BK459.out 5).trans rfl, (blk_cell BK460.out 0).trans rfl, (blk_cell BK460.out 1).trans rfl, (blk_cell BK460.out 2).trans rfl, (blk_cell BK460.out 3).trans rfl, (blk_cell BK460.out 4).trans rfl, (blk_cell BK460.out 5).trans rfl⟩ (fun hHeld => ?_)
          clear hK K
          refine norm_ (a' := ?_) ?_ ?_
          rotate_left
          · show Act.put _ (some 97) _ = _
            simp only [Act.put, List.setIfInBounds_toArray, List.set_cons_zero, List.set_cons_succ, i64_w, i32_w]
            rfl
          refine pure_ (i := 14) (N := some 98) (v := ?_) (a' := ?_) #[true, true, true, true, true, true, true, true, true, true, true, true, true, true, true, false, false] rfl rfl (any_of HT_.out (by kernel_rfl)) (fun _ _ _ h => h) (Or.inl ⟨by rfl, ?_⟩) ?_ ?_
          rotate_left
          · intro w'
            go_simp
            with_reducible rfl
          rotate_left
          · simp only [Act.put, List.setIfInBounds_toArray, List.set_cons_zero, List.set_cons_succ, i64_w, i32_w]
            rfl
          refine pure_ (i := 15) (N := some 99) (v := ?_) (a' := ?_) #[true, true, true, true, true, true, true, true, true, true, true, true, true, true, true, true, false] rfl rfl (any_of HT_.out (by kernel_rfl)) (fun _ _ _ h => h) (Or.inl ⟨by rfl, ?_⟩) ?_ ?_
          rotate_left
          · intro w'
            go_simp
            with_reducible rfl
          rotate_left
          · simp only [Act.put, List.setIfInBounds_toArray, List.set_cons_zero, List.set_cons_succ, i64_w, i32_w]
            rfl
          refine one_ (i := 16) (N := none) #[true, true, true, true, true, true, true, true, true, true, true, true, true, true, true, true, true] rfl rfl (one_of HT_.out (by kernel_rfl)) (by decide) (fun K hK => ?_)
          have hs50 : w49.cell? ⟨gb464, 5, none⟩ = some (.int .i64 0) := (blk_cell BK464.out 5).trans rfl
          have hfs50 := blk_frozen BK464.out 5
          have hns50_0 := NB459_464.out
          have hns50_1 := NB460_464.out
          have hns50_2 := NB461_464.out
          have hms50_0 := NB464_459.out
          have hms50_1 := NB464_460.out
          have hms50_2 := NB464_461.out
          refine skip_ (w1 := ?_) (by rfl) rfl ?_ ?_
          rotate_left
          · go_simp
            rfl
          refine hK.out _ _ ⟨((cell_far (p := ⟨gb464, _, none⟩) NB459_464.out _).trans (hHeld.1)), ((cell_far (p := ⟨gb464, _, none⟩) NB459_464.out _).trans (hHeld.2.1)), ((cell_far (p := ⟨gb464, _, none⟩) NB459_464.out _).trans (hHeld.2.2.1)), ((cell_far (p := ⟨gb464, _, none⟩) NB459_464.out _).trans (hHeld.2.2.2.1)), ((cell_far (p := ⟨gb464, _, none⟩) NB459_464.out _).trans (hHeld.2.2.2.2.1)), ((cell_far (p := ⟨gb464, _, none⟩) NB459_464.out _).trans (hHeld.2.2.2.2.2.1)), ((cell_far (p := ⟨gb464, _, none⟩) NB460_464.out _).trans (hHeld.2.2.2.2.2.2.1)), ((cell_far (p := ⟨gb464, _, none⟩) NB460_464.out _).trans (hHeld.2.2.2.2.2.2.2.1)), ((cell_far (p := ⟨gb464, _, none⟩) NB460_464.out _).trans (hHeld.2.2.2.2.2.2.2.2.1)), ((cell_far (p := ⟨gb464, _, none⟩) NB460_464.out _).trans (hHeld.2.2.2.2.2.2.2.2.2.1)), ((cell_far (p := ⟨gb464, _, none⟩) NB460_464.out _).trans (hHeld.2.2.2.2.2.2.2.2.2.2.1)), ((cell_far (p := ⟨gb464, _, none⟩) NB460_464.out _).trans (hHeld.2.2.2.2.2.2.2.2.2.2.2))⟩ (fun hHeld => ?_)
          clear hK K
          refine done_ (done_of HT_.out (by kernel_rfl)) ?_
          have hcz51_0 : w49.cell? ⟨gb464, 0, none⟩ = some (.int .i64 t465) := (blk_cell BK464.out 0).trans rfl
          have hcz51_1 : w49.cell? ⟨gb464, 1, none⟩ = some (.int .i64 t466) := (blk_cell BK464.out 1).trans rfl
          have hcz51_2 : w49.cell? ⟨gb464, 2, none⟩ = some (.int .i64 t467) := (blk_cell BK464.out 2).trans rfl
          have hcz51_3 : w49.cell? ⟨gb464, 3, none⟩ = some (.int .i64 t468) := (blk_cell BK464.out 3).trans rfl
          have hcz51_4 : w49.cell? ⟨gb464, 4, none⟩ = some (.int .i64 (wrap64 (a0_4 + t469))) := (blk_cell BK464.out 4).trans rfl
          have hcz51_5 : w49.cell? ⟨gb464, 5, none⟩ = some (.int .i64 0) := (blk_cell BK464.out 5).trans rfl
          have hfz51_0 := blk_frozen BK464.out 0
          have hfz51_1 := blk_frozen BK464.out 1
          have hfz51_2 := blk_frozen BK464.out 2
          have hfz51_3 := blk_frozen BK464.out 3
          have hfz51_4 := blk_frozen BK464.out 4
          have hfz51_5 := blk_frozen BK464.out 5
          try go_wp2_with (first | ((with_reducible refine gate_callee (f := 60) rfl ?_); refine goesL_ (some 101) rfl rfl Try.func60 (by kernel_rfl) rfl #[.agg #[.int .i64 t465, .int .i64 t466, .int .i64 t467, .int .i64 t468, .int .i64 (wrap64 (a0_4 + t469)), .int .i64 (wrap64 (a0_5 + t470))]] rfl (by (try simp only [List.map_toArray, List.map_cons, List.map_nil]); first | done | rfl | (simp only [List.length_drop, List.length_take]; rfl)) ?_; (with_reducible refine (celluloidref07_Matrix.calls t465 t466 t467 t468 (wrap64 (a0_4 + t469)) (wrap64 (a0_5 + t470)) true _ A31.out).mono ?_); rintro e w52 ⟨rfl, hb⟩; refine ⟨_, rfl, ?_⟩; have n0_ := Aside0.mk (blk_below (g := gb459) (o := .cells #[.int .i64 a0_0, .int .i64 a0_1, .int .i64 a0_2, .int .i64 a0_3, .int .i64 a0_4, .int .i64 a0_5] 28 (0, 0)) (by (with_reducible repeat (first | refine blk_drewN ?_ _ | refine blk_drew ?_ | refine blk_alloc ?_ _)); refine blk_far ?_ NB459_464.out _; (with_reducible repeat (first | refine blk_drewN ?_ _ | refine blk_drew ?_ | refine blk_alloc ?_ _)); exact BK459.out) hb); have n1_ := Aside0.mk (blk_below (g := gb460) (o := .cells #[.int .i64 a1_0, .int .i64 a1_1, .int .i64 a1_2, .int .i64 a1_3, .int .i64 a1_4, .int .i64 a1_5] 28 (0, 0)) (by (with_reducible repeat (first | refine blk_drewN ?_ _ | refine blk_drew ?_ | refine blk_alloc ?_ _)); refine blk_far ?_ NB460_464.out _; (with_reducible repeat (first | refine blk_drewN ?_ _ | refine blk_drew ?_ | refine blk_alloc ?_ _)); exact BK460.out) hb); have n2_ := Aside0.mk (blk_below (g := gb461) (o := .cells #[.int .i64 0, .int .i64 0, .int .i64 0, .int .i64 0, .int .i64 0, .int .i64 0] 28 (0, 0)) (by (with_reducible repeat (first | refine blk_drewN ?_ _ | refine blk_drew ?_ | refine blk_alloc ?_ _)); refine blk_far ?_ NB461_464.out _; (with_reducible repeat (first | refine blk_drewN ?_ _ | refine blk_drew ?_ | refine blk_alloc ?_ _)); exact BK461.out) hb); have n3_ := Aside0.mk (blk_below (g := gb464) (o := .cells #[.int .i64 t465, .int .i64 t466, .int .i64 t467, .int .i64 t468, .int .i64 (wrap64 (a0_4 + t469)), .int .i64 (wrap64 (a0_5 + t470))] 28 (0, 0)) (by (with_reducible repeat (first | refine blk_drewN ?_ _ | refine blk_drew ?_ | refine blk_alloc ?_ _)); refine blk_put (cs := #[.int .i64 t465, .int .i64 t466, .int .i64 t467, .int .i64 t468, .int .i64 (wrap64 (a0_4 + t469)), .int .i64 0]) ?_ 5 _ rfl; (with_reducible repeat (first | refine blk_drewN ?_ _ | refine blk_drew ?_ | refine blk_alloc ?_ _)); exact BK464.out) hb); have n4_ := Aside0.mk (below_step (by repeat (first | (with_reducible first | exact HB.out | apply below_alloc | apply pw_below_drewN | apply below_drew1 | refine below_set ?_ GE459.out | refine below_set ?_ GE460.out | refine below_set ?_ GE461.out | refine below_set ?_ GE464.out) | exact HB.out)) hb); clear BK459; clear BK460; clear BK461; clear BK464; clear HB; have BK459 := n0_; have BK460 := n1_; have BK461 := n2_; have BK464 := n3_; have HB := n4_; clear n0_ n1_ n2_ n3_ n4_; (try clear hb); (try clear hb2); (try clear hk); (try clear hi); have hcz53_0 : w52.cell? ⟨gb464, 0, none⟩ = some (.int .i64 t465) := (blk_cell BK464.out 0).trans rfl; have hcz53_1 : w52.cell? ⟨gb464, 1, none⟩ = some (.int .i64 t466) := (blk_cell BK464.out 1).trans rfl; have hcz53_2 : w52.cell? ⟨gb464, 2, none⟩ = some (.int .i64 t467) := (blk_cell BK464.out 2).trans rfl; have hcz53_3 : w52.cell? ⟨gb464, 3, none⟩ = some (.int .i64 t468) := (blk_cell BK464.out 3).trans rfl; have hcz53_4 : w52.cell? ⟨gb464, 4, none⟩ = some (.int .i64 (wrap64 (a0_4 + t469))) := (blk_cell BK464.out 4).trans rfl; have hcz53_5 : w52.cell? ⟨gb464, 5, none⟩ = some (.int .i64 (wrap64 (a0_5 + t470))) := (blk_cell BK464.out 5).trans rfl; have hfz53_0 := blk_frozen BK464.out 0; have hfz53_1 := blk_frozen BK464.out 1; have hfz53_2 := blk_frozen BK464.out 2; have hfz53_3 := blk_frozen BK464.out 3; have hfz53_4 := blk_frozen BK464.out 4; have hfz53_5 := blk_frozen BK464.out 5; have hcz54_0 : w52.cell? ⟨gb461, 0, none⟩ = some (.int .i64 0) := (blk_cell BK461.out 0).trans rfl; have hcz54_1 : w52.cell? ⟨gb461, 1, none⟩ = some (.int .i64 0) := (blk_cell BK461.out 1).trans rfl; have hcz54_2 : w52.cell? ⟨gb461, 2, none⟩ = some (.int .i64 0) := (blk_cell BK461.out 2).trans rfl; have hcz54_3 : w52.cell? ⟨gb461, 3, none⟩ = some (.int .i64 0) := (blk_cell BK461.out 3).trans rfl; have hcz54_4 : w52.cell? ⟨gb461, 4, none⟩ = some (.int .i64 0) := (blk_cell BK461.out 4).trans rfl; have hcz54_5 : w52.cell? ⟨gb461, 5, none⟩ = some (.int .i64 0) := (blk_cell BK461.out 5).trans rfl; have hfz54_0 := blk_frozen BK461.out 0; have hfz54_1 := blk_frozen BK461.out 1; have hfz54_2 := blk_frozen BK461.out 2; have hfz54_3 := blk_frozen BK461.out 3; have hfz54_4 := blk_frozen BK461.out 4; have hfz54_5 := blk_frozen BK461.out 5))
          refine bodyPost_ret (results_ct rfl _ _ gb461 28 #[.int .i64 t465, .int .i64 t466, .int .i64 t467, .int .i64 t468, .int .i64 (wrap64 (a0_4 + t469)), .int .i64 (wrap64 (a0_5 + t470))] (0, 0) _ rfl (by (with_reducible repeat (first | refine blk_drewN ?_ _ | refine blk_drew ?_ | refine blk_alloc ?_ _)); refine blk_put (cs := #[.int .i64 t465, .int .i64 t466, .int .i64 t467, .int .i64 t468, .int .i64 (wrap64 (a0_4 + t469)), .int .i64 0]) ?_ 5 _ rfl; (with_reducible repeat (first | refine blk_drewN ?_ _ | refine blk_drew ?_ | refine blk_alloc ?_ _)); refine blk_put (cs := #[.int .i64 t465, .int .i64 t466, .int .i64 t467, .int .i64 t468, .int .i64 0, .int .i64 0]) ?_ 4 _ rfl; (with_reducible repeat (first | refine blk_drewN ?_ _ | refine blk_drew ?_ | refine blk_alloc ?_ _)); refine blk_put (cs := #[.int .i64 t465, .int .i64 t466, .int .i64 t467, .int .i64 0, .int .i64 0, .int .i64 0]) ?_ 3 _ rfl; (with_reducible repeat (first | refine blk_drewN ?_ _ | refine blk_drew ?_ | refine blk_alloc ?_ _)); refine blk_put (cs := #[.int .i64 t465, .int .i64 t466, .int .i64 0, .int .i64 0, .int .i64 0, .int .i64 0]) ?_ 2 _ rfl; (with_reducible repeat (first | refine blk_drewN ?_ _ | refine blk_drew ?_ | refine blk_alloc ?_ _)); refine blk_put (cs := #[.int .i64 t465, .int .i64 0, .int .i64 0, .int .i64 0, .int .i64 0, .int .i64 0]) ?_ 1 _ rfl; (with_reducible repeat (first | refine blk_drewN ?_ _ | refine blk_drew ?_ | refine blk_alloc ?_ _)); refine blk_put (cs := #[.int .i64 0, .int .i64 0, .int .i64 0, .int .i64 0, .int .i64 0, .int .i64 0]) ?_ 0 _ rfl; (with_reducible repeat (first | refine blk_drewN ?_ _ | refine blk_drew ?_ | refine blk_alloc ?_ _)); exact BK461.out) Try.underlying28 rfl (by kernel_rfl)) rfl ?_
          exact ⟨by first | rfl | (simp [errW_none, errW_some] <;> rfl) | (simp [*, errW_none, errW_some] <;> rfl), by repeat (first | (with_reducible first | exact HB.out | apply below_alloc | apply pw_below_drewN | apply below_drew1 | refine below_set ?_ GE459.out | refine below_set ?_ GE460.out | refine below_set ?_ GE461.out | refine below_set ?_ GE464.out) | exact HB.out)⟩
        · replace c32 := Bool.eq_false_iff.mpr c32
          subst c32
          have H1 : (some (0, 0, 0, 0, 0, 0, 8)) = some (r1, r2, r3, r4, r5, r6, r7) := by rw [if_neg (show ¬ (false = true) by decide)] at H; exact H
          clear H
          have H := H1
          clear H1
          simp only [Option.some.injEq, Prod.mk.injEq] at H
          obtain ⟨rfl, rfl, rfl, rfl, rfl, rfl, rfl⟩ := H
          try go_wp2_with (first | ((with_reducible refine gate_dst (N := 6) rfl ?_); refine box_event ?hg (N := 6) ?hd (cs := #[.int .i64 0, .int .i64 0, .int .i64 0, .int .i64 0, .int .i64 0, .int .i64 0]) (t := 28) ?hr ?_; (case hd => rfl); (case hg => rfl); (case hr => first | (go_simp; done) | (go_simp; rfl)); intro gb464 hg w55 hbox hb; have n0_ := Aside0.mk (blk_below (g := gb459) (o := .cells #[.int .i64 a0_0, .int .i64 a0_1, .int .i64 a0_2, .int .i64 a0_3, .int .i64 a0_4, .int .i64 a0_5] 28 (0, 0)) (by (with_reducible repeat (first | refine blk_drewN ?_ _ | refine blk_drew ?_ | refine blk_alloc ?_ _)); exact BK459.out) hb); have n1_ := Aside0.mk (blk_below (g := gb460) (o := .cells #[.int .i64 a1_0, .int .i64 a1_1, .int .i64 a1_2, .int .i64 a1_3, .int .i64 a1_4, .int .i64 a1_5] 28 (0, 0)) (by (with_reducible repeat (first | refine blk_drewN ?_ _ | refine blk_drew ?_ | refine blk_alloc ?_ _)); exact BK460.out) hb); have n2_ := Aside0.mk (blk_below (g := gb461) (o := .cells #[.int .i64 0, .int .i64 0, .int .i64 0, .int .i64 0, .int .i64 0, .int .i64 0] 28 (0, 0)) (by (with_reducible repeat (first | refine blk_drewN ?_ _ | refine blk_drew ?_ | refine blk_alloc ?_ _)); exact BK461.out) hb); have n3_ := Aside0.mk (below_step (by repeat (first | (with_reducible first | exact HB.out | apply below_alloc | apply pw_below_drewN | apply below_drew1 | refine below_set ?_ GE459.out | refine below_set ?_ GE460.out | refine below_set ?_ GE461.out) | exact HB.out)) hb); have n4_ := Aside0.mk (hbox); have n5_ := Aside0.mk ((by rw [hg]; exact (below_size (by repeat (first | (with_reducible first | exact HB.out | apply below_alloc | apply pw_below_drewN | apply below_drew1 | refine below_set ?_ GE459.out | refine below_set ?_ GE460.out | refine below_set ?_ GE461.out) | exact HB.out))) : w.heap.size ≤ gb464)); have n6_ := Aside0.mk ((by rw [hg]; exact (below_size (by repeat (first | (with_reducible first | exact HB.out | apply below_alloc | apply pw_below_drewN | apply below_drew1 | refine below_set ?_ GE459.out | refine below_set ?_ GE460.out | refine below_set ?_ GE461.out) | exact HB.out))) : w.heap.size ≤ gb464)); have n7_ := Aside0.mk ((by rw [hg]; exact Nat.ne_of_lt (blk_lt (g := gb459) (o := .cells #[.int .i64 a0_0, .int .i64 a0_1, .int .i64 a0_2, .int .i64 a0_3, .int .i64 a0_4, .int .i64 a0_5] 28 (0, 0)) (by (with_reducible repeat (first | refine blk_drewN ?_ _ | refine blk_drew ?_ | refine blk_alloc ?_ _)); exact BK459.out)) : gb459 ≠ gb464)); have n8_ := Aside0.mk ((by rw [hg]; exact Nat.ne_of_gt (blk_lt (g := gb459) (o := .cells #[.int .i64 a0_0, .int .i64 a0_1, .int .i64 a0_2, .int .i64 a0_3, .int .i64 a0_4, .int .i64 a0_5] 28 (0, 0)) (by (with_reducible repeat (first | refine blk_drewN ?_ _ | refine blk_drew ?_ | refine blk_alloc ?_ _)); exact BK459.out)) : gb464 ≠ gb459)); have n9_ := Aside0.mk ((by rw [hg]; exact Nat.ne_of_lt (blk_lt (g := gb460) (o := .cells #[.int .i64 a1_0, .int .i64 a1_1, .int .i64 a1_2, .int .i64 a1_3, .int .i64 a1_4, .int .i64 a1_5] 28 (0, 0)) (by (with_reducible repeat (first | refine blk_drewN ?_ _ | refine blk_drew ?_ | refine blk_alloc ?_ _)); exact BK460.out)) : gb460 ≠ gb464)); have n10_ := Aside0.mk ((by rw [hg]; exact Nat.ne_of_gt (blk_lt (g := gb460) (o := .cells #[.int .i64 a1_0, .int .i64 a1_1, .int .i64 a1_2, .int .i64 a1_3, .int .i64 a1_4, .int .i64 a1_5] 28 (0, 0)) (by (with_reducible repeat (first | refine blk_drewN ?_ _ | refine blk_drew ?_ | refine blk_alloc ?_ _)); exact BK460.out)) : gb464 ≠ gb460)); have n11_ := Aside0.mk ((by rw [hg]; exact Nat.ne_of_lt (blk_lt (g := gb461) (o := .cells #[.int .i64 0, .int .i64 0, .int .i64 0, .int .i64 0, .int .i64 0, .int .i64 0] 28 (0, 0)) (by (with_reducible repeat (first | refine blk_drewN ?_ _ | refine blk_drew ?_ | refine blk_alloc ?_ _)); exact BK461.out)) : gb461 ≠ gb464)); have n12_ := Aside0.mk ((by rw [hg]; exact Nat.ne_of_gt (blk_lt (g := gb461) (o := .cells #[.int .i64 0, .int .i64 0, .int .i64 0, .int .i64 0, .int .i64 0, .int .i64 0] 28 (0, 0)) (by (with_reducible repeat (first | refine blk_drewN ?_ _ | refine blk_drew ?_ | refine blk_alloc ?_ _)); exact BK461.out)) : gb464 ≠ gb461)); clear BK459; clear BK460; clear BK461; clear HB; have BK459 := n0_; have BK460 := n1_; have BK461 := n2_; have HB := n3_; have BK464 := n4_; have GW464 := n5_; have GE464 := n6_; have NB459_464 := n7_; have NB464_459 := n8_; have NB460_464 := n9_; have NB464_460 := n10_; have NB461_464 := n11_; have NB464_461 := n12_; clear n0_ n1_ n2_ n3_ n4_ n5_ n6_ n7_ n8_ n9_ n10_ n11_ n12_; clear hb hbox hg; have hnb56 := NB459_460.out; have hnc56 := NB460_459.out; have hnb57 := NB459_461.out; have hnc57 := NB461_459.out; have hnb58 := NB459_464.out; have hnc58 := NB464_459.out; have hcz59_0 : w55.cell? ⟨gb459, 0, none⟩ = some (.int .i64 a0_0) := (blk_cell BK459.out 0).trans rfl; have hcz59_1 : w55.cell? ⟨gb459, 1, none⟩ = some (.int .i64 a0_1) := (blk_cell BK459.out 1).trans rfl; have hcz59_2 : w55.cell? ⟨gb459, 2, none⟩ = some (.int .i64 a0_2) := (blk_cell BK459.out 2).trans rfl; have hcz59_3 : w55.cell? ⟨gb459, 3, none⟩ = some (.int .i64 a0_3) := (blk_cell BK459.out 3).trans rfl; have hcz59_4 : w55.cell? ⟨gb459, 4, none⟩ = some (.int .i64 a0_4) := (blk_cell BK459.out 4).trans rfl; have hcz59_5 : w55.cell? ⟨gb459, 5, none⟩ = some (.int .i64 a0_5) := (blk_cell BK459.out 5).trans rfl; have hfz59_0 := blk_frozen BK459.out 0; have hfz59_1 := blk_frozen BK459.out 1; have hfz59_2 := blk_frozen BK459.out 2; have hfz59_3 := blk_frozen BK459.out 3; have hfz59_4 := blk_frozen BK459.out 4; have hfz59_5 := blk_frozen BK459.out 5; have hnb60 := NB460_461.out; have hnc60 := NB461_460.out; have hnb61 := NB460_464.out; have hnc61 := NB464_460.out; have hcz62_0 : w55.cell? ⟨gb460, 0, none⟩ = some (.int .i64 a1_0) := (blk_cell BK460.out 0).trans rfl; have hcz62_1 : w55.cell? ⟨gb460, 1, none⟩ = some (.int .i64 a1_1) := (blk_cell BK460.out 1).trans rfl; have hcz62_2 : w55.cell? ⟨gb460, 2, none⟩ = some (.int .i64 a1_2) := (blk_cell BK460.out 2).trans rfl; have hcz62_3 : w55.cell? ⟨gb460, 3, none⟩ = some (.int .i64 a1_3) := (blk_cell BK460.out 3).trans rfl; have hcz62_4 : w55.cell? ⟨gb460, 4, none⟩ = some (.int .i64 a1_4) := (blk_cell BK460.out 4).trans rfl; have hcz62_5 : w55.cell? ⟨gb460, 5, none⟩ = some (.int .i64 a1_5) := (blk_cell BK460.out 5).trans rfl; have hfz62_0 := blk_frozen BK460.out 0; have hfz62_1 := blk_frozen BK460.out 1; have hfz62_2 := blk_frozen BK460.out 2; have hfz62_3 := blk_frozen BK460.out 3; have hfz62_4 := blk_frozen BK460.out 4; have hfz62_5 := blk_frozen BK460.out 5) | ((with_reducible refine gate_callee (f := 63) rfl ?_); refine goesL_ (some 27) rfl rfl Try.func63 (by kernel_rfl) rfl #[.int .i64 (wrap64 ((wrap64 (a0_0 * a1_0)) + (wrap64 (a0_2 * a1_1)))), .int .i64 65536] rfl (by (try simp only [List.map_toArray, List.map_cons, List.map_nil]); first | done | rfl | (simp only [List.length_drop, List.length_take]; rfl)) ?_; (with_reducible refine (celluloidref14_floor.calls (wrap64 ((wrap64 (a0_0 * a1_0)) + (wrap64 (a0_2 * a1_1)))) 65536 t465 _ A25.out).mono ?_); rintro e w' ⟨rfl, ⟨nd, rfl⟩⟩; refine ⟨_, rfl, ?_⟩; (repeat (rw [drewN_self w55]; generalize hq_ : World.drewN w55 _ = w55; have n0_ : Aside0 (w55.heap[gb459]? = some (.cells #[.int .i64 a0_0, .int .i64 a0_1, .int .i64 a0_2, .int .i64 a0_3, .int .i64 a0_4, .int .i64 a0_5] 28 (0, 0))) := ⟨by rw [← hq_]; exact (by (with_reducible repeat (first | refine blk_drewN ?_ _ | refine blk_drew ?_ | refine blk_alloc ?_ _)); exact BK459.out)⟩; have n1_ : Aside0 (w55.heap[gb460]? = some (.cells #[.int .i64 a1_0, .int .i64 a1_1, .int .i64 a1_2, .int .i64 a1_3, .int .i64 a1_4, .int .i64 a1_5] 28 (0, 0))) := ⟨by rw [← hq_]; exact (by (with_reducible repeat (first | refine blk_drewN ?_ _ | refine blk_drew ?_ | refine blk_alloc ?_ _)); exact BK460.out)⟩; have n2_ : Aside0 (w55.heap[gb461]? = some (.cells #[.int .i64 0, .int .i64 0, .int .i64 0, .int .i64 0, .int .i64 0, .int .i64 0] 28 (0, 0))) := ⟨by rw [← hq_]; exact (by (with_reducible repeat (first | refine blk_drewN ?_ _ | refine blk_drew ?_ | refine blk_alloc ?_ _)); exact BK461.out)⟩; have n3_ : Aside0 (w55.heap[gb464]? = some (.cells #[.int .i64 0, .int .i64 0, .int .i64 0, .int .i64 0, .int .i64 0, .int .i64 0] 28 (0, 0))) := ⟨by rw [← hq_]; exact (by (with_reducible repeat (first | refine blk_drewN ?_ _ | refine blk_drew ?_ | refine blk_alloc ?_ _)); exact BK464.out)⟩; have n4_ : Aside0 (Below w.heap.size w w55) := ⟨by rw [← hq_]; exact (by repeat (first | (with_reducible first | exact HB.out | apply below_alloc | apply pw_below_drewN | apply below_drew1 | refine below_set ?_ GE459.out | refine below_set ?_ GE460.out | refine below_set ?_ GE461.out | refine below_set ?_ GE464.out) | exact HB.out))⟩; clear BK459 BK460 BK461 BK464 HB hq_; have BK459 := n0_; have BK460 := n1_; have BK461 := n2_; have BK464 := n3_; have HB := n4_; clear n0_ n1_ n2_ n3_ n4_)); have hnb63 := NB464_461.out; have hnc63 := NB461_464.out; have hcz64_0 : w55.cell? ⟨gb464, 0, none⟩ = some (.int .i64 0) := (blk_cell BK464.out 0).trans rfl; have hcz64_1 : w55.cell? ⟨gb464, 1, none⟩ = some (.int .i64 0) := (blk_cell BK464.out 1).trans rfl; have hcz64_2 : w55.cell? ⟨gb464, 2, none⟩ = some (.int .i64 0) := (blk_cell BK464.out 2).trans rfl; have hcz64_3 : w55.cell? ⟨gb464, 3, none⟩ = some (.int .i64 0) := (blk_cell BK464.out 3).trans rfl; have hcz64_4 : w55.cell? ⟨gb464, 4, none⟩ = some (.int .i64 0) := (blk_cell BK464.out 4).trans rfl; have hcz64_5 : w55.cell? ⟨gb464, 5, none⟩ = some (.int .i64 0) := (blk_cell BK464.out 5).trans rfl; have hfz64_0 := blk_frozen BK464.out 0; have hfz64_1 := blk_frozen BK464.out 1; have hfz64_2 := blk_frozen BK464.out 2; have hfz64_3 := blk_frozen BK464.out 3; have hfz64_4 := blk_frozen BK464.out 4; have hfz64_5 := blk_frozen BK464.out 5; have hcz65_0 : w55.cell? ⟨gb459, 0, none⟩ = some (.int .i64 a0_0) := (blk_cell BK459.out 0).trans rfl; have hcz65_1 : w55.cell? ⟨gb459, 1, none⟩ = some (.int .i64 a0_1) := (blk_cell BK459.out 1).trans rfl; have hcz65_2 : w55.cell? ⟨gb459, 2, none⟩ = some (.int .i64 a0_2) := (blk_cell BK459.out 2).trans rfl; have hcz65_3 : w55.cell? ⟨gb459, 3, none⟩ = some (.int .i64 a0_3) := (blk_cell BK459.out 3).trans rfl; have hcz65_4 : w55.cell? ⟨gb459, 4, none⟩ = some (.int .i64 a0_4) := (blk_cell BK459.out 4).trans rfl; have hcz65_5 : w55.cell? ⟨gb459, 5, none⟩ = some (.int .i64 a0_5) := (blk_cell BK459.out 5).trans rfl; have hfz65_0 := blk_frozen BK459.out 0; have hfz65_1 := blk_frozen BK459.out 1; have hfz65_2 := blk_frozen BK459.out 2; have hfz65_3 := blk_frozen BK459.out 3; have hfz65_4 := blk_frozen BK459.out 4; have hfz65_5 := blk_frozen BK459.out 5; have hcz66_0 : w55.cell? ⟨gb460, 0, none⟩ = some (.int .i64 a1_0) := (blk_cell BK460.out 0).trans rfl; have hcz66_1 : w55.cell? ⟨gb460, 1, none⟩ = some (.int .i64 a1_1) := (blk_cell BK460.out 1).trans rfl; have hcz66_2 : w55.cell? ⟨gb460, 2, none⟩ = some (.int .i64 a1_2) := (blk_cell BK460.out 2).trans rfl; have hcz66_3 : w55.cell? ⟨gb460, 3, none⟩ = some (.int .i64 a1_3) := (blk_cell BK460.out 3).trans rfl; have hcz66_4 : w55.cell? ⟨gb460, 4, none⟩ = some (.int .i64 a1_4) := (blk_cell BK460.out 4).trans rfl; have hcz66_5 : w55.cell? ⟨gb460, 5, none⟩ = some (.int .i64 a1_5) := (blk_cell BK460.out 5).trans rfl; have hfz66_0 := blk_frozen BK460.out 0; have hfz66_1 := blk_frozen BK460.out 1; have hfz66_2 := blk_frozen BK460.out 2; have hfz66_3 := blk_frozen BK460.out 3; have hfz66_4 := blk_frozen BK460.out 4; have hfz66_5 := blk_frozen BK460.out 5) | ((with_reducible refine gate_callee (f := 63) rfl ?_); refine goesL_ (some 40) rfl rfl Try.func63 (by kernel_rfl) rfl #[.int .i64 (wrap64 ((wrap64 (a0_1 * a1_0)) + (wrap64 (a0_3 * a1_1)))), .int .i64 65536] rfl (by (try simp only [List.map_toArray, List.map_cons, List.map_nil]); first | done | rfl | (simp only [List.length_drop, List.length_take]; rfl)) ?_; (with_reducible refine (celluloidref14_floor.calls (wrap64 ((wrap64 (a0_1 * a1_0)) + (wrap64 (a0_3 * a1_1)))) 65536 t466 _ A26.out).mono ?_); rintro e w' ⟨rfl, ⟨nd, rfl⟩⟩; refine ⟨_, rfl, ?_⟩) | ((with_reducible refine gate_callee (f := 63) rfl ?_); refine goesL_ (some 53) rfl rfl Try.func63 (by kernel_rfl) rfl #[.int .i64 (wrap64 ((wrap64 (a0_0 * a1_2)) + (wrap64 (a0_2 * a1_3)))), .int .i64 65536] rfl (by (try simp only [List.map_toArray, List.map_cons, List.map_nil]); first | done | rfl | (simp only [List.length_drop, List.length_take]; rfl)) ?_; (with_reducible refine (celluloidref14_floor.calls (wrap64 ((wrap64 (a0_0 * a1_2)) + (wrap64 (a0_2 * a1_3)))) 65536 t467 _ A27.out).mono ?_); rintro e w' ⟨rfl, ⟨nd, rfl⟩⟩; refine ⟨_, rfl, ?_⟩) | ((with_reducible refine gate_callee (f := 63) rfl ?_); refine goesL_ (some 66) rfl rfl Try.func63 (by kernel_rfl) rfl #[.int .i64 (wrap64 ((wrap64 (a0_1 * a1_2)) + (wrap64 (a0_3 * a1_3)))), .int .i64 65536] rfl (by (try simp only [List.map_toArray, List.map_cons, List.map_nil]); first | done | rfl | (simp only [List.length_drop, List.length_take]; rfl)) ?_; (with_reducible refine (celluloidref14_floor.calls (wrap64 ((wrap64 (a0_1 * a1_2)) + (wrap64 (a0_3 * a1_3)))) 65536 t468 _ A28.out).mono ?_); rintro e w' ⟨rfl, ⟨nd, rfl⟩⟩; refine ⟨_, rfl, ?_⟩))
          repeat rw [drewN_set]
          repeat rw [drewN_two]
          first | (rw [drewN_self w55]; generalize hq_ : World.drewN w55 _ = wq_) | (generalize hq_ : w55 = wq_)
          have n0_ : Aside0 (((((wq_.setCell ⟨gb464, 0, none⟩ (.int .i64 t465)).setCell ⟨gb464, 1, none⟩ (.int .i64 t466)).setCell ⟨gb464, 2, none⟩ (.int .i64 t467)).setCell ⟨gb464, 3, none⟩ (.int .i64 t468)).heap[gb459]? = some (.cells #[.int .i64 a0_0, .int .i64 a0_1, .int .i64 a0_2, .int .i64 a0_3, .int .i64 a0_4, .int .i64 a0_5] 28 (0, 0))) := ⟨by rw [← hq_]; exact by (with_reducible repeat (first | refine blk_drewN ?_ _ | refine blk_drew ?_ | refine blk_alloc ?_ _)); refine blk_far ?_ NB459_464.out _; (with_reducible repeat (first | refine blk_drewN ?_ _ | refine blk_drew ?_ | refine blk_alloc ?_ _)); refine blk_far ?_ NB459_464.out _; (with_reducible repeat (first | refine blk_drewN ?_ _ | refine blk_drew ?_ | refine blk_alloc ?_ _)); refine blk_far ?_ NB459_464.out _; (with_reducible repeat (first | refine blk_drewN ?_ _ | refine blk_drew ?_ | refine blk_alloc ?_ _)); refine blk_far ?_ NB459_464.out _; (with_reducible repeat (first | refine blk_drewN ?_ _ | refine blk_drew ?_ | refine blk_alloc ?_ _)); exact BK459.out⟩
          have n1_ : Aside0 (((((wq_.setCell ⟨gb464, 0, none⟩ (.int .i64 t465)).setCell ⟨gb464, 1, none⟩ (.int .i64 t466)).setCell ⟨gb464, 2, none⟩ (.int .i64 t467)).setCell ⟨gb464, 3, none⟩ (.int .i64 t468)).heap[gb460]? = some (.cells #[.int .i64 a1_0, .int .i64 a1_1, .int .i64 a1_2, .int .i64 a1_3, .int .i64 a1_4, .int .i64 a1_5] 28 (0, 0))) := ⟨by rw [← hq_]; exact by (with_reducible repeat (first | refine blk_drewN ?_ _ | refine blk_drew ?_ | refine blk_alloc ?_ _)); refine blk_far ?_ NB460_464.out _; (with_reducible repeat (first | refine blk_drewN ?_ _ | refine blk_drew ?_ | refine blk_alloc ?_ _)); refine blk_far ?_ NB460_464.out _; (with_reducible repeat (first | refine blk_drewN ?_ _ | refine blk_drew ?_ | refine blk_alloc ?_ _)); refine blk_far ?_ NB460_464.out _; (with_reducible repeat (first | refine blk_drewN ?_ _ | refine blk_drew ?_ | refine blk_alloc ?_ _)); refine blk_far ?_ NB460_464.out _; (with_reducible repeat (first | refine blk_drewN ?_ _ | refine blk_drew ?_ | refine blk_alloc ?_ _)); exact BK460.out⟩
          have n2_ : Aside0 (((((wq_.setCell ⟨gb464, 0, none⟩ (.int .i64 t465)).setCell ⟨gb464, 1, none⟩ (.int .i64 t466)).setCell ⟨gb464, 2, none⟩ (.int .i64 t467)).setCell ⟨gb464, 3, none⟩ (.int .i64 t468)).heap[gb461]? = some (.cells #[.int .i64 0, .int .i64 0, .int .i64 0, .int .i64 0, .int .i64 0, .int .i64 0] 28 (0, 0))) := ⟨by rw [← hq_]; exact by (with_reducible repeat (first | refine blk_drewN ?_ _ | refine blk_drew ?_ | refine blk_alloc ?_ _)); refine blk_far ?_ NB461_464.out _; (with_reducible repeat (first | refine blk_drewN ?_ _ | refine blk_drew ?_ | refine blk_alloc ?_ _)); refine blk_far ?_ NB461_464.out _; (with_reducible repeat (first | refine blk_drewN ?_ _ | refine blk_drew ?_ | refine blk_alloc ?_ _)); refine blk_far ?_ NB461_464.out _; (with_reducible repeat (first | refine blk_drewN ?_ _ | refine blk_drew ?_ | refine blk_alloc ?_ _)); refine blk_far ?_ NB461_464.out _; (with_reducible repeat (first | refine blk_drewN ?_ _ | refine blk_drew ?_ | refine blk_alloc ?_ _)); exact BK461.out⟩
          have n3_ : Aside0 (((((wq_.setCell ⟨gb464, 0, none⟩ (.int .i64 t465)).setCell ⟨gb464, 1, none⟩ (.int .i64 t466)).setCell ⟨gb464, 2, none⟩ (.int .i64 t467)).setCell ⟨gb464, 3, none⟩ (.int .i64 t468)).heap[gb464]? = some (.cells #[.int .i64 t465, .int .i64 t466, .int .i64 t467, .int .i64 t468, .int .i64 0, .int .i64 0] 28 (0, 0))) := ⟨by rw [← hq_]; exact by (with_reducible repeat (first | refine blk_drewN ?_ _ | refine blk_drew ?_ | refine blk_alloc ?_ _)); refine blk_put (cs := #[.int .i64 t465, .int .i64 t466, .int .i64 t467, .int .i64 0, .int .i64 0, .int .i64 0]) ?_ 3 _ rfl; (with_reducible repeat (first | refine blk_drewN ?_ _ | refine blk_drew ?_ | refine blk_alloc ?_ _)); refine blk_put (cs := #[.int .i64 t465, .int .i64 t466, .int .i64 0, .int .i64 0, .int .i64 0, .int .i64 0]) ?_ 2 _ rfl; (with_reducible repeat (first | refine blk_drewN ?_ _ | refine blk_drew ?_ | refine blk_alloc ?_ _)); refine blk_put (cs := #[.int .i64 t465, .int .i64 0, .int .i64 0, .int .i64 0, .int .i64 0, .int .i64 0]) ?_ 1 _ rfl; (with_reducible repeat (first | refine blk_drewN ?_ _ | refine blk_drew ?_ | refine blk_alloc ?_ _)); refine blk_put (cs := #[.int .i64 0, .int .i64 0, .int .i64 0, .int .i64 0, .int .i64 0, .int .i64 0]) ?_ 0 _ rfl; (with_reducible repeat (first | refine blk_drewN ?_ _ | refine blk_drew ?_ | refine blk_alloc ?_ _)); exact BK464.out⟩
          have n4_ : Aside0 (Below w.heap.size w ((((wq_.setCell ⟨gb464, 0, none⟩ (.int .i64 t465)).setCell ⟨gb464, 1, none⟩ (.int .i64 t466)).setCell ⟨gb464, 2, none⟩ (.int .i64 t467)).setCell ⟨gb464, 3, none⟩ (.int .i64 t468))) := ⟨by rw [← hq_]; exact by repeat (first | (with_reducible first | exact HB.out | apply below_alloc | apply pw_below_drewN | apply below_drew1 | refine below_set ?_ GE459.out | refine below_set ?_ GE460.out | refine below_set ?_ GE461.out | refine below_set ?_ GE464.out) | exact HB.out)⟩
          (try clear BK459)
          (try clear BK460)
          (try clear BK461)
          (try clear BK464)
          (try clear HB)
          generalize ((((wq_.setCell ⟨gb464, 0, none⟩ (.int .i64 t465)).setCell ⟨gb464, 1, none⟩ (.int .i64 t466)).setCell ⟨gb464, 2, none⟩ (.int .i64 t467)).setCell ⟨gb464, 3, none⟩ (.int .i64 t468)) = w67 at n0_ n1_ n2_ n3_ n4_ ⊢
          have BK459 := n0_
          have BK460 := n1_
          have BK461 := n2_
          have BK464 := n3_
          have HB := n4_
          clear n0_ n1_ n2_ n3_ n4_
          (repeat (rw [drewN_self w67]; generalize hq_ : World.drewN w67 _ = w67; have n0_ : Aside0 (w67.heap[gb459]? = some (.cells #[.int .i64 a0_0, .int .i64 a0_1, .int .i64 a0_2, .int .i64 a0_3, .int .i64 a0_4, .int .i64 a0_5] 28 (0, 0))) := ⟨by rw [← hq_]; exact (by (with_reducible repeat (first | refine blk_drewN ?_ _ | refine blk_drew ?_ | refine blk_alloc ?_ _)); exact BK459.out)⟩; have n1_ : Aside0 (w67.heap[gb460]? = some (.cells #[.int .i64 a1_0, .int .i64 a1_1, .int .i64 a1_2, .int .i64 a1_3, .int .i64 a1_4, .int .i64 a1_5] 28 (0, 0))) := ⟨by rw [← hq_]; exact (by (with_reducible repeat (first | refine blk_drewN ?_ _ | refine blk_drew ?_ | refine blk_alloc ?_ _)); exact BK460.out)⟩; have n2_ : Aside0 (w67.heap[gb461]? = some (.cells #[.int .i64 0, .int .i64 0, .int .i64 0, .int .i64 0, .int .i64 0, .int .i64 0] 28 (0, 0))) := ⟨by rw [← hq_]; exact (by (with_reducible repeat (first | refine blk_drewN ?_ _ | refine blk_drew ?_ | refine blk_alloc ?_ _)); exact BK461.out)⟩; have n3_ : Aside0 (w67.heap[gb464]? = some (.cells #[.int .i64 t465, .int .i64 t466, .int .i64 t467, .int .i64 t468, .int .i64 0, .int .i64 0] 28 (0, 0))) := ⟨by rw [← hq_]; exact (by (with_reducible repeat (first | refine blk_drewN ?_ _ | refine blk_drew ?_ | refine blk_alloc ?_ _)); exact BK464.out)⟩; have n4_ : Aside0 (Below w.heap.size w w67) := ⟨by rw [← hq_]; exact (by repeat (first | (with_reducible first | exact HB.out | apply below_alloc | apply pw_below_drewN | apply below_drew1 | refine below_set ?_ GE459.out | refine below_set ?_ GE460.out | refine below_set ?_ GE461.out | refine below_set ?_ GE464.out) | exact HB.out))⟩; clear BK459 BK460 BK461 BK464 HB hq_; have BK459 := n0_; have BK460 := n1_; have BK461 := n2_; have BK464 := n3_; have HB := n4_; clear n0_ n1_ n2_ n3_ n4_))
          have n0_ := Aside0.mk (blk_drew BK459.out)
          have n1_ := Aside0.mk (blk_drew BK460.out)
          have n2_ := Aside0.mk (blk_drew BK461.out)
          have n3_ := Aside0.mk (blk_drew BK464.out)
          have n4_ := Aside0.mk (below_drew1 HB.out)
          clear BK459
          clear BK460
          clear BK461
          clear BK464
          clear HB
          have BK459 := n0_
          have BK460 := n1_
          have BK461 := n2_
          have BK464 := n3_
          have HB := n4_
          clear n0_ n1_ n2_ n3_ n4_
          refine start_ (n := 17) (S := fun w' => w'.cell? ⟨gb459, 0, none⟩ = some (.int .i64 a0_0) ∧ w'.cell? ⟨gb459, 1, none⟩ = some (.int .i64 a0_1) ∧ w'.cell? ⟨gb459, 2, none⟩ = some (.int .i64 a0_2) ∧ w'.cell? ⟨gb459, 3, none⟩ = some (.int .i64 a0_3) ∧ w'.cell? ⟨gb459, 4, none⟩ = some (.int .i64 a0_4) ∧ w'.cell? ⟨gb459, 5, none⟩ = some (.int .i64 a0_5) ∧ w'.cell? ⟨gb460, 0, none⟩ = some (.int .i64 a1_0) ∧ w'.cell? ⟨gb460, 1, none⟩ = some (.int .i64 a1_1) ∧ w'.cell? ⟨gb460, 2, none⟩ = some (.int .i64 a1_2) ∧ w'.cell? ⟨gb460, 3, none⟩ = some (.int .i64 a1_3) ∧ w'.cell? ⟨gb460, 4, none⟩ = some (.int .i64 a1_4) ∧ w'.cell? ⟨gb460, 5, none⟩ = some (.int .i64 a1_5)) (ds := []) #[false, false, false, false, false, false, false, false, false, false, false, false, false, false, false, false, false] (by kernel_rfl) rfl rfl ⟨(blk_cell BK459.out 0).trans rfl, (blk_cell BK459.out 1).trans rfl, (blk_cell BK459.out 2).trans rfl, (blk_cell BK459.out 3).trans rfl, (blk_cell BK459.out 4).trans rfl, (blk_cell BK459.out 5).trans rfl, (blk_cell BK460.out 0).trans rfl, (blk_cell BK460.out 1).trans rfl, (blk_cell BK460.out 2).trans rfl, (blk_cell BK460.out 3).trans rfl, (blk_cell BK460.out 4).trans rfl, (blk_cell BK460.out 5).trans rfl⟩ (fun hHeld => ?_); refine with_tabW celluloidref14_Compose.tab8 celluloidref14_Compose.bits8 (fun HT_ HW_ => ?_)
          generalize w67.drew = w68 at BK459 BK460 BK461 BK464 HB hHeld ⊢
          refine pure_ (i := 0) (N := some 68) (v := ?_) (a' := ?_) #[true, false, false, false, false, false, false, false, false, false, false, false, false, false, false, false, false] rfl rfl (any_of HT_.out (by kernel_rfl)) (fun _ _ _ h => h) (Or.inl ⟨by rfl, ?_⟩) ?_ ?_
          rotate_left
          · intro w'
            go_simp
            with_reducible rfl
          rotate_left
          · simp only [Act.put, List.setIfInBounds_toArray, List.set_cons_zero, List.set_cons_succ, i64_w, i32_w]
            rfl
          refine pure_ (i := 2) (N := some 70) (v := ?_) (a' := ?_) #[true, false, true, false, false, false, false, false, false, false, false, false, false, false, false, false, false] rfl rfl (any_of HT_.out (by kernel_rfl)) (fun _ _ _ h => h) (Or.inl ⟨by rfl, ?_⟩) ?_ ?_
          rotate_left
          · intro w'
            go_simp
            with_reducible rfl
          rotate_left
          · simp only [Act.put, List.setIfInBounds_toArray, List.set_cons_zero, List.set_cons_succ, i64_w, i32_w]
            rfl
          refine pure_ (i := 4) (N := some 72) (v := ?_) (a' := ?_) #[true, false, true, false, true, false, false, false, false, false, false, false, false, false, false, false, false] rfl rfl (any_of HT_.out (by kernel_rfl)) (fun _ _ _ h => h) (Or.inl ⟨by rfl, ?_⟩) ?_ ?_
          rotate_left
          · intro w'
            go_simp
            with_reducible rfl
          rotate_left
          · simp only [Act.put, List.setIfInBounds_toArray, List.set_cons_zero, List.set_cons_succ, i64_w, i32_w]
            rfl
          refine pure_ (i := 7) (N := some 75) (v := ?_) (a' := ?_) #[true, false, true, false, true, false, false, true, false, false, false, false, false, false, false, false, false] rfl rfl (any_of HT_.out (by kernel_rfl)) (fun _ _ _ h => h) (Or.inl ⟨by rfl, ?_⟩) ?_ ?_
          rotate_left
          · intro w'
            go_simp
            with_reducible rfl
          rotate_left
          · simp only [Act.put, List.setIfInBounds_toArray, List.set_cons_zero, List.set_cons_succ, i64_w, i32_w]
            rfl
          refine pure_ (i := 9) (N := some 77) (v := ?_) (a' := ?_) #[true, false, true, false, true, false, false, true, false, true, false, false, false, false, false, false, false] rfl rfl (any_of HT_.out (by kernel_rfl)) (fun _ _ _ h => h) (Or.inl ⟨by rfl, ?_⟩) ?_ ?_
          rotate_left
          · intro w'
            go_simp
            with_reducible rfl
          rotate_left
          · simp only [Act.put, List.setIfInBounds_toArray, List.set_cons_zero, List.set_cons_succ, i64_w, i32_w]
            rfl
          refine take_ (i := 1) (N := some 69) (v := ?_) (a' := ?_) #[true, true, true, false, true, false, false, true, false, true, false, false, false, false, false, false, false] rfl rfl (take_ofW HT_.out HW_.out (by kernel_rfl)) (fun _ _ _ h => h) (Or.inl ⟨by rfl, ?_⟩) hHeld ?_ ?_
          rotate_left
          · rintro w' ⟨s0, s1, s2, s3, s4, s5, s6, s7, s8, s9, s10, s11⟩
            go_simp
            with_reducible rfl
          rotate_left
          · simp only [Act.put, List.setIfInBounds_toArray, List.set_cons_zero, List.set_cons_succ, i64_w, i32_w]
            rfl
          refine take_ (i := 3) (N := some 71) (v := ?_) (a' := ?_) #[true, true, true, true, true, false, false, true, false, true, false, false, false, false, false, false, false] rfl rfl (take_ofW HT_.out HW_.out (by kernel_rfl)) (fun _ _ _ h => h) (Or.inl ⟨by rfl, ?_⟩) hHeld ?_ ?_
          rotate_left
          · rintro w' ⟨s0, s1, s2, s3, s4, s5, s6, s7, s8, s9, s10, s11⟩
            go_simp
            with_reducible rfl
          rotate_left
          · simp only [Act.put, List.setIfInBounds_toArray, List.set_cons_zero, List.set_cons_succ, i64_w, i32_w]
            rfl
          refine take_ (i := 5) (N := some 73) (v := ?_) (a' := ?_) #[true, true, true, true, true, true, false, true, false, true, false, false, false, false, false, false, false] rfl rfl (take_ofW HT_.out HW_.out (by kernel_rfl)) (fun _ _ _ h => h) (Or.inl ⟨by rfl, ?_⟩) hHeld ?_ ?_
          rotate_left
          · rintro w' ⟨s0, s1, s2, s3, s4, s5, s6, s7, s8, s9, s10, s11⟩
            go_simp
            with_reducible rfl
          rotate_left
          · simp only [Act.put, List.setIfInBounds_toArray, List.set_cons_zero, List.set_cons_succ, i64_w, i32_w]
            rfl
          refine pure_ (i := 6) (N := some 74) (v := ?_) (a' := ?_) #[true, true, true, true, true, true, true, true, false, true, false, false, false, false, false, false, false] rfl rfl (any_of HT_.out (by kernel_rfl)) (fun _ _ _ h => h) (Or.inl ⟨by rfl, ?_⟩) ?_ ?_
          rotate_left
          · intro w'
            go_simp
            with_reducible rfl
          rotate_left
          · simp only [Act.put, List.setIfInBounds_toArray, List.set_cons_zero, List.set_cons_succ, i64_w, i32_w]
            rfl
          refine take_ (i := 8) (N := some 76) (v := ?_) (a' := ?_) #[true, true, true, true, true, true, true, true, true, true, false, false, false, false, false, false, false] rfl rfl (take_ofW HT_.out HW_.out (by kernel_rfl)) (fun _ _ _ h => h) (Or.inl ⟨by rfl, ?_⟩) hHeld ?_ ?_
          rotate_left
          · rintro w' ⟨s0, s1, s2, s3, s4, s5, s6, s7, s8, s9, s10, s11⟩
            go_simp
            with_reducible rfl
          rotate_left
          · simp only [Act.put, List.setIfInBounds_toArray, List.set_cons_zero, List.set_cons_succ, i64_w, i32_w]
            rfl
          refine take_ (i := 10) (N := some 78) (v := ?_) (a' := ?_) #[true, true, true, true, true, true, true, true, true, true, true, false, false, false, false, false, false] rfl rfl (take_ofW HT_.out HW_.out (by kernel_rfl)) (fun _ _ _ h => h) (Or.inl ⟨by rfl, ?_⟩) hHeld ?_ ?_
          rotate_left
          · rintro w' ⟨s0, s1, s2, s3, s4, s5, s6, s7, s8, s9, s10, s11⟩
            go_simp
            with_reducible rfl
          rotate_left
          · simp only [Act.put, List.setIfInBounds_toArray, List.set_cons_zero, List.set_cons_succ, i64_w, i32_w]
            rfl
          refine pure_ (i := 11) (N := some 79) (v := ?_) (a' := ?_) #[true, true, true, true, true, true, true, true, true, true, true, true, false, false, false, false, false] rfl rfl (any_of HT_.out (by kernel_rfl)) (fun _ _ _ h => h) (Or.inl ⟨by rfl, ?_⟩) ?_ ?_
          rotate_left
          · intro w'
            go_simp
            with_reducible rfl
          rotate_left
          · simp only [Act.put, List.setIfInBounds_toArray, List.set_cons_zero, List.set_cons_succ, i64_w, i32_w]
            rfl
          refine pure_ (i := 12) (N := some 80) (v := ?_) (a' := ?_) #[true, true, true, true, true, true, true, true, true, true, true, true, true, false, false, false, false] rfl rfl (any_of HT_.out (by kernel_rfl)) (fun _ _ _ h => h) (Or.inl ⟨by rfl, ?_⟩) ?_ ?_
          rotate_left
          · intro w'
            go_simp
            with_reducible rfl
          rotate_left
          · simp only [Act.put, List.setIfInBounds_toArray, List.set_cons_zero, List.set_cons_succ, i64_w, i32_w]
            rfl
          refine one_ (i := 13) (N := some 81) #[true, true, true, true, true, true, true, true, true, true, true, true, true, true, false, false, false] rfl rfl (one_of HT_.out (by kernel_rfl)) (by decide) (fun K hK => ?_)
          refine goes_ Try.func63 (by kernel_rfl) rfl #[.int .i64 (wrap64 ((wrap64 (a0_0 * a1_4)) + (wrap64 (a0_2 * a1_5)))), .int .i64 65536] (by rfl) rfl rfl (by (try simp only [List.map_toArray, List.map_cons, List.map_nil]); first | done | rfl | (simp only [List.length_drop, List.length_take]; rfl)) ?_
          with_reducible refine (celluloidref14_floor.calls (wrap64 ((wrap64 (a0_0 * a1_4)) + (wrap64 (a0_2 * a1_5)))) 65536 t469 _ A29.out).mono ?_
          rintro e w' ⟨rfl, ⟨nd, rfl⟩⟩
          refine ⟨_, rfl, ?_⟩
          refine hK.out _ _ ⟨(blk_cell BK459.out 0).trans rfl, (blk_cell BK459.out 1).trans rfl, (blk_cell BK459.out 2).trans rfl, (blk_cell BK459.out 3).trans rfl, (blk_cell BK459.out 4).trans rfl, (blk_cell BK459.out 5).trans rfl, (blk_cell BK460.out 0).trans rfl, (blk_cell BK460.out 1).trans rfl, (blk_cell BK460.out 2).trans rfl, (blk_cell BK460.out 3).trans rfl, (blk_cell BK460.out 4).trans rfl, (blk_cell BK460.out 5).trans rfl⟩ (fun hHeld => ?_)
          clear hK K
          refine norm_ (a' := ?_) ?_ ?_
          rotate_left
          · show Act.put _ (some 81) _ = _
            simp only [Act.put, List.setIfInBounds_toArray, List.set_cons_zero, List.set_cons_succ, i64_w, i32_w]
            rfl
          refine pure_ (i := 14) (N := some 82) (v := ?_) (a' := ?_) #[true, true, true, true, true, true, true, true, true, true, true, true, true, true, true, false, false] rfl rfl (any_of HT_.out (by kernel_rfl)) (fun _ _ _ h => h) (Or.inl ⟨by rfl, ?_⟩) ?_ ?_
          rotate_left
          · intro w'
            go_simp
            with_reducible rfl
          rotate_left
          · simp only [Act.put, List.setIfInBounds_toArray, List.set_cons_zero, List.set_cons_succ, i64_w, i32_w]
            rfl
          refine pure_ (i := 15) (N := some 83) (v := ?_) (a' := ?_) #[true, true, true, true, true, true, true, true, true, true, true, true, true, true, true, true, false] rfl rfl (any_of HT_.out (by kernel_rfl)) (fun _ _ _ h => h) (Or.inl ⟨by rfl, ?_⟩) ?_ ?_
          rotate_left
          · intro w'
            go_simp
            with_reducible rfl
          rotate_left
          · simp only [Act.put, List.setIfInBounds_toArray, List.set_cons_zero, List.set_cons_succ, i64_w, i32_w]
            rfl
          refine one_ (i := 16) (N := none) #[true, true, true, true, true, true, true, true, true, true, true, true, true, true, true, true, true] rfl rfl (one_of HT_.out (by kernel_rfl)) (by decide) (fun K hK => ?_)
          have hs69 : w68.cell? ⟨gb464, 4, none⟩ = some (.int .i64 0) := (blk_cell BK464.out 4).trans rfl
          have hfs69 := blk_frozen BK464.out 4
          have hns69_0 := NB459_464.out
          have hns69_1 := NB460_464.out
          have hns69_2 := NB461_464.out
          have hms69_0 := NB464_459.out
          have hms69_1 := NB464_460.out
          have hms69_2 := NB464_461.out
          refine skip_ (w1 := ?_) (by rfl) rfl ?_ ?_
          rotate_left
          · go_simp
            rfl
          refine hK.out _ _ ⟨((cell_far (p := ⟨gb464, _, none⟩) NB459_464.out _).trans (hHeld.1)), ((cell_far (p := ⟨gb464, _, none⟩) NB459_464.out _).trans (hHeld.2.1)), ((cell_far (p := ⟨gb464, _, none⟩) NB459_464.out _).trans (hHeld.2.2.1)), ((cell_far (p := ⟨gb464, _, none⟩) NB459_464.out _).trans (hHeld.2.2.2.1)), ((cell_far (p := ⟨gb464, _, none⟩) NB459_464.out _).trans (hHeld.2.2.2.2.1)), ((cell_far (p := ⟨gb464, _, none⟩) NB459_464.out _).trans (hHeld.2.2.2.2.2.1)), ((cell_far (p := ⟨gb464, _, none⟩) NB460_464.out _).trans (hHeld.2.2.2.2.2.2.1)), ((cell_far (p := ⟨gb464, _, none⟩) NB460_464.out _).trans (hHeld.2.2.2.2.2.2.2.1)), ((cell_far (p := ⟨gb464, _, none⟩) NB460_464.out _).trans (hHeld.2.2.2.2.2.2.2.2.1)), ((cell_far (p := ⟨gb464, _, none⟩) NB460_464.out _).trans (hHeld.2.2.2.2.2.2.2.2.2.1)), ((cell_far (p := ⟨gb464, _, none⟩) NB460_464.out _).trans (hHeld.2.2.2.2.2.2.2.2.2.2.1)), ((cell_far (p := ⟨gb464, _, none⟩) NB460_464.out _).trans (hHeld.2.2.2.2.2.2.2.2.2.2.2))⟩ (fun hHeld => ?_)
          clear hK K
          refine done_ (done_of HT_.out (by kernel_rfl)) ?_
          try go_wp2
          repeat rw [drewN_set]
          repeat rw [drewN_two]
          first | (rw [drewN_self w68]; generalize hq_ : World.drewN w68 _ = wq_) | (generalize hq_ : w68 = wq_)
          have n0_ : Aside0 ((wq_.setCell ⟨gb464, 4, none⟩ (.int .i64 (wrap64 (a0_4 + t469)))).heap[gb459]? = some (.cells #[.int .i64 a0_0, .int .i64 a0_1, .int .i64 a0_2, .int .i64 a0_3, .int .i64 a0_4, .int .i64 a0_5] 28 (0, 0))) := ⟨by rw [← hq_]; exact by (with_reducible repeat (first | refine blk_drewN ?_ _ | refine blk_drew ?_ | refine blk_alloc ?_ _)); refine blk_far ?_ NB459_464.out _; (with_reducible repeat (first | refine blk_drewN ?_ _ | refine blk_drew ?_ | refine blk_alloc ?_ _)); exact BK459.out⟩
          have n1_ : Aside0 ((wq_.setCell ⟨gb464, 4, none⟩ (.int .i64 (wrap64 (a0_4 + t469)))).heap[gb460]? = some (.cells #[.int .i64 a1_0, .int .i64 a1_1, .int .i64 a1_2, .int .i64 a1_3, .int .i64 a1_4, .int .i64 a1_5] 28 (0, 0))) := ⟨by rw [← hq_]; exact by (with_reducible repeat (first | refine blk_drewN ?_ _ | refine blk_drew ?_ | refine blk_alloc ?_ _)); refine blk_far ?_ NB460_464.out _; (with_reducible repeat (first | refine blk_drewN ?_ _ | refine blk_drew ?_ | refine blk_alloc ?_ _)); exact BK460.out⟩
          have n2_ : Aside0 ((wq_.setCell ⟨gb464, 4, none⟩ (.int .i64 (wrap64 (a0_4 + t469)))).heap[gb461]? = some (.cells #[.int .i64 0, .int .i64 0, .int .i64 0, .int .i64 0, .int .i64 0, .int .i64 0] 28 (0, 0))) := ⟨by rw [← hq_]; exact by (with_reducible repeat (first | refine blk_drewN ?_ _ | refine blk_drew ?_ | refine blk_alloc ?_ _)); refine blk_far ?_ NB461_464.out _; (with_reducible repeat (first | refine blk_drewN ?_ _ | refine blk_drew ?_ | refine blk_alloc ?_ _)); exact BK461.out⟩
          have n3_ : Aside0 ((wq_.setCell ⟨gb464, 4, none⟩ (.int .i64 (wrap64 (a0_4 + t469)))).heap[gb464]? = some (.cells #[.int .i64 t465, .int .i64 t466, .int .i64 t467, .int .i64 t468, .int .i64 (wrap64 (a0_4 + t469)), .int .i64 0] 28 (0, 0))) := ⟨by rw [← hq_]; exact by (with_reducible repeat (first | refine blk_drewN ?_ _ | refine blk_drew ?_ | refine blk_alloc ?_ _)); refine blk_put (cs := #[.int .i64 t465, .int .i64 t466, .int .i64 t467, .int .i64 t468, .int .i64 0, .int .i64 0]) ?_ 4 _ rfl; (with_reducible repeat (first | refine blk_drewN ?_ _ | refine blk_drew ?_ | refine blk_alloc ?_ _)); exact BK464.out⟩
          have n4_ : Aside0 (Below w.heap.size w (wq_.setCell ⟨gb464, 4, none⟩ (.int .i64 (wrap64 (a0_4 + t469))))) := ⟨by rw [← hq_]; exact by repeat (first | (with_reducible first | exact HB.out | apply below_alloc | apply pw_below_drewN | apply below_drew1 | refine below_set ?_ GE459.out | refine below_set ?_ GE460.out | refine below_set ?_ GE461.out | refine below_set ?_ GE464.out) | exact HB.out)⟩
          (try clear BK459)
          (try clear BK460)
          (try clear BK461)
          (try clear BK464)
          (try clear HB)
          generalize (wq_.setCell ⟨gb464, 4, none⟩ (.int .i64 (wrap64 (a0_4 + t469)))) = w70 at n0_ n1_ n2_ n3_ n4_ ⊢
          have BK459 := n0_
          have BK460 := n1_
          have BK461 := n2_
          have BK464 := n3_
          have HB := n4_
          clear n0_ n1_ n2_ n3_ n4_
          (repeat (rw [drewN_self w70]; generalize hq_ : World.drewN w70 _ = w70; have n0_ : Aside0 (w70.heap[gb459]? = some (.cells #[.int .i64 a0_0, .int .i64 a0_1, .int .i64 a0_2, .int .i64 a0_3, .int .i64 a0_4, .int .i64 a0_5] 28 (0, 0))) := ⟨by rw [← hq_]; exact (by (with_reducible repeat (first | refine blk_drewN ?_ _ | refine blk_drew ?_ | refine blk_alloc ?_ _)); exact BK459.out)⟩; have n1_ : Aside0 (w70.heap[gb460]? = some (.cells #[.int .i64 a1_0, .int .i64 a1_1, .int .i64 a1_2, .int .i64 a1_3, .int .i64 a1_4, .int .i64 a1_5] 28 (0, 0))) := ⟨by rw [← hq_]; exact (by (with_reducible repeat (first | refine blk_drewN ?_ _ | refine blk_drew ?_ | refine blk_alloc ?_ _)); exact BK460.out)⟩; have n2_ : Aside0 (w70.heap[gb461]? = some (.cells #[.int .i64 0, .int .i64 0, .int .i64 0, .int .i64 0, .int .i64 0, .int .i64 0] 28 (0, 0))) := ⟨by rw [← hq_]; exact (by (with_reducible repeat (first | refine blk_drewN ?_ _ | refine blk_drew ?_ | refine blk_alloc ?_ _)); exact BK461.out)⟩; have n3_ : Aside0 (w70.heap[gb464]? = some (.cells #[.int .i64 t465, .int .i64 t466, .int .i64 t467, .int .i64 t468, .int .i64 (wrap64 (a0_4 + t469)), .int .i64 0] 28 (0, 0))) := ⟨by rw [← hq_]; exact (by (with_reducible repeat (first | refine blk_drewN ?_ _ | refine blk_drew ?_ | refine blk_alloc ?_ _)); exact BK464.out)⟩; have n4_ : Aside0 (Below w.heap.size w w70) := ⟨by rw [← hq_]; exact (by repeat (first | (with_reducible first | exact HB.out | apply below_alloc | apply pw_below_drewN | apply below_drew1 | refine below_set ?_ GE459.out | refine below_set ?_ GE460.out | refine below_set ?_ GE461.out | refine below_set ?_ GE464.out) | exact HB.out))⟩; clear BK459 BK460 BK461 BK464 HB hq_; have BK459 := n0_; have BK460 := n1_; have BK461 := n2_; have BK464 := n3_; have HB := n4_; clear n0_ n1_ n2_ n3_ n4_))
          have n0_ := Aside0.mk (blk_drew BK459.out)
          have n1_ := Aside0.mk (blk_drew BK460.out)
          have n2_ := Aside0.mk (blk_drew BK461.out)
          have n3_ := Aside0.mk (blk_drew BK464.out)
          have n4_ := Aside0.mk (below_drew1 HB.out)
          clear BK459
          clear BK460
          clear BK461
          clear BK464
          clear HB
          have BK459 := n0_
          have BK460 := n1_
          have BK461 := n2_
          have BK464 := n3_
          have HB := n4_
          clear n0_ n1_ n2_ n3_ n4_
          refine start_ (n := 17) (S := fun w' => w'.cell? ⟨gb459, 0, none⟩ = some (.int .i64 a0_0) ∧ w'.cell? ⟨gb459, 1, none⟩ = some (.int .i64 a0_1) ∧ w'.cell? ⟨gb459, 2, none⟩ = some (.int .i64 a0_2) ∧ w'.cell? ⟨gb459, 3, none⟩ = some (.int .i64 a0_3) ∧ w'.cell? ⟨gb459, 4, none⟩ = some (.int .i64 a0_4) ∧ w'.cell? ⟨gb459, 5, none⟩ = some (.int .i64 a0_5) ∧ w'.cell? ⟨gb460, 0, none⟩ = some (.int .i64 a1_0) ∧ w'.cell? ⟨gb460, 1, none⟩ = some (.int .i64 a1_1) ∧ w'.cell? ⟨gb460, 2, none⟩ = some (.int .i64 a1_2) ∧ w'.cell? ⟨gb460, 3, none⟩ = some (.int .i64 a1_3) ∧ w'.cell? ⟨gb460, 4, none⟩ = some (.int .i64 a1_4) ∧ w'.cell? ⟨gb460, 5, none⟩ = some (.int .i64 a1_5)) (ds := []) #[false, false, false, false, false, false, false, false, false, false, false, false, false, false, false, false, false] (by kernel_rfl) rfl rfl ⟨(blk_cell BK459.out 0).trans rfl, (blk_cell BK459.out 1).trans rfl, (blk_cell BK459.out 2).trans rfl, (blk_cell BK459.out 3).trans rfl, (blk_cell BK459.out 4).trans rfl, (blk_cell BK459.out 5).trans rfl, (blk_cell BK460.out 0).trans rfl, (blk_cell BK460.out 1).trans rfl, (blk_cell BK460.out 2).trans rfl, (blk_cell BK460.out 3).trans rfl, (blk_cell BK460.out 4).trans rfl, (blk_cell BK460.out 5).trans rfl⟩ (fun hHeld => ?_); refine with_tabW celluloidref14_Compose.tab9 celluloidref14_Compose.bits9 (fun HT_ HW_ => ?_)
          generalize w70.drew = w71 at BK459 BK460 BK461 BK464 HB hHeld ⊢
          refine pure_ (i := 0) (N := some 84) (v := ?_) (a' := ?_) #[true, false, false, false, false, false, false, false, false, false, false, false, false, false, false, false, false] rfl rfl (any_of HT_.out (by kernel_rfl)) (fun _ _ _ h => h) (Or.inl ⟨by rfl, ?_⟩) ?_ ?_
          rotate_left
          · intro w'
            go_simp
            with_reducible rfl
          rotate_left
          · simp only [Act.put, List.setIfInBounds_toArray, List.set_cons_zero, List.set_cons_succ, i64_w, i32_w]
            rfl
          refine pure_ (i := 2) (N := some 86) (v := ?_) (a' := ?_) #[true, false, true, false, false, false, false, false, false, false, false, false, false, false, false, false, false] rfl rfl (any_of HT_.out (by kernel_rfl)) (fun _ _ _ h => h) (Or.inl ⟨by rfl, ?_⟩) ?_ ?_
          rotate_left
          · intro w'
            go_simp
            with_reducible rfl
          rotate_left
          · simp only [Act.put, List.setIfInBounds_toArray, List.set_cons_zero, List.set_cons_succ, i64_w, i32_w]
            rfl
          refine pure_ (i := 4) (N := some 88) (v := ?_) (a' := ?_) #[true, false, true, false, true, false, false, false, false, false, false, false, false, false, false, false, false] rfl rfl (any_of HT_.out (by kernel_rfl)) (fun _ _ _ h => h) (Or.inl ⟨by rfl, ?_⟩) ?_ ?_
          rotate_left
          · intro w'
            go_simp
            with_reducible rfl
          rotate_left
          · simp only [Act.put, List.setIfInBounds_toArray, List.set_cons_zero, List.set_cons_succ, i64_w, i32_w]
            rfl
          refine pure_ (i := 7) (N := some 91) (v := ?_) (a' := ?_) #[true, false, true, false, true, false, false, true, false, false, false, false, false, false, false, false, false] rfl rfl (any_of HT_.out (by kernel_rfl)) (fun _ _ _ h => h) (Or.inl ⟨by rfl, ?_⟩) ?_ ?_
          rotate_left
          · intro w'
            go_simp
            with_reducible rfl
          rotate_left
          · simp only [Act.put, List.setIfInBounds_toArray, List.set_cons_zero, List.set_cons_succ, i64_w, i32_w]
            rfl
          refine pure_ (i := 9) (N := some 93) (v := ?_) (a' := ?_) #[true, false, true, false, true, false, false, true, false, true, false, false, false, false, false, false, false] rfl rfl (any_of HT_.out (by kernel_rfl)) (fun _ _ _ h => h) (Or.inl ⟨by rfl, ?_⟩) ?_ ?_
          rotate_left
          · intro w'
            go_simp
            with_reducible rfl
          rotate_left
          · simp only [Act.put, List.setIfInBounds_toArray, List.set_cons_zero, List.set_cons_succ, i64_w, i32_w]
            rfl
          refine take_ (i := 1) (N := some 85) (v := ?_) (a' := ?_) #[true, true, true, false, true, false, false, true, false, true, false, false, false, false, false, false, false] rfl rfl (take_ofW HT_.out HW_.out (by kernel_rfl)) (fun _ _ _ h => h) (Or.inl ⟨by rfl, ?_⟩) hHeld ?_ ?_
          rotate_left
          · rintro w' ⟨s0, s1, s2, s3, s4, s5, s6, s7, s8, s9, s10, s11⟩
            go_simp
            with_reducible rfl
          rotate_left
          · simp only [Act.put, List.setIfInBounds_toArray, List.set_cons_zero, List.set_cons_succ, i64_w, i32_w]
            rfl
          refine take_ (i := 3) (N := some 87) (v := ?_) (a' := ?_) #[true, true, true, true, true, false, false, true, false, true, false, false, false, false, false, false, false] rfl rfl (take_ofW HT_.out HW_.out (by kernel_rfl)) (fun _ _ _ h => h) (Or.inl ⟨by rfl, ?_⟩) hHeld ?_ ?_
          rotate_left
          · rintro w' ⟨s0, s1, s2, s3, s4, s5, s6, s7, s8, s9, s10, s11⟩
            go_simp
            with_reducible rfl
          rotate_left
          · simp only [Act.put, List.setIfInBounds_toArray, List.set_cons_zero, List.set_cons_succ, i64_w, i32_w]
            rfl
          refine take_ (i := 5) (N := some 89) (v := ?_) (a' := ?_) #[true, true, true, true, true, true, false, true, false, true, false, false, false, false, false, false, false] rfl rfl (take_ofW HT_.out HW_.out (by kernel_rfl)) (fun _ _ _ h => h) (Or.inl ⟨by rfl, ?_⟩) hHeld ?_ ?_
          rotate_left
          · rintro w' ⟨s0, s1, s2, s3, s4, s5, s6, s7, s8, s9, s10, s11⟩
            go_simp
            with_reducible rfl
          rotate_left
          · simp only [Act.put, List.setIfInBounds_toArray, List.set_cons_zero, List.set_cons_succ, i64_w, i32_w]
            rfl
          refine pure_ (i := 6) (N := some 90) (v := ?_) (a' := ?_) #[true, true, true, true, true, true, true, true, false, true, false, false, false, false, false, false, false] rfl rfl (any_of HT_.out (by kernel_rfl)) (fun _ _ _ h => h) (Or.inl ⟨by rfl, ?_⟩) ?_ ?_
          rotate_left
          · intro w'
            go_simp
            with_reducible rfl
          rotate_left
          · simp only [Act.put, List.setIfInBounds_toArray, List.set_cons_zero, List.set_cons_succ, i64_w, i32_w]
            rfl
          refine take_ (i := 8) (N := some 92) (v := ?_) (a' := ?_) #[true, true, true, true, true, true, true, true, true, true, false, false, false, false, false, false, false] rfl rfl (take_ofW HT_.out HW_.out (by kernel_rfl)) (fun _ _ _ h => h) (Or.inl ⟨by rfl, ?_⟩) hHeld ?_ ?_
          rotate_left
          · rintro w' ⟨s0, s1, s2, s3, s4, s5, s6, s7, s8, s9, s10, s11⟩
            go_simp
            with_reducible rfl
          rotate_left
          · simp only [Act.put, List.setIfInBounds_toArray, List.set_cons_zero, List.set_cons_succ, i64_w, i32_w]
            rfl
          refine take_ (i := 10) (N := some 94) (v := ?_) (a' := ?_) #[true, true, true, true, true, true, true, true, true, true, true, false, false, false, false, false, false] rfl rfl (take_ofW HT_.out HW_.out (by kernel_rfl)) (fun _ _ _ h => h) (Or.inl ⟨by rfl, ?_⟩) hHeld ?_ ?_
          rotate_left
          · rintro w' ⟨s0, s1, s2, s3, s4, s5, s6, s7, s8, s9, s10, s11⟩
            go_simp
            with_reducible rfl
          rotate_left
          · simp only [Act.put, List.setIfInBounds_toArray, List.set_cons_zero, List.set_cons_succ, i64_w, i32_w]
            rfl
          refine pure_ (i := 11) (N := some 95) (v := ?_) (a' := ?_) #[true, true, true, true, true, true, true, true, true, true, true, true, false, false, false, false, false] rfl rfl (any_of HT_.out (by kernel_rfl)) (fun _ _ _ h => h) (Or.inl ⟨by rfl, ?_⟩) ?_ ?_
          rotate_left
          · intro w'
            go_simp
            with_reducible rfl
          rotate_left
          · simp only [Act.put, List.setIfInBounds_toArray, List.set_cons_zero, List.set_cons_succ, i64_w, i32_w]
            rfl
          refine pure_ (i := 12) (N := some 96) (v := ?_) (a' := ?_) #[true, true, true, true, true, true, true, true, true, true, true, true, true, false, false, false, false] rfl rfl (any_of HT_.out (by kernel_rfl)) (fun _ _ _ h => h) (Or.inl ⟨by rfl, ?_⟩) ?_ ?_
          rotate_left
          · intro w'
            go_simp
            with_reducible rfl
          rotate_left
          · simp only [Act.put, List.setIfInBounds_toArray, List.set_cons_zero, List.set_cons_succ, i64_w, i32_w]
            rfl
          refine one_ (i := 13) (N := some 97) #[true, true, true, true, true, true, true, true, true, true, true, true, true, true, false, false, false] rfl rfl (one_of HT_.out (by kernel_rfl)) (by decide) (fun K hK => ?_)
          refine goes_ Try.func63 (by kernel_rfl) rfl #[.int .i64 (wrap64 ((wrap64 (a0_1 * a1_4)) + (wrap64 (a0_3 * a1_5)))), .int .i64 65536] (by rfl) rfl rfl (by (try simp only [List.map_toArray, List.map_cons, List.map_nil]); first | done | rfl | (simp only [List.length_drop, List.length_take]; rfl)) ?_
          with_reducible refine (celluloidref14_floor.calls (wrap64 ((wrap64 (a0_1 * a1_4)) + (wrap64 (a0_3 * a1_5)))) 65536 t470 _ A30.out).mono ?_
          rintro e w' ⟨rfl, ⟨nd, rfl⟩⟩
          refine ⟨_, rfl, ?_⟩
          refine hK.out _ _ ⟨(blk_cell BK459.out 0).trans rfl, (blk_cell BK459.out 1).trans rfl, (blk_cell BK459.out 2).trans rfl, (blk_cell BK459.out 3).trans rfl, (blk_cell BK459.out 4).trans rfl, (blk_cell BK459.out 5).trans rfl, (blk_cell BK460.out 0).trans rfl, (blk_cell BK460.out 1).trans rfl, (blk_cell BK460.out 2).trans rfl, (blk_cell BK460.out 3).trans rfl, (blk_cell BK460.out 4).trans rfl, (blk_cell BK460.out 5).trans rfl⟩ (fun hHeld => ?_)
          clear hK K
          refine norm_ (a' := ?_) ?_ ?_
          rotate_left
          · show Act.put _ (some 97) _ = _
            simp only [Act.put, List.setIfInBounds_toArray, List.set_cons_zero, List.set_cons_succ, i64_w, i32_w]
            rfl
          refine pure_ (i := 14) (N := some 98) (v := ?_) (a' := ?_) #[true, true, true, true, true, true, true, true, true, true, true, true, true, true, true, false, false] rfl rfl (any_of HT_.out (by kernel_rfl)) (fun _ _ _ h => h) (Or.inl ⟨by rfl, ?_⟩) ?_ ?_
          rotate_left
          · intro w'
            go_simp
            with_reducible rfl
          rotate_left
          · simp only [Act.put, List.setIfInBounds_toArray, List.set_cons_zero, List.set_cons_succ, i64_w, i32_w]
            rfl
          refine pure_ (i := 15) (N := some 99) (v := ?_) (a' := ?_) #[true, true, true, true, true, true, true, true, true, true, true, true, true, true, true, true, false] rfl rfl (any_of HT_.out (by kernel_rfl)) (fun _ _ _ h => h) (Or.inl ⟨by rfl, ?_⟩) ?_ ?_
          rotate_left
          · intro w'
            go_simp
            with_reducible rfl
          rotate_left
          · simp only [Act.put, List.setIfInBounds_toArray, List.set_cons_zero, List.set_cons_succ, i64_w, i32_w]
            rfl
          refine one_ (i := 16) (N := none) #[true, true, true, true, true, true, true, true, true, true, true, true, true, true, true, true, true] rfl rfl (one_of HT_.out (by kernel_rfl)) (by decide) (fun K hK => ?_)
          have hs72 : w71.cell? ⟨gb464, 5, none⟩ = some (.int .i64 0) := (blk_cell BK464.out 5).trans rfl
          have hfs72 := blk_frozen BK464.out 5
          have hns72_0 := NB459_464.out
          have hns72_1 := NB460_464.out
          have hns72_2 := NB461_464.out
          have hms72_0 := NB464_459.out
          have hms72_1 := NB464_460.out
          have hms72_2 := NB464_461.out
          refine skip_ (w1 := ?_) (by rfl) rfl ?_ ?_
          rotate_left
          · go_simp
            rfl
          refine hK.out _ _ ⟨((cell_far (p := ⟨gb464, _, none⟩) NB459_464.out _).trans (hHeld.1)), ((cell_far (p := ⟨gb464, _, none⟩) NB459_464.out _).trans (hHeld.2.1)), ((cell_far (p := ⟨gb464, _, none⟩) NB459_464.out _).trans (hHeld.2.2.1)), ((cell_far (p := ⟨gb464, _, none⟩) NB459_464.out _).trans (hHeld.2.2.2.1)), ((cell_far (p := ⟨gb464, _, none⟩) NB459_464.out _).trans (hHeld.2.2.2.2.1)), ((cell_far (p := ⟨gb464, _, none⟩) NB459_464.out _).trans (hHeld.2.2.2.2.2.1)), ((cell_far (p := ⟨gb464, _, none⟩) NB460_464.out _).trans (hHeld.2.2.2.2.2.2.1)), ((cell_far (p := ⟨gb464, _, none⟩) NB460_464.out _).trans (hHeld.2.2.2.2.2.2.2.1)), ((cell_far (p := ⟨gb464, _, none⟩) NB460_464.out _).trans (hHeld.2.2.2.2.2.2.2.2.1)), ((cell_far (p := ⟨gb464, _, none⟩) NB460_464.out _).trans (hHeld.2.2.2.2.2.2.2.2.2.1)), ((cell_far (p := ⟨gb464, _, none⟩) NB460_464.out _).trans (hHeld.2.2.2.2.2.2.2.2.2.2.1)), ((cell_far (p := ⟨gb464, _, none⟩) NB460_464.out _).trans (hHeld.2.2.2.2.2.2.2.2.2.2.2))⟩ (fun hHeld => ?_)
          clear hK K
          refine done_ (done_of HT_.out (by kernel_rfl)) ?_
          have hcz73_0 : w71.cell? ⟨gb464, 0, none⟩ = some (.int .i64 t465) := (blk_cell BK464.out 0).trans rfl
          have hcz73_1 : w71.cell? ⟨gb464, 1, none⟩ = some (.int .i64 t466) := (blk_cell BK464.out 1).trans rfl
          have hcz73_2 : w71.cell? ⟨gb464, 2, none⟩ = some (.int .i64 t467) := (blk_cell BK464.out 2).trans rfl
          have hcz73_3 : w71.cell? ⟨gb464, 3, none⟩ = some (.int .i64 t468) := (blk_cell BK464.out 3).trans rfl
          have hcz73_4 : w71.cell? ⟨gb464, 4, none⟩ = some (.int .i64 (wrap64 (a0_4 + t469))) := (blk_cell BK464.out 4).trans rfl
          have hcz73_5 : w71.cell? ⟨gb464, 5, none⟩ = some (.int .i64 0) := (blk_cell BK464.out 5).trans rfl
          have hfz73_0 := blk_frozen BK464.out 0
          have hfz73_1 := blk_frozen BK464.out 1
          have hfz73_2 := blk_frozen BK464.out 2
          have hfz73_3 := blk_frozen BK464.out 3
          have hfz73_4 := blk_frozen BK464.out 4
          have hfz73_5 := blk_frozen BK464.out 5
          try go_wp2_with (first | ((with_reducible refine gate_callee (f := 60) rfl ?_); refine goesL_ (some 101) rfl rfl Try.func60 (by kernel_rfl) rfl #[.agg #[.int .i64 t465, .int .i64 t466, .int .i64 t467, .int .i64 t468, .int .i64 (wrap64 (a0_4 + t469)), .int .i64 (wrap64 (a0_5 + t470))]] rfl (by (try simp only [List.map_toArray, List.map_cons, List.map_nil]); first | done | rfl | (simp only [List.length_drop, List.length_take]; rfl)) ?_; (with_reducible refine (celluloidref07_Matrix.calls t465 t466 t467 t468 (wrap64 (a0_4 + t469)) (wrap64 (a0_5 + t470)) false _ A31.out).mono ?_); rintro e w74 ⟨rfl, hb⟩; refine ⟨_, rfl, ?_⟩; have n0_ := Aside0.mk (blk_below (g := gb459) (o := .cells #[.int .i64 a0_0, .int .i64 a0_1, .int .i64 a0_2, .int .i64 a0_3, .int .i64 a0_4, .int .i64 a0_5] 28 (0, 0)) (by (with_reducible repeat (first | refine blk_drewN ?_ _ | refine blk_drew ?_ | refine blk_alloc ?_ _)); refine blk_far ?_ NB459_464.out _; (with_reducible repeat (first | refine blk_drewN ?_ _ | refine blk_drew ?_ | refine blk_alloc ?_ _)); exact BK459.out) hb); have n1_ := Aside0.mk (blk_below (g := gb460) (o := .cells #[.int .i64 a1_0, .int .i64 a1_1, .int .i64 a1_2, .int .i64 a1_3, .int .i64 a1_4, .int .i64 a1_5] 28 (0, 0)) (by (with_reducible repeat (first | refine blk_drewN ?_ _ | refine blk_drew ?_ | refine blk_alloc ?_ _)); refine blk_far ?_ NB460_464.out _; (with_reducible repeat (first | refine blk_drewN ?_ _ | refine blk_drew ?_ | refine blk_alloc ?_ _)); exact BK460.out) hb); have n2_ := Aside0.mk (blk_below (g := gb461) (o := .cells #[.int .i64 0, .int .i64 0, .int .i64 0, .int .i64 0, .int .i64 0, .int .i64 0] 28 (0, 0)) (by (with_reducible repeat (first | refine blk_drewN ?_ _ | refine blk_drew ?_ | refine blk_alloc ?_ _)); refine blk_far ?_ NB461_464.out _; (with_reducible repeat (first | refine blk_drewN ?_ _ | refine blk_drew ?_ | refine blk_alloc ?_ _)); exact BK461.out) hb); have n3_ := Aside0.mk (blk_below (g := gb464) (o := .cells #[.int .i64 t465, .int .i64 t466, .int .i64 t467, .int .i64 t468, .int .i64 (wrap64 (a0_4 + t469)), .int .i64 (wrap64 (a0_5 + t470))] 28 (0, 0)) (by (with_reducible repeat (first | refine blk_drewN ?_ _ | refine blk_drew ?_ | refine blk_alloc ?_ _)); refine blk_put (cs := #[.int .i64 t465, .int .i64 t466, .int .i64 t467, .int .i64 t468, .int .i64 (wrap64 (a0_4 + t469)), .int .i64 0]) ?_ 5 _ rfl; (with_reducible repeat (first | refine blk_drewN ?_ _ | refine blk_drew ?_ | refine blk_alloc ?_ _)); exact BK464.out) hb); have n4_ := Aside0.mk (below_step (by repeat (first | (with_reducible first | exact HB.out | apply below_alloc | apply pw_below_drewN | apply below_drew1 | refine below_set ?_ GE459.out | refine below_set ?_ GE460.out | refine below_set ?_ GE461.out | refine below_set ?_ GE464.out) | exact HB.out)) hb); clear BK459; clear BK460; clear BK461; clear BK464; clear HB; have BK459 := n0_; have BK460 := n1_; have BK461 := n2_; have BK464 := n3_; have HB := n4_; clear n0_ n1_ n2_ n3_ n4_; (try clear hb); (try clear hb2); (try clear hk); (try clear hi); have hcz75_0 : w74.cell? ⟨gb461, 0, none⟩ = some (.int .i64 0) := (blk_cell BK461.out 0).trans rfl; have hcz75_1 : w74.cell? ⟨gb461, 1, none⟩ = some (.int .i64 0) := (blk_cell BK461.out 1).trans rfl; have hcz75_2 : w74.cell? ⟨gb461, 2, none⟩ = some (.int .i64 0) := (blk_cell BK461.out 2).trans rfl; have hcz75_3 : w74.cell? ⟨gb461, 3, none⟩ = some (.int .i64 0) := (blk_cell BK461.out 3).trans rfl; have hcz75_4 : w74.cell? ⟨gb461, 4, none⟩ = some (.int .i64 0) := (blk_cell BK461.out 4).trans rfl; have hcz75_5 : w74.cell? ⟨gb461, 5, none⟩ = some (.int .i64 0) := (blk_cell BK461.out 5).trans rfl; have hfz75_0 := blk_frozen BK461.out 0; have hfz75_1 := blk_frozen BK461.out 1; have hfz75_2 := blk_frozen BK461.out 2; have hfz75_3 := blk_frozen BK461.out 3; have hfz75_4 := blk_frozen BK461.out 4; have hfz75_5 := blk_frozen BK461.out 5))
          refine bodyPost_ret (results_ct rfl _ _ gb461 28 #[.int .i64 0, .int .i64 0, .int .i64 0, .int .i64 0, .int .i64 0, .int .i64 0] (0, 0) _ rfl (by (with_reducible repeat (first | refine blk_drewN ?_ _ | refine blk_drew ?_ | refine blk_alloc ?_ _)); refine blk_put (cs := #[.int .i64 0, .int .i64 0, .int .i64 0, .int .i64 0, .int .i64 0, .int .i64 0]) ?_ 5 _ rfl; (with_reducible repeat (first | refine blk_drewN ?_ _ | refine blk_drew ?_ | refine blk_alloc ?_ _)); refine blk_put (cs := #[.int .i64 0, .int .i64 0, .int .i64 0, .int .i64 0, .int .i64 0, .int .i64 0]) ?_ 4 _ rfl; (with_reducible repeat (first | refine blk_drewN ?_ _ | refine blk_drew ?_ | refine blk_alloc ?_ _)); refine blk_put (cs := #[.int .i64 0, .int .i64 0, .int .i64 0, .int .i64 0, .int .i64 0, .int .i64 0]) ?_ 3 _ rfl; (with_reducible repeat (first | refine blk_drewN ?_ _ | refine blk_drew ?_ | refine blk_alloc ?_ _)); refine blk_put (cs := #[.int .i64 0, .int .i64 0, .int .i64 0, .int .i64 0, .int .i64 0, .int .i64 0]) ?_ 2 _ rfl; (with_reducible repeat (first | refine blk_drewN ?_ _ | refine blk_drew ?_ | refine blk_alloc ?_ _)); refine blk_put (cs := #[.int .i64 0, .int .i64 0, .int .i64 0, .int .i64 0, .int .i64 0, .int .i64 0]) ?_ 1 _ rfl; (with_reducible repeat (first | refine blk_drewN ?_ _ | refine blk_drew ?_ | refine blk_alloc ?_ _)); refine blk_put (cs := #[.int .i64 0, .int .i64 0, .int .i64 0, .int .i64 0, .int .i64 0, .int .i64 0]) ?_ 0 _ rfl; (with_reducible repeat (first | refine blk_drewN ?_ _ | refine blk_drew ?_ | refine blk_alloc ?_ _)); exact BK461.out) Try.underlying28 rfl (by kernel_rfl)) rfl ?_
          exact ⟨by first | rfl | (simp [errW_none, errW_some] <;> rfl) | (simp [*, errW_none, errW_some] <;> rfl), by repeat (first | (with_reducible first | exact HB.out | apply below_alloc | apply pw_below_drewN | apply below_drew1 | refine below_set ?_ GE459.out | refine below_set ?_ GE460.out | refine below_set ?_ GE461.out | refine below_set ?_ GE464.out) | exact HB.out)⟩
theorem celluloidref14_Compose.cn {a0_0 a0_1 a0_2 a0_3 a0_4 a0_5 a1_0 a1_1 a1_2 a1_3 a1_4 a1_5 r1 r2 r3 r4 r5 r6 r7 : Int} {k : Nat} {w : World} (h : celluloidref14_Compose.f k a0_0 a0_1 a0_2 a0_3 a0_4 a0_5 a1_0 a1_1 a1_2 a1_3 a1_4 a1_5 = some (r1, r2, r3, r4, r5, r6, r7)) :
    Calls Try.prog 36 #[.agg #[.int .i64 a0_0, .int .i64 a0_1, .int .i64 a0_2, .int .i64 a0_3, .int .i64 a0_4, .int .i64 a0_5], .agg #[.int .i64 a1_0, .int .i64 a1_1, .int .i64 a1_2, .int .i64 a1_3, .int .i64 a1_4, .int .i64 a1_5]] w fun e w' => e = .returned (.tuple #[.agg #[.int .i64 r1, .int .i64 r2, .int .i64 r3, .int .i64 r4, .int .i64 r5, .int .i64 r6], .int .i64 r7]) ∧ Below w.heap.size w w' := by
  apply celluloidref14_Compose.calls <;> assumption

end Go.Proofs.Ytmdfcinjmlagcaa.P
