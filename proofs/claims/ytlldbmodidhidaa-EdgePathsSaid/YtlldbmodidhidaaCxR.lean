/- Printed by printx.py (wip/tool) out of the translation: plain functions that tell what the program answers, and the proofs that the program comes to these answers, for all arguments of their kinds. Lean checks it. -/
import Derived.Test.YtlldbmodidhidaaPx5
import Derived.Test.YtlldbmodidhidaaPx0
import Derived.Test.YtlldbmodidhidaaPx5
import Derived.Test.YtlldbmodidhidaaPx0
namespace Go.Proofs.Ytlldbmodidhidaa.P
open Go.RowKit Go.Proofs.YtlldbmodidhidaaW.PrintWords Go.Proofs.YtlldbmodidhidaaW.PrintLast Go.Proofs.YtlldbmodidhidaaW.PrintMore
attribute [local go_sem] max2_int min2_int max_two min_two max_three min_three max_four min_four max_five min_five max_six min_six   -- for this text's walks alone
set_option linter.unusedVariables false
set_option linter.unusedSimpArgs false

attribute [local go_sem high] eqA74
/-! ### celluloidlaw15_refs: function 15 -/
def celluloidlaw15_refs.l0 : Nat → List (S74) → List (S51) → Int → Int → Option ((List (S74)))
  | 0, _, _, _, _ => none
  | k + 1, x3, x6, x7, x8 => if x8 < x7 then (if 0 ≤ x8 then (if x8 < (x6.length : Int) then (if x3.length < 1759218604441 then (celluloidlaw15_refs.l0 k (x3 ++ [(⟨(⟨(rd_T51 x6 x8).f0.f0, (rd_T51 x6 x8).f0.f1⟩ : S47), (⟨(rd_T51 x6 x8).f1.f0, (rd_T51 x6 x8).f1.f1⟩ : S47), (⟨(rd_T51 x6 x8).f2.f0, (rd_T51 x6 x8).f2.f1⟩ : S47), (rd_T51 x6 x8).f3, (rd_T51 x6 x8).f4, (rd_T51 x6 x8).f5, (rd_T51 x6 x8).f6⟩ : S74)]) x6 x7 (wrap64 (x8 + 1))) else (none)) else (none)) else (none)) else (some x3)
def celluloidlaw15_refs.f (k : Nat) (l0 : List (S51)) : Option ((List (S74))) := celluloidlaw15_refs.l0 k ([] : List (S74)) l0 (l0.length : Int) 0
theorem celluloidlaw15_refs.mono_l : ∀ k, (∀ y0 y1 y2 y3, LeO (celluloidlaw15_refs.l0 k y0 y1 y2 y3) (celluloidlaw15_refs.l0 (k + 1) y0 y1 y2 y3))
  | 0 => fun _ _ _ _ r h => by simp [celluloidlaw15_refs.l0] at h
  | k + 1 => by
    have ih0 := celluloidlaw15_refs.mono_l k
    · intro y0 y1 y2 y3
      unfold celluloidlaw15_refs.l0
      repeat' first
      | (with_reducible exact ih0 _ _ _ _)
      | (with_reducible exact LeO.refl _)
      | (with_reducible exact LeO.none _)
      | (with_reducible refine LeO.ite ?_ ?_)
      | (with_reducible refine LeO.bind ?_ (fun _ => ?_))
      | exact ih0 _ _ _ _
      | exact LeO.none _
      | refine LeO.ite ?_ ?_
      | refine LeO.bind ?_ (fun _ => ?_)
theorem celluloidlaw15_refs.mono : ∀ a0 k, LeO (celluloidlaw15_refs.f k a0) (celluloidlaw15_refs.f (k + 1) a0) := by
  intro a0 k
  have ih0 := celluloidlaw15_refs.mono_l k
  unfold celluloidlaw15_refs.f
  repeat' first
      | (with_reducible exact ih0 _ _ _ _)
      | (with_reducible exact LeO.refl _)
      | (with_reducible exact LeO.none _)
      | (with_reducible refine LeO.ite ?_ ?_)
      | (with_reducible refine LeO.bind ?_ (fun _ => ?_))
      | exact ih0 _ _ _ _
      | exact LeO.none _
      | refine LeO.ite ?_ ?_
      | refine LeO.bind ?_ (fun _ => ?_)
set_option maxHeartbeats 8000000 in
set_option maxRecDepth 100000 in
theorem celluloidlaw15_refs.calls (k : Nat) (A0 : Option Addr) (c0 : Nat) (l0 : List (S51)) (r : List (S74)) (w : World) (hr0 : Kd.C k51 w A0 l0.length l0) (hc0 : l0.length ≤ c0) (h : celluloidlaw15_refs.f k l0 = some r) :
    Calls Try.prog 15 #[.slice A0 l0.length c0] w fun e w' => ∃ v0_ : Value, e = .returned (v0_) ∧ Kd.R k74 74 w' w.heap.size (fun _ => True) v0_ r ∧ Below w.heap.size w w' := by
  have hu51 := Try.underlying51
  have HR0 := Aside0.mk hr0
  have HC0 := Aside0.mk hc0
  clear hr0 hc0
  have HB := Aside0.mk (Below.refl w.heap.size w)
  have H : (celluloidlaw15_refs.l0 k ([] : List (S74)) l0 (l0.length : Int) 0) = some r := h
  clear h
  have H' := Aside0.mk H
  clear H
  go_enter Try.func15, Try.ntmps15
  go_wp2
  go_loopg [3, 8] k (fun kq v3 v8 w' => ∃ (x3_1 : List (S74)) (x8_1 : Int), v8 = .int .i64 x8_1 ∧ Aside0 (celluloidlaw15_refs.l0 kq x3_1 l0 (l0.length : Int) x8_1 = some r) ∧ Aside0 (kq ≤ k) ∧ Aside0 (Kd.R k74 74 w' w.heap.size (fun _ => True) v3 x3_1) ∧ Aside0 (Below w.heap.size w w'))
  case atStart => exact ⟨(([] : List (S74))), (0), (by first | rfl | (simp; done) | (simp [*]; done)), H', ⟨Nat.le_refl _⟩, ⟨by first | exact Kd.R_nil _ _ _ _ _ | exact Kd.N_nil _ _ _ _ _ | exact Kd.V_nil _ _ _ _ _ | exact Kd.Q_nil _ _ _ _ _ | exact Kd.S_nil _ _ _ _ _⟩, ⟨by repeat (first | (with_reducible first | exact HB.out | apply below_alloc | apply pw_below_drewN | apply below_drew1) | exact HB.out)⟩⟩
  case round =>
    clear H'
    try clear c1
    obtain ⟨x3_1, x8_1, rfl, HA, HK1, HO_3, HB⟩ := hrel
    cases gk with
    | zero => exact absurd HA.out (by simp [celluloidlaw15_refs.l0])
    | succ k1 =>
      have H := HA.out
      clear HA
      simp only [celluloidlaw15_refs.l0] at H
      by_cases c2 : x8_1 < (l0.length : Int)
      · rw [if_pos c2] at H
        have c2b0 : decide (x8_1 < (l0.length : Int)) = true := decide_eq_true c2
        clear c2
        by_cases c3 : 0 ≤ x8_1
        · rw [if_pos c3] at H
          have c3b0 : decide (0 ≤ x8_1) = true := decide_eq_true c3
          clear c3
          by_cases c4 : x8_1 < (l0.length : Int)
          · rw [if_pos c4] at H
            have c4b0 : decide (x8_1 < (l0.length : Int)) = true := decide_eq_true c4
            clear c4
            by_cases c5 : x3_1.length < 1759218604441
            · rw [if_pos c5] at H
              have LMc5 := Aside0.mk c5
              clear c5
              obtain ⟨y395, hy395⟩ : ∃ y_ : List (S74), y_ = (x3_1 ++ [(⟨(⟨(rd_T51 l0 x8_1).f0.f0, (rd_T51 l0 x8_1).f0.f1⟩ : S47), (⟨(rd_T51 l0 x8_1).f1.f0, (rd_T51 l0 x8_1).f1.f1⟩ : S47), (⟨(rd_T51 l0 x8_1).f2.f0, (rd_T51 l0 x8_1).f2.f1⟩ : S47), (rd_T51 l0 x8_1).f3, (rd_T51 l0 x8_1).f4, (rd_T51 l0 x8_1).f5, (rd_T51 l0 x8_1).f6⟩ : S74)]) := ⟨_, rfl⟩
              replace H : (celluloidlaw15_refs.l0 k1 y395 l0 (l0.length : Int) (wrap64 (x8_1 + 1))) = some r := by first | (rw [hy395]; with_reducible exact H) | (have H2_ := (Option.bind_some _ _).symm.trans H; rw [hy395]; with_reducible exact H2_) | (have H2_ := (Option.bind_some _ _).symm.trans H; with_reducible exact H2_) | with_reducible exact H | (rw [hy395]; exact H) | exact H
              have Ny395 := Aside0.mk hy395
              clear hy395
              have H' := Aside0.mk H
              clear H
              have p393 : 0 ≤ (x8_1 : Int) := of_decide_eq_true (by first | (with_reducible assumption) | assumption)
              have q393 : x8_1 < (l0.length : Int) := of_decide_eq_true (by first | (with_reducible assumption) | assumption)
              obtain ⟨ad393, e393, hx393_0, hx393_1, hx393_2, hx393_3, hx393_4, hx393_5, hx393_6, hx393_7, hx393_8, hx393_9⟩ := at_T51 HR0.out x8_1 p393 q393
              cases e393
              replace hx393_0 := (HB.out.cell (World.block_lt_of_cell? w _ hx393_0)).trans hx393_0
              replace hx393_1 := (HB.out.cell (World.block_lt_of_cell? w _ hx393_1)).trans hx393_1
              replace hx393_2 := (HB.out.cell (World.block_lt_of_cell? w _ hx393_2)).trans hx393_2
              replace hx393_3 := (HB.out.cell (World.block_lt_of_cell? w _ hx393_3)).trans hx393_3
              replace hx393_4 := (HB.out.cell (World.block_lt_of_cell? w _ hx393_4)).trans hx393_4
              replace hx393_5 := (HB.out.cell (World.block_lt_of_cell? w _ hx393_5)).trans hx393_5
              replace hx393_6 := (HB.out.cell (World.block_lt_of_cell? w _ hx393_6)).trans hx393_6
              replace hx393_7 := (HB.out.cell (World.block_lt_of_cell? w _ hx393_7)).trans hx393_7
              replace hx393_8 := (HB.out.cell (World.block_lt_of_cell? w _ hx393_8)).trans hx393_8
              replace hx393_9 := (HB.out.cell (World.block_lt_of_cell? w _ hx393_9)).trans hx393_9
              replace p393 := eq_true p393
              replace q393 := eq_true q393
              go_wp2_with (first | ((with_reducible refine gate_dst (N := 5) rfl ?_); refine box_event ?hg (N := 5) ?hd (cs := #[.int .i64 0, .int .i64 0, .int .i64 0, .int .i64 0, .int .i64 0, .int .i64 0, .bool false, .int .i64 0, .int .i64 0, .int .i64 0]) (t := 51) ?hr ?_; (case hd => rfl); (case hg => rfl); (case hr => first | (go_simp; done) | (go_simp; rfl)); intro gb394 hg w6 hbox hb; have n0_ := Aside0.mk (Kd.R_below (by (with_reducible repeat (first | apply Kd.R_alloc | apply Kd.R_drewN | apply Kd.R_drew)); exact HO_3.out) hb); have n1_ := Aside0.mk (below_step (by repeat (first | (with_reducible first | exact HB.out | apply below_alloc | apply pw_below_drewN | apply below_drew1) | exact HB.out)) hb); have n2_ := Aside0.mk (hbox); have n3_ := Aside0.mk ((by rw [hg]; exact (below_size (by repeat (first | (with_reducible first | exact HB.out | apply below_alloc | apply pw_below_drewN | apply below_drew1) | exact HB.out))) : w.heap.size ≤ gb394)); have n4_ := Aside0.mk ((by rw [hg]; exact (below_size (by repeat (first | (with_reducible first | exact HB.out | apply below_alloc | apply pw_below_drewN | apply below_drew1) | exact HB.out))) : w.heap.size ≤ gb394)); clear HO_3; clear HB; have HO_3 := n0_; have HB := n1_; have BK394 := n2_; have GW394 := n3_; have GE394 := n4_; clear n0_ n1_ n2_ n3_ n4_; clear hb hbox hg; have hcz7_0 : w6.cell? ⟨gb394, 0, none⟩ = some (.int .i64 0) := (blk_cell BK394.out 0).trans rfl; have hcz7_1 : w6.cell? ⟨gb394, 1, none⟩ = some (.int .i64 0) := (blk_cell BK394.out 1).trans rfl; have hcz7_2 : w6.cell? ⟨gb394, 2, none⟩ = some (.int .i64 0) := (blk_cell BK394.out 2).trans rfl; have hcz7_3 : w6.cell? ⟨gb394, 3, none⟩ = some (.int .i64 0) := (blk_cell BK394.out 3).trans rfl; have hcz7_4 : w6.cell? ⟨gb394, 4, none⟩ = some (.int .i64 0) := (blk_cell BK394.out 4).trans rfl; have hcz7_5 : w6.cell? ⟨gb394, 5, none⟩ = some (.int .i64 0) := (blk_cell BK394.out 5).trans rfl; have hcz7_6 : w6.cell? ⟨gb394, 6, none⟩ = some (.bool false) := (blk_cell BK394.out 6).trans rfl; have hcz7_7 : w6.cell? ⟨gb394, 7, none⟩ = some (.int .i64 0) := (blk_cell BK394.out 7).trans rfl; have hcz7_8 : w6.cell? ⟨gb394, 8, none⟩ = some (.int .i64 0) := (blk_cell BK394.out 8).trans rfl; have hcz7_9 : w6.cell? ⟨gb394, 9, none⟩ = some (.int .i64 0) := (blk_cell BK394.out 9).trans rfl; have hfz7_0 := blk_frozen BK394.out 0; have hfz7_1 := blk_frozen BK394.out 1; have hfz7_2 := blk_frozen BK394.out 2; have hfz7_3 := blk_frozen BK394.out 3; have hfz7_4 := blk_frozen BK394.out 4; have hfz7_5 := blk_frozen BK394.out 5; have hfz7_6 := blk_frozen BK394.out 6; have hfz7_7 := blk_frozen BK394.out 7; have hfz7_8 := blk_frozen BK394.out 8; have hfz7_9 := blk_frozen BK394.out 9) | ((with_reducible refine gate_builtin (b := .append) (xs := #[.tmp 12, .tmp 14]) rfl ?_); at_builtin; refine Kd.R_append k74 (w0 := w) w.heap.size rfl (.tmp 12) (.tmp 14) 39 74 (.agg #[(.int .i64 0), (.int .i64 0), (.int .i64 0), (.int .i64 0), (.int .i64 0), (.int .i64 0), (.bool false), (.int .i64 0), (.int .i64 0), (.int .i64 0)]) 80 rfl Try.underlying39 info74 rfl (by decide) (by omega) u3 x3_1 (⟨(⟨(rd_T51 l0 x8_1).f0.f0, (rd_T51 l0 x8_1).f0.f1⟩ : S47), (⟨(rd_T51 l0 x8_1).f1.f0, (rd_T51 l0 x8_1).f1.f1⟩ : S47), (⟨(rd_T51 l0 x8_1).f2.f0, (rd_T51 l0 x8_1).f2.f1⟩ : S47), (rd_T51 l0 x8_1).f3, (rd_T51 l0 x8_1).f4, (rd_T51 l0 x8_1).f5, (rd_T51 l0 x8_1).f6⟩ : S74) [.int .i64 ((rd_T51 l0 x8_1).f0.f0), .int .i64 ((rd_T51 l0 x8_1).f0.f1), .int .i64 ((rd_T51 l0 x8_1).f1.f0), .int .i64 ((rd_T51 l0 x8_1).f1.f1), .int .i64 ((rd_T51 l0 x8_1).f2.f0), .int .i64 ((rd_T51 l0 x8_1).f2.f1), .bool ((rd_T51 l0 x8_1).f3), .int .i64 ((rd_T51 l0 x8_1).f4), .int .i64 ((rd_T51 l0 x8_1).f5), .int .i64 ((rd_T51 l0 x8_1).f6)] (fun _ => True) (fun _ => False) rfl (by first | (go_simp; done) | (go_simp; rfl)) ?aP (fun _ hk => hk.elim) ?aF ?aO ?aB ?aS ?aL ?_; (case aP => exact k74_mkM _ _ _ (⟨(⟨(rd_T51 l0 x8_1).f0.f0, (rd_T51 l0 x8_1).f0.f1⟩ : S47), (⟨(rd_T51 l0 x8_1).f1.f0, (rd_T51 l0 x8_1).f1.f1⟩ : S47), (⟨(rd_T51 l0 x8_1).f2.f0, (rd_T51 l0 x8_1).f2.f1⟩ : S47), (rd_T51 l0 x8_1).f3, (rd_T51 l0 x8_1).f4, (rd_T51 l0 x8_1).f5, (rd_T51 l0 x8_1).f6⟩ : S74)); (case aB => exact (by repeat (first | (with_reducible first | exact HB.out | apply below_alloc | apply pw_below_drewN | apply below_drew1 | refine below_set ?_ GE394.out) | exact HB.out))); (case aF => exact (fun _ _ => trivial)); (case aO => exact (by (with_reducible repeat (first | apply Kd.R_alloc | apply Kd.R_drewN | apply Kd.R_drew)); exact Kd.R_mono (Kd.R_far (p := ⟨gb394, 9, none⟩) (Kd.R_far (p := ⟨gb394, 8, none⟩) (Kd.R_far (p := ⟨gb394, 7, none⟩) (Kd.R_far (p := ⟨gb394, 6, none⟩) (Kd.R_far (p := ⟨gb394, 5, none⟩) (Kd.R_far (p := ⟨gb394, 4, none⟩) (Kd.R_far (p := ⟨gb394, 3, none⟩) (Kd.R_far (p := ⟨gb394, 2, none⟩) (Kd.R_far (p := ⟨gb394, 1, none⟩) (Kd.R_far (p := ⟨gb394, 0, none⟩) (Kd.R_types HO_3.out BK394.out (by decide)) (fun _ hk => hk.2) (.int .i64 ((rd_T51 l0 x8_1).f0.f0))) (fun _ hk => hk.2) (.int .i64 ((rd_T51 l0 x8_1).f0.f1))) (fun _ hk => hk.2) (.int .i64 ((rd_T51 l0 x8_1).f1.f0))) (fun _ hk => hk.2) (.int .i64 ((rd_T51 l0 x8_1).f1.f1))) (fun _ hk => hk.2) (.int .i64 ((rd_T51 l0 x8_1).f2.f0))) (fun _ hk => hk.2) (.int .i64 ((rd_T51 l0 x8_1).f2.f1))) (fun _ hk => hk.2) (.bool ((rd_T51 l0 x8_1).f3))) (fun _ hk => hk.2) (.int .i64 ((rd_T51 l0 x8_1).f4))) (fun _ hk => hk.2) (.int .i64 ((rd_T51 l0 x8_1).f5))) (fun _ hk => hk.2) (.int .i64 ((rd_T51 l0 x8_1).f6))) (fun _ hk => trivial))); (case aS => exact (below_size (by repeat (first | (with_reducible first | exact HB.out | apply below_alloc | apply pw_below_drewN | apply below_drew1 | refine below_set ?_ GE394.out) | exact HB.out)))); (case aL => have := LMc5.out; omega); intro v396 w8 ho hb hg hat; rw [← Ny395.out] at ho; have n0_ := Aside0.mk (blk_grown (g := gb394) (o := .cells #[.int .i64 ((rd_T51 l0 x8_1).f0.f0), .int .i64 ((rd_T51 l0 x8_1).f0.f1), .int .i64 ((rd_T51 l0 x8_1).f1.f0), .int .i64 ((rd_T51 l0 x8_1).f1.f1), .int .i64 ((rd_T51 l0 x8_1).f2.f0), .int .i64 ((rd_T51 l0 x8_1).f2.f1), .bool ((rd_T51 l0 x8_1).f3), .int .i64 ((rd_T51 l0 x8_1).f4), .int .i64 ((rd_T51 l0 x8_1).f5), .int .i64 ((rd_T51 l0 x8_1).f6)] 51 (0, 0)) (by (with_reducible repeat (first | refine blk_drewN ?_ _ | refine blk_drew ?_ | refine blk_alloc ?_ _)); refine blk_put (cs := #[.int .i64 ((rd_T51 l0 x8_1).f0.f0), .int .i64 ((rd_T51 l0 x8_1).f0.f1), .int .i64 ((rd_T51 l0 x8_1).f1.f0), .int .i64 ((rd_T51 l0 x8_1).f1.f1), .int .i64 ((rd_T51 l0 x8_1).f2.f0), .int .i64 ((rd_T51 l0 x8_1).f2.f1), .bool ((rd_T51 l0 x8_1).f3), .int .i64 ((rd_T51 l0 x8_1).f4), .int .i64 ((rd_T51 l0 x8_1).f5), .int .i64 0]) ?_ 9 _ rfl; (with_reducible repeat (first | refine blk_drewN ?_ _ | refine blk_drew ?_ | refine blk_alloc ?_ _)); refine blk_put (cs := #[.int .i64 ((rd_T51 l0 x8_1).f0.f0), .int .i64 ((rd_T51 l0 x8_1).f0.f1), .int .i64 ((rd_T51 l0 x8_1).f1.f0), .int .i64 ((rd_T51 l0 x8_1).f1.f1), .int .i64 ((rd_T51 l0 x8_1).f2.f0), .int .i64 ((rd_T51 l0 x8_1).f2.f1), .bool ((rd_T51 l0 x8_1).f3), .int .i64 ((rd_T51 l0 x8_1).f4), .int .i64 0, .int .i64 0]) ?_ 8 _ rfl; (with_reducible repeat (first | refine blk_drewN ?_ _ | refine blk_drew ?_ | refine blk_alloc ?_ _)); refine blk_put (cs := #[.int .i64 ((rd_T51 l0 x8_1).f0.f0), .int .i64 ((rd_T51 l0 x8_1).f0.f1), .int .i64 ((rd_T51 l0 x8_1).f1.f0), .int .i64 ((rd_T51 l0 x8_1).f1.f1), .int .i64 ((rd_T51 l0 x8_1).f2.f0), .int .i64 ((rd_T51 l0 x8_1).f2.f1), .bool ((rd_T51 l0 x8_1).f3), .int .i64 0, .int .i64 0, .int .i64 0]) ?_ 7 _ rfl; (with_reducible repeat (first | refine blk_drewN ?_ _ | refine blk_drew ?_ | refine blk_alloc ?_ _)); refine blk_put (cs := #[.int .i64 ((rd_T51 l0 x8_1).f0.f0), .int .i64 ((rd_T51 l0 x8_1).f0.f1), .int .i64 ((rd_T51 l0 x8_1).f1.f0), .int .i64 ((rd_T51 l0 x8_1).f1.f1), .int .i64 ((rd_T51 l0 x8_1).f2.f0), .int .i64 ((rd_T51 l0 x8_1).f2.f1), .bool false, .int .i64 0, .int .i64 0, .int .i64 0]) ?_ 6 _ rfl; (with_reducible repeat (first | refine blk_drewN ?_ _ | refine blk_drew ?_ | refine blk_alloc ?_ _)); refine blk_put (cs := #[.int .i64 ((rd_T51 l0 x8_1).f0.f0), .int .i64 ((rd_T51 l0 x8_1).f0.f1), .int .i64 ((rd_T51 l0 x8_1).f1.f0), .int .i64 ((rd_T51 l0 x8_1).f1.f1), .int .i64 ((rd_T51 l0 x8_1).f2.f0), .int .i64 0, .bool false, .int .i64 0, .int .i64 0, .int .i64 0]) ?_ 5 _ rfl; (with_reducible repeat (first | refine blk_drewN ?_ _ | refine blk_drew ?_ | refine blk_alloc ?_ _)); refine blk_put (cs := #[.int .i64 ((rd_T51 l0 x8_1).f0.f0), .int .i64 ((rd_T51 l0 x8_1).f0.f1), .int .i64 ((rd_T51 l0 x8_1).f1.f0), .int .i64 ((rd_T51 l0 x8_1).f1.f1), .int .i64 0, .int .i64 0, .bool false, .int .i64 0, .int .i64 0, .int .i64 0]) ?_ 4 _ rfl; (with_reducible repeat (first | refine blk_drewN ?_ _ | refine blk_drew ?_ | refine blk_alloc ?_ _)); refine blk_put (cs := #[.int .i64 ((rd_T51 l0 x8_1).f0.f0), .int .i64 ((rd_T51 l0 x8_1).f0.f1), .int .i64 ((rd_T51 l0 x8_1).f1.f0), .int .i64 0, .int .i64 0, .int .i64 0, .bool false, .int .i64 0, .int .i64 0, .int .i64 0]) ?_ 3 _ rfl; (with_reducible repeat (first | refine blk_drewN ?_ _ | refine blk_drew ?_ | refine blk_alloc ?_ _)); refine blk_put (cs := #[.int .i64 ((rd_T51 l0 x8_1).f0.f0), .int .i64 ((rd_T51 l0 x8_1).f0.f1), .int .i64 0, .int .i64 0, .int .i64 0, .int .i64 0, .bool false, .int .i64 0, .int .i64 0, .int .i64 0]) ?_ 2 _ rfl; (with_reducible repeat (first | refine blk_drewN ?_ _ | refine blk_drew ?_ | refine blk_alloc ?_ _)); refine blk_put (cs := #[.int .i64 ((rd_T51 l0 x8_1).f0.f0), .int .i64 0, .int .i64 0, .int .i64 0, .int .i64 0, .int .i64 0, .bool false, .int .i64 0, .int .i64 0, .int .i64 0]) ?_ 1 _ rfl; (with_reducible repeat (first | refine blk_drewN ?_ _ | refine blk_drew ?_ | refine blk_alloc ?_ _)); refine blk_put (cs := #[.int .i64 0, .int .i64 0, .int .i64 0, .int .i64 0, .int .i64 0, .int .i64 0, .bool false, .int .i64 0, .int .i64 0, .int .i64 0]) ?_ 0 _ rfl; (with_reducible repeat (first | refine blk_drewN ?_ _ | refine blk_drew ?_ | refine blk_alloc ?_ _)); exact BK394.out) hg (Kd.R_ne HO_3.out BK394.out (by decide))); have n1_ := Aside0.mk (hb); have n2_ := Aside0.mk (ho); clear BK394; clear HB; clear HO_3; have BK394 := n0_; have HB := n1_; have HO397 := n2_; clear n0_ n1_ n2_; clear ho hb hg hat))
              go_roundg k1
              case measure => have := HK1.out; omega
              case rel => exact ⟨(y395), (wrap64 (x8_1 + 1)), (by first | rfl | (simp; done) | (simp [*]; done)), H', ⟨by have := HK1.out; omega⟩, ⟨by (with_reducible repeat (first | apply Kd.R_alloc | apply Kd.R_drewN | apply Kd.R_drew)); exact HO397.out⟩, ⟨by repeat (first | (with_reducible first | exact HB.out | apply below_alloc | apply pw_below_drewN | apply below_drew1 | refine below_set ?_ GE394.out) | exact HB.out)⟩⟩
            · rw [if_neg c5] at H
              exact absurd H (by simp)
          · rw [if_neg c4] at H
            exact absurd H (by simp)
        · rw [if_neg c3] at H
          exact absurd H (by simp)
      · rw [if_neg c2] at H
        have c2b0 : decide (x8_1 < (l0.length : Int)) = false := decide_eq_false c2
        clear c2
        obtain rfl := Option.some.inj H
        go_wp2
        go_ret
        exact ⟨_, by first | rfl | (simp [errW_none, errW_some] <;> rfl) | (simp [*, errW_none, errW_some] <;> rfl), by (with_reducible repeat (first | apply Kd.R_alloc | apply Kd.R_drewN | apply Kd.R_drew)); exact HO_3.out, by repeat (first | (with_reducible first | exact HB.out | apply below_alloc | apply pw_below_drewN | apply below_drew1) | exact HB.out)⟩
theorem celluloidlaw15_refs.cn {k : Nat} {A0 : Option Addr} {n0 c0 : Nat} {l0 : List (S51)} {r : List (S74)} {w : World} (h : celluloidlaw15_refs.f k l0 = some r) (hr0 : Kd.C k51 w A0 n0 l0) (hc0 : n0 ≤ c0) :
    Calls Try.prog 15 #[.slice A0 n0 c0] w fun e w' => ∃ (B0 : Option Addr) (d0 : Nat), e = .returned (.slice B0 r.length d0) ∧ Aside0 (Kd.C k74 w' B0 r.length r) ∧ Aside0 (r.length ≤ d0) ∧ Below w.heap.size w w' := by
  obtain rfl := hr0.1
  refine (celluloidlaw15_refs.calls _ _ _ _ _ _ hr0 hc0 h).mono ?_
  rintro e w' ⟨v0, rfl, hv0, hb⟩
  obtain ⟨B0, d0, rfl⟩ := Kd.R_slice hv0
  have q0 := Kd.V_reads' (Kd.R_V (base' := 0) hv0)
  exact ⟨B0, d0, rfl, ⟨q0.2.2⟩, ⟨q0.2.1⟩, hb⟩
end Go.Proofs.Ytlldbmodidhidaa.P
