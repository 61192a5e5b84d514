/- Printed by printx.py (wip/tool) out of the translation: plain functions that tell what the program answers, and the proofs that the program comes to these answers, for all arguments of their kinds. Lean checks it. -/
import Derived.Test.YtgmegmhioiljcaaPx0
import Derived.Test.YtgmegmhioiljcaaPx1
namespace Go.Proofs.Ytgmegmhioiljcaa.P
open Go.RowKit Go.Proofs.YtgmegmhioiljcaaW.PrintWords Go.Proofs.YtgmegmhioiljcaaW.PrintLast Go.Proofs.YtgmegmhioiljcaaW.PrintMore
attribute [local go_sem] max2_int min2_int max_two min_two max_three min_three max_four min_four max_five min_five max_six min_six   -- for this text's walks alone
set_option linter.unusedVariables false
set_option linter.unusedSimpArgs false

/-! ### sweep_Wound: function 16 -/
mutual
def sweep_Wound.l0 : Nat → Int → Int → Int → Int → List (S27) → Int → Int → Option (Int)
  | 0, _, _, _, _, _, _, _ => none
  | k + 1, x1, x2, x3, x9, x16, x17, x18 => if x18 < x17 then (if 0 ≤ x18 then (if x18 < (x16.length : Int) then ((sweep_down.f ((rd_T27 x16 x18).f0.f0) ((rd_T27 x16 x18).f0.f1) ((rd_T27 x16 x18).f1.f0) ((rd_T27 x16 x18).f1.f1) ((rd_T27 x16 x18).f2) ((rd_T27 x16 x18).f3)).bind fun bt110 => ((sweep_RightSeg.f ((rd_T27 x16 x18).f0.f0) ((rd_T27 x16 x18).f0.f1) ((rd_T27 x16 x18).f1.f0) ((rd_T27 x16 x18).f1.f1) ((rd_T27 x16 x18).f2) ((rd_T27 x16 x18).f3)).bind fun t118 => (if t118 = true then ((sweep_sample.f x2).bind fun t119 => (if t119 = true then ((sweep_sample.f x3).bind fun t120 => (if t120 = true then (if x3 < bt110.2.1 then (sweep_Wound.j1 k x1 x2 x3 x9 bt110.2.2.2.2.1 bt110.2.2.2.2.2 x16 x17 x18 true) else (if x3 > bt110.2.2.2.1 then (sweep_Wound.j1 k x1 x2 x3 x9 bt110.2.2.2.2.1 bt110.2.2.2.2.2 x16 x17 x18 true) else (sweep_Wound.j1 k x1 x2 x3 x9 bt110.2.2.2.2.1 bt110.2.2.2.2.2 x16 x17 x18 (decide ((wrap64 ((wrap64 (bt110.2.2.1 - bt110.1)) * (wrap64 (x3 - bt110.2.1)))) > (wrap64 ((wrap64 (x2 - bt110.1)) * (wrap64 (bt110.2.2.2.1 - bt110.2.1))))))))) else (sweep_Wound.j1 k x1 x2 x3 x9 bt110.2.2.2.2.1 bt110.2.2.2.2.2 x16 x17 x18 true))) else (sweep_Wound.j1 k x1 x2 x3 x9 bt110.2.2.2.2.1 bt110.2.2.2.2.2 x16 x17 x18 true))) else (sweep_Wound.j1 k x1 x2 x3 x9 bt110.2.2.2.2.1 bt110.2.2.2.2.2 x16 x17 x18 true)))) else (none)) else (none)) else (some x9)
def sweep_Wound.j1 : Nat → Int → Int → Int → Int → Int → Int → List (S27) → Int → Int → Bool → Option (Int)
  | 0, _, _, _, _, _, _, _, _, _, _ => none
  | k + 1, x1, x2, x3, x9, x14, x15, x16, x17, x18, x76 => if x76 = true then (sweep_Wound.l0 k x1 x2 x3 x9 x16 x17 (wrap64 (x18 + 1))) else (if x14 = x1 then (if x15 = x1 then (sweep_Wound.l0 k x1 x2 x3 (wrap64 ((wrap64 (x9 + 1)) - 1)) x16 x17 (wrap64 (x18 + 1))) else (sweep_Wound.l0 k x1 x2 x3 (wrap64 (x9 + 1)) x16 x17 (wrap64 (x18 + 1)))) else (if x15 = x1 then (sweep_Wound.l0 k x1 x2 x3 (wrap64 (x9 - 1)) x16 x17 (wrap64 (x18 + 1))) else (sweep_Wound.l0 k x1 x2 x3 x9 x16 x17 (wrap64 (x18 + 1)))))
end
def sweep_Wound.f (k : Nat) (l0 : List (S27)) (a1 : Int) (a2 : Int) (a3 : Int) : Option (Int) := sweep_Wound.l0 k a1 a2 a3 0 l0 (l0.length : Int) 0
theorem sweep_Wound.mono_l : ∀ k, (∀ y0 y1 y2 y3 y4 y5 y6, LeO (sweep_Wound.l0 k y0 y1 y2 y3 y4 y5 y6) (sweep_Wound.l0 (k + 1) y0 y1 y2 y3 y4 y5 y6)) ∧ (∀ y0 y1 y2 y3 y4 y5 y6 y7 y8 y9, LeO (sweep_Wound.j1 k y0 y1 y2 y3 y4 y5 y6 y7 y8 y9) (sweep_Wound.j1 (k + 1) y0 y1 y2 y3 y4 y5 y6 y7 y8 y9))
  | 0 => ⟨fun _ _ _ _ _ _ _ r h => by simp [sweep_Wound.l0] at h, fun _ _ _ _ _ _ _ _ _ _ r h => by simp [sweep_Wound.j1] at h⟩
  | k + 1 => by
    obtain ⟨ih0, ih1⟩ := sweep_Wound.mono_l k
    refine ⟨?_, ?_⟩
    · intro y0 y1 y2 y3 y4 y5 y6
      unfold sweep_Wound.l0
      repeat' first
      | (with_reducible exact ih0 _ _ _ _ _ _ _)
      | (with_reducible exact ih1 _ _ _ _ _ _ _ _ _ _)
      | (with_reducible exact LeO.refl _)
      | (with_reducible exact LeO.none _)
      | (with_reducible refine LeO.ite ?_ ?_)
      | (with_reducible refine LeO.bind ?_ (fun _ => ?_))
      | exact ih0 _ _ _ _ _ _ _
      | exact ih1 _ _ _ _ _ _ _ _ _ _
      | exact LeO.none _
      | refine LeO.ite ?_ ?_
      | refine LeO.bind ?_ (fun _ => ?_)
    · intro y0 y1 y2 y3 y4 y5 y6 y7 y8 y9
      unfold sweep_Wound.j1
      repeat' first
      | (with_reducible exact ih0 _ _ _ _ _ _ _)
      | (with_reducible exact ih1 _ _ _ _ _ _ _ _ _ _)
      | (with_reducible exact LeO.refl _)
      | (with_reducible exact LeO.none _)
      | (with_reducible refine LeO.ite ?_ ?_)
      | (with_reducible refine LeO.bind ?_ (fun _ => ?_))
      | exact ih0 _ _ _ _ _ _ _
      | exact ih1 _ _ _ _ _ _ _ _ _ _
      | exact LeO.none _
      | refine LeO.ite ?_ ?_
      | refine LeO.bind ?_ (fun _ => ?_)
theorem sweep_Wound.mono : ∀ a0 a1 a2 a3 k, LeO (sweep_Wound.f k a0 a1 a2 a3) (sweep_Wound.f (k + 1) a0 a1 a2 a3) := by
  intro a0 a1 a2 a3 k
  obtain ⟨ih0, ih1⟩ := sweep_Wound.mono_l k
  unfold sweep_Wound.f
  repeat' first
      | (with_reducible exact ih0 _ _ _ _ _ _ _)
      | (with_reducible exact ih1 _ _ _ _ _ _ _ _ _ _)
      | (with_reducible exact LeO.refl _)
      | (with_reducible exact LeO.none _)
      | (with_reducible refine LeO.ite ?_ ?_)
      | (with_reducible refine LeO.bind ?_ (fun _ => ?_))
      | exact ih0 _ _ _ _ _ _ _
      | exact ih1 _ _ _ _ _ _ _ _ _ _
      | exact LeO.none _
      | refine LeO.ite ?_ ?_
      | refine LeO.bind ?_ (fun _ => ?_)
set_option maxHeartbeats 8000000 in
set_option maxRecDepth 100000 in
theorem sweep_Wound.calls (k : Nat) (A0 : Option Addr) (c0 : Nat) (l0 : List (S27)) (a1 : Int) (a2 : Int) (a3 : Int) (r : Int) (w : World) (hr0 : Kd.C k27 w A0 l0.length l0) (hc0 : l0.length ≤ c0) (h : sweep_Wound.f k l0 a1 a2 a3 = some r) :
    Calls Try.prog 16 #[.slice A0 l0.length c0, .int .i64 a1, .int .i64 a2, .int .i64 a3] w fun e w' => e = .returned (.int .i64 r) ∧ Below w.heap.size w w' := by
  have hu27 := Try.underlying27
  have hu25 := Try.underlying25
  have HR0 := Aside0.mk hr0
  have HC0 := Aside0.mk hc0
  clear hr0 hc0
  have HB := Aside0.mk (Below.refl w.heap.size w)
  have H : (sweep_Wound.l0 k a1 a2 a3 0 l0 (l0.length : Int) 0) = some r := h
  clear h
  have H' := Aside0.mk H
  clear H
  go_enter Try.func16, Try.ntmps16
  go_wp2
  go_loopg [9, 18] k (fun kq v9 v18 w' => ∃ (x9_1 : Int) (x18_1 : Int), v9 = .int .i64 x9_1 ∧ v18 = .int .i64 x18_1 ∧ Aside0 (sweep_Wound.l0 kq a1 a2 a3 x9_1 l0 (l0.length : Int) x18_1 = some r) ∧ Aside0 (kq ≤ k) ∧ Aside0 (Below w.heap.size w w'))
  case atStart => exact ⟨(0), (0), (by first | rfl | (simp; done) | (simp [*]; done)), (by first | rfl | (simp; done) | (simp [*]; done)), H', ⟨Nat.le_refl _⟩, ⟨by repeat (first | (with_reducible first | exact HB.out | apply below_alloc | apply pw_below_drewN | apply below_drew1) | exact HB.out)⟩⟩
  case round =>
    clear H'
    try clear c1
    try clear p2
    obtain ⟨x9_1, x18_1, rfl, rfl, HA, HK1, HB⟩ := hrel
    cases gk with
    | zero => exact absurd HA.out (by simp [sweep_Wound.l0])
    | succ k1 =>
      have H := HA.out
      clear HA
      simp only [sweep_Wound.l0] at H
      by_cases c5 : x18_1 < (l0.length : Int)
      · rw [if_pos c5] at H
        have c5b0 : decide (x18_1 < (l0.length : Int)) = true := decide_eq_true c5
        clear c5
        by_cases c6 : 0 ≤ x18_1
        · rw [if_pos c6] at H
          have c6b0 : decide (0 ≤ x18_1) = true := decide_eq_true c6
          clear c6
          by_cases c7 : x18_1 < (l0.length : Int)
          · rw [if_pos c7] at H
            have c7b0 : decide (x18_1 < (l0.length : Int)) = true := decide_eq_true c7
            clear c7
            replace H := Option.bind_eq_some_iff.mp H
            obtain ⟨⟨t110, t111, t112, t113, t114, t115⟩, A80, H⟩ := H
            replace H : ((sweep_RightSeg.f ((rd_T27 l0 x18_1).f0.f0) ((rd_T27 l0 x18_1).f0.f1) ((rd_T27 l0 x18_1).f1.f0) ((rd_T27 l0 x18_1).f1.f1) ((rd_T27 l0 x18_1).f2) ((rd_T27 l0 x18_1).f3)).bind fun t118 => (if t118 = true then ((sweep_sample.f a2).bind fun t119 => (if t119 = true then ((sweep_sample.f a3).bind fun t120 => (if t120 = true then (if a3 < t111 then (sweep_Wound.j1 k1 a1 a2 a3 x9_1 t114 t115 l0 (l0.length : Int) x18_1 true) else (if a3 > t113 then (sweep_Wound.j1 k1 a1 a2 a3 x9_1 t114 t115 l0 (l0.length : Int) x18_1 true) else (sweep_Wound.j1 k1 a1 a2 a3 x9_1 t114 t115 l0 (l0.length : Int) x18_1 (decide ((wrap64 ((wrap64 (t112 - t110)) * (wrap64 (a3 - t111)))) > (wrap64 ((wrap64 (a2 - t110)) * (wrap64 (t113 - t111))))))))) else (sweep_Wound.j1 k1 a1 a2 a3 x9_1 t114 t115 l0 (l0.length : Int) x18_1 true))) else (sweep_Wound.j1 k1 a1 a2 a3 x9_1 t114 t115 l0 (l0.length : Int) x18_1 true))) else (sweep_Wound.j1 k1 a1 a2 a3 x9_1 t114 t115 l0 (l0.length : Int) x18_1 true))) = some r := H
            have A8 := Aside0.mk A80
            clear A80
            have HC9 := Aside0.mk H
            clear H
            have p108 : 0 ≤ (x18_1 : Int) := of_decide_eq_true (by first | (with_reducible assumption) | assumption)
            have q108 : x18_1 < (l0.length : Int) := of_decide_eq_true (by first | (with_reducible assumption) | assumption)
            obtain ⟨ad108, e108, hx108_0, hx108_1, hx108_2, hx108_3, hx108_4, hx108_5⟩ := at_T27 HR0.out x18_1 p108 q108
            cases e108
            replace hx108_0 := (HB.out.cell (World.block_lt_of_cell? w _ hx108_0)).trans hx108_0
            replace hx108_1 := (HB.out.cell (World.block_lt_of_cell? w _ hx108_1)).trans hx108_1
            replace hx108_2 := (HB.out.cell (World.block_lt_of_cell? w _ hx108_2)).trans hx108_2
            replace hx108_3 := (HB.out.cell (World.block_lt_of_cell? w _ hx108_3)).trans hx108_3
            replace hx108_4 := (HB.out.cell (World.block_lt_of_cell? w _ hx108_4)).trans hx108_4
            replace hx108_5 := (HB.out.cell (World.block_lt_of_cell? w _ hx108_5)).trans hx108_5
            replace p108 := eq_true p108
            replace q108 := eq_true q108
            go_upto_region 6 with (first | ((with_reducible refine gate_dst (N := 11) rfl ?_); refine box_event ?hg (N := 11) ?hd (cs := #[.int .i64 0, .int .i64 0, .int .i64 0, .int .i64 0, .int .i64 0, .int .i64 0]) (t := 27) ?hr ?_; (case hd => rfl); (case hg => rfl); (case hr => first | (go_simp; done) | (go_simp; rfl)); intro gb109 hg w10 hbox hb; have n0_ := Aside0.mk (below_step (by repeat (first | (with_reducible first | exact HB.out | apply below_alloc | apply pw_below_drewN | apply below_drew1) | exact HB.out)) hb); have n1_ := Aside0.mk (hbox); have n2_ := Aside0.mk ((by rw [hg]; exact (below_size (by repeat (first | (with_reducible first | exact HB.out | apply below_alloc | apply pw_below_drewN | apply below_drew1) | exact HB.out))) : w.heap.size ≤ gb109)); have n3_ := Aside0.mk ((by rw [hg]; exact (below_size (by repeat (first | (with_reducible first | exact HB.out | apply below_alloc | apply pw_below_drewN | apply below_drew1) | exact HB.out))) : w.heap.size ≤ gb109)); clear HB; have HB := n0_; have BK109 := n1_; have GW109 := n2_; have GE109 := n3_; clear n0_ n1_ n2_ n3_; clear hb hbox hg; have hcz11_0 : w10.cell? ⟨gb109, 0, none⟩ = some (.int .i64 0) := (blk_cell BK109.out 0).trans rfl; have hcz11_1 : w10.cell? ⟨gb109, 1, none⟩ = some (.int .i64 0) := (blk_cell BK109.out 1).trans rfl; have hcz11_2 : w10.cell? ⟨gb109, 2, none⟩ = some (.int .i64 0) := (blk_cell BK109.out 2).trans rfl; have hcz11_3 : w10.cell? ⟨gb109, 3, none⟩ = some (.int .i64 0) := (blk_cell BK109.out 3).trans rfl; have hcz11_4 : w10.cell? ⟨gb109, 4, none⟩ = some (.int .i64 0) := (blk_cell BK109.out 4).trans rfl; have hcz11_5 : w10.cell? ⟨gb109, 5, none⟩ = some (.int .i64 0) := (blk_cell BK109.out 5).trans rfl; have hfz11_0 := blk_frozen BK109.out 0; have hfz11_1 := blk_frozen BK109.out 1; have hfz11_2 := blk_frozen BK109.out 2; have hfz11_3 := blk_frozen BK109.out 3; have hfz11_4 := blk_frozen BK109.out 4; have hfz11_5 := blk_frozen BK109.out 5) | ((with_reducible refine gate_callee (f := 25) rfl ?_); refine goesL_ (some 24) rfl rfl Try.func25 (by kernel_rfl) rfl #[.agg #[.int .i64 ((rd_T27 l0 x18_1).f0.f0), .int .i64 ((rd_T27 l0 x18_1).f0.f1), .int .i64 ((rd_T27 l0 x18_1).f1.f0), .int .i64 ((rd_T27 l0 x18_1).f1.f1), .int .i64 ((rd_T27 l0 x18_1).f2), .int .i64 ((rd_T27 l0 x18_1).f3)]] rfl (by (try simp only [List.map_toArray, List.map_cons, List.map_nil]); first | done | rfl | (simp only [List.length_drop, List.length_take]; rfl)) ?_; (with_reducible refine (sweep_down.calls ((rd_T27 l0 x18_1).f0.f0) ((rd_T27 l0 x18_1).f0.f1) ((rd_T27 l0 x18_1).f1.f0) ((rd_T27 l0 x18_1).f1.f1) ((rd_T27 l0 x18_1).f2) ((rd_T27 l0 x18_1).f3) t110 t111 t112 t113 t114 t115 _ A8.out).mono ?_); rintro e w12 ⟨rfl, hb⟩; refine ⟨_, rfl, ?_⟩; have n0_ := Aside0.mk (blk_below (g := gb109) (o := .cells #[.int .i64 ((rd_T27 l0 x18_1).f0.f0), .int .i64 ((rd_T27 l0 x18_1).f0.f1), .int .i64 ((rd_T27 l0 x18_1).f1.f0), .int .i64 ((rd_T27 l0 x18_1).f1.f1), .int .i64 ((rd_T27 l0 x18_1).f2), .int .i64 ((rd_T27 l0 x18_1).f3)] 27 (0, 0)) (by (with_reducible repeat (first | refine blk_drewN ?_ _ | refine blk_drew ?_ | refine blk_alloc ?_ _)); refine blk_put (cs := #[.int .i64 ((rd_T27 l0 x18_1).f0.f0), .int .i64 ((rd_T27 l0 x18_1).f0.f1), .int .i64 ((rd_T27 l0 x18_1).f1.f0), .int .i64 ((rd_T27 l0 x18_1).f1.f1), .int .i64 ((rd_T27 l0 x18_1).f2), .int .i64 0]) ?_ 5 _ rfl; (with_reducible repeat (first | refine blk_drewN ?_ _ | refine blk_drew ?_ | refine blk_alloc ?_ _)); refine blk_put (cs := #[.int .i64 ((rd_T27 l0 x18_1).f0.f0), .int .i64 ((rd_T27 l0 x18_1).f0.f1), .int .i64 ((rd_T27 l0 x18_1).f1.f0), .int .i64 ((rd_T27 l0 x18_1).f1.f1), .int .i64 0, .int .i64 0]) ?_ 4 _ rfl; (with_reducible repeat (first | refine blk_drewN ?_ _ | refine blk_drew ?_ | refine blk_alloc ?_ _)); refine blk_put (cs := #[.int .i64 ((rd_T27 l0 x18_1).f0.f0), .int .i64 ((rd_T27 l0 x18_1).f0.f1), .int .i64 ((rd_T27 l0 x18_1).f1.f0), .int .i64 0, .int .i64 0, .int .i64 0]) ?_ 3 _ rfl; (with_reducible repeat (first | refine blk_drewN ?_ _ | refine blk_drew ?_ | refine blk_alloc ?_ _)); refine blk_put (cs := #[.int .i64 ((rd_T27 l0 x18_1).f0.f0), .int .i64 ((rd_T27 l0 x18_1).f0.f1), .int .i64 0, .int .i64 0, .int .i64 0, .int .i64 0]) ?_ 2 _ rfl; (with_reducible repeat (first | refine blk_drewN ?_ _ | refine blk_drew ?_ | refine blk_alloc ?_ _)); refine blk_put (cs := #[.int .i64 ((rd_T27 l0 x18_1).f0.f0), .int .i64 0, .int .i64 0, .int .i64 0, .int .i64 0, .int .i64 0]) ?_ 1 _ rfl; (with_reducible repeat (first | refine blk_drewN ?_ _ | refine blk_drew ?_ | refine blk_alloc ?_ _)); refine blk_put (cs := #[.int .i64 0, .int .i64 0, .int .i64 0, .int .i64 0, .int .i64 0, .int .i64 0]) ?_ 0 _ rfl; (with_reducible repeat (first | refine blk_drewN ?_ _ | refine blk_drew ?_ | refine blk_alloc ?_ _)); exact BK109.out) hb); have n1_ := Aside0.mk (below_step (by repeat (first | (with_reducible first | exact HB.out | apply below_alloc | apply pw_below_drewN | apply below_drew1 | refine below_set ?_ GE109.out) | exact HB.out)) hb); clear BK109; clear HB; have BK109 := n0_; have HB := n1_; clear n0_ n1_; (try clear hb); (try clear hb2); (try clear hk); (try clear hi)) | ((with_reducible refine gate_dst (N := 12) rfl ?_); refine box_event ?hg (N := 12) ?hd (cs := #[.int .i64 0, .int .i64 0]) (t := 25) ?hr ?_; (case hd => rfl); (case hg => rfl); (case hr => first | (go_simp; done) | (go_simp; rfl)); intro gb116 hg w13 hbox hb; have n0_ := Aside0.mk (blk_below (g := gb109) (o := .cells #[.int .i64 ((rd_T27 l0 x18_1).f0.f0), .int .i64 ((rd_T27 l0 x18_1).f0.f1), .int .i64 ((rd_T27 l0 x18_1).f1.f0), .int .i64 ((rd_T27 l0 x18_1).f1.f1), .int .i64 ((rd_T27 l0 x18_1).f2), .int .i64 ((rd_T27 l0 x18_1).f3)] 27 (0, 0)) (by (with_reducible repeat (first | refine blk_drewN ?_ _ | refine blk_drew ?_ | refine blk_alloc ?_ _)); exact BK109.out) hb); have n1_ := Aside0.mk (below_step (by repeat (first | (with_reducible first | exact HB.out | apply below_alloc | apply pw_below_drewN | apply below_drew1 | refine below_set ?_ GE109.out) | exact HB.out)) hb); have n2_ := Aside0.mk (hbox); have n3_ := Aside0.mk ((by rw [hg]; exact (below_size (by repeat (first | (with_reducible first | exact HB.out | apply below_alloc | apply pw_below_drewN | apply below_drew1 | refine below_set ?_ GE109.out) | exact HB.out))) : w.heap.size ≤ gb116)); have n4_ := Aside0.mk ((by rw [hg]; exact (below_size (by repeat (first | (with_reducible first | exact HB.out | apply below_alloc | apply pw_below_drewN | apply below_drew1 | refine below_set ?_ GE109.out) | exact HB.out))) : w.heap.size ≤ gb116)); have n5_ := Aside0.mk ((by rw [hg]; exact Nat.ne_of_lt (blk_lt (g := gb109) (o := .cells #[.int .i64 ((rd_T27 l0 x18_1).f0.f0), .int .i64 ((rd_T27 l0 x18_1).f0.f1), .int .i64 ((rd_T27 l0 x18_1).f1.f0), .int .i64 ((rd_T27 l0 x18_1).f1.f1), .int .i64 ((rd_T27 l0 x18_1).f2), .int .i64 ((rd_T27 l0 x18_1).f3)] 27 (0, 0)) (by (with_reducible repeat (first | refine blk_drewN ?_ _ | refine blk_drew ?_ | refine blk_alloc ?_ _)); exact BK109.out)) : gb109 ≠ gb116)); have n6_ := Aside0.mk ((by rw [hg]; exact Nat.ne_of_gt (blk_lt (g := gb109) (o := .cells #[.int .i64 ((rd_T27 l0 x18_1).f0.f0), .int .i64 ((rd_T27 l0 x18_1).f0.f1), .int .i64 ((rd_T27 l0 x18_1).f1.f0), .int .i64 ((rd_T27 l0 x18_1).f1.f1), .int .i64 ((rd_T27 l0 x18_1).f2), .int .i64 ((rd_T27 l0 x18_1).f3)] 27 (0, 0)) (by (with_reducible repeat (first | refine blk_drewN ?_ _ | refine blk_drew ?_ | refine blk_alloc ?_ _)); exact BK109.out)) : gb116 ≠ gb109)); clear BK109; clear HB; have BK109 := n0_; have HB := n1_; have BK116 := n2_; have GW116 := n3_; have GE116 := n4_; have NB109_116 := n5_; have NB116_109 := n6_; clear n0_ n1_ n2_ n3_ n4_ n5_ n6_; clear hb hbox hg) | ((with_reducible refine gate_dst (N := 13) rfl ?_); refine box_event ?hg (N := 13) ?hd (cs := #[.int .i64 0, .int .i64 0]) (t := 25) ?hr ?_; (case hd => rfl); (case hg => rfl); (case hr => first | (go_simp; done) | (go_simp; rfl)); intro gb117 hg w14 hbox hb; have n0_ := Aside0.mk (blk_below (g := gb109) (o := .cells #[.int .i64 ((rd_T27 l0 x18_1).f0.f0), .int .i64 ((rd_T27 l0 x18_1).f0.f1), .int .i64 ((rd_T27 l0 x18_1).f1.f0), .int .i64 ((rd_T27 l0 x18_1).f1.f1), .int .i64 ((rd_T27 l0 x18_1).f2), .int .i64 ((rd_T27 l0 x18_1).f3)] 27 (0, 0)) (by (with_reducible repeat (first | refine blk_drewN ?_ _ | refine blk_drew ?_ | refine blk_alloc ?_ _)); exact BK109.out) hb); have n1_ := Aside0.mk (blk_below (g := gb116) (o := .cells #[.int .i64 0, .int .i64 0] 25 (0, 0)) (by (with_reducible repeat (first | refine blk_drewN ?_ _ | refine blk_drew ?_ | refine blk_alloc ?_ _)); exact BK116.out) hb); have n2_ := Aside0.mk (below_step (by repeat (first | (with_reducible first | exact HB.out | apply below_alloc | apply pw_below_drewN | apply below_drew1 | refine below_set ?_ GE109.out | refine below_set ?_ GE116.out) | exact HB.out)) hb); have n3_ := Aside0.mk (hbox); have n4_ := Aside0.mk ((by rw [hg]; exact (below_size (by repeat (first | (with_reducible first | exact HB.out | apply below_alloc | apply pw_below_drewN | apply below_drew1 | refine below_set ?_ GE109.out | refine below_set ?_ GE116.out) | exact HB.out))) : w.heap.size ≤ gb117)); have n5_ := Aside0.mk ((by rw [hg]; exact (below_size (by repeat (first | (with_reducible first | exact HB.out | apply below_alloc | apply pw_below_drewN | apply below_drew1 | refine below_set ?_ GE109.out | refine below_set ?_ GE116.out) | exact HB.out))) : w.heap.size ≤ gb117)); have n6_ := Aside0.mk ((by rw [hg]; exact Nat.ne_of_lt (blk_lt (g := gb109) (o := .cells #[.int .i64 ((rd_T27 l0 x18_1).f0.f0), .int .i64 ((rd_T27 l0 x18_1).f0.f1), .int .i64 ((rd_T27 l0 x18_1).f1.f0), .int .i64 ((rd_T27 l0 x18_1).f1.f1), .int .i64 ((rd_T27 l0 x18_1).f2), .int .i64 ((rd_T27 l0 x18_1).f3)] 27 (0, 0)) (by (with_reducible repeat (first | refine blk_drewN ?_ _ | refine blk_drew ?_ | refine blk_alloc ?_ _)); exact BK109.out)) : gb109 ≠ gb117)); have n7_ := Aside0.mk ((by rw [hg]; exact Nat.ne_of_gt (blk_lt (g := gb109) (o := .cells #[.int .i64 ((rd_T27 l0 x18_1).f0.f0), .int .i64 ((rd_T27 l0 x18_1).f0.f1), .int .i64 ((rd_T27 l0 x18_1).f1.f0), .int .i64 ((rd_T27 l0 x18_1).f1.f1), .int .i64 ((rd_T27 l0 x18_1).f2), .int .i64 ((rd_T27 l0 x18_1).f3)] 27 (0, 0)) (by (with_reducible repeat (first | refine blk_drewN ?_ _ | refine blk_drew ?_ | refine blk_alloc ?_ _)); exact BK109.out)) : gb117 ≠ gb109)); have n8_ := Aside0.mk ((by rw [hg]; exact Nat.ne_of_lt (blk_lt (g := gb116) (o := .cells #[.int .i64 0, .int .i64 0] 25 (0, 0)) (by (with_reducible repeat (first | refine blk_drewN ?_ _ | refine blk_drew ?_ | refine blk_alloc ?_ _)); exact BK116.out)) : gb116 ≠ gb117)); have n9_ := Aside0.mk ((by rw [hg]; exact Nat.ne_of_gt (blk_lt (g := gb116) (o := .cells #[.int .i64 0, .int .i64 0] 25 (0, 0)) (by (with_reducible repeat (first | refine blk_drewN ?_ _ | refine blk_drew ?_ | refine blk_alloc ?_ _)); exact BK116.out)) : gb117 ≠ gb116)); clear BK109; clear BK116; clear HB; have BK109 := n0_; have BK116 := n1_; have HB := n2_; have BK117 := n3_; have GW117 := n4_; have GE117 := n5_; have NB109_117 := n6_; have NB117_109 := n7_; have NB116_117 := n8_; have NB117_116 := n9_; clear n0_ n1_ n2_ n3_ n4_ n5_ n6_ n7_ n8_ n9_; clear hb hbox hg; have hnb15 := NB116_109.out; have hnc15 := NB109_116.out; have hnb16 := NB116_117.out; have hnc16 := NB117_116.out; have hcz17_0 : w14.cell? ⟨gb116, 0, none⟩ = some (.int .i64 0) := (blk_cell BK116.out 0).trans rfl; have hcz17_1 : w14.cell? ⟨gb116, 1, none⟩ = some (.int .i64 0) := (blk_cell BK116.out 1).trans rfl; have hfz17_0 := blk_frozen BK116.out 0; have hfz17_1 := blk_frozen BK116.out 1; have hnb18 := NB117_109.out; have hnc18 := NB109_117.out; have hcz19_0 : w14.cell? ⟨gb117, 0, none⟩ = some (.int .i64 0) := (blk_cell BK117.out 0).trans rfl; have hcz19_1 : w14.cell? ⟨gb117, 1, none⟩ = some (.int .i64 0) := (blk_cell BK117.out 1).trans rfl; have hfz19_0 := blk_frozen BK117.out 0; have hfz19_1 := blk_frozen BK117.out 1))
            (try simp only [Act.put, List.setIfInBounds_toArray, List.set_cons_zero, List.set_cons_succ])
            go_cut [76] (fun v76 wc => ∃ (kq : Nat) (x76_8 : Bool), v76 = .bool x76_8 ∧ Aside0 (sweep_Wound.j1 kq a1 a2 a3 x9_1 t114 t115 l0 (l0.length : Int) x18_1 x76_8 = some r) ∧ Aside0 (kq ≤ k1) ∧ Aside0 (wc.heap[gb109]? = some (.cells #[.int .i64 ((rd_T27 l0 x18_1).f0.f0), .int .i64 ((rd_T27 l0 x18_1).f0.f1), .int .i64 ((rd_T27 l0 x18_1).f1.f0), .int .i64 ((rd_T27 l0 x18_1).f1.f1), .int .i64 ((rd_T27 l0 x18_1).f2), .int .i64 ((rd_T27 l0 x18_1).f3)] 27 (0, 0))) ∧ Aside0 (wc.heap[gb116]? = some (.cells #[.int .i64 t110, .int .i64 t111] 25 (0, 0))) ∧ Aside0 (wc.heap[gb117]? = some (.cells #[.int .i64 t112, .int .i64 t113] 25 (0, 0))) ∧ Aside0 (Below w.heap.size w wc))
            case first =>
              have H := HC9.out
              clear HC9
              replace H := Option.bind_eq_some_iff.mp H
              obtain ⟨t118, A200, H⟩ := H
              replace H : (if t118 = true then ((sweep_sample.f a2).bind fun t119 => (if t119 = true then ((sweep_sample.f a3).bind fun t120 => (if t120 = true then (if a3 < t111 then (sweep_Wound.j1 k1 a1 a2 a3 x9_1 t114 t115 l0 (l0.length : Int) x18_1 true) else (if a3 > t113 then (sweep_Wound.j1 k1 a1 a2 a3 x9_1 t114 t115 l0 (l0.length : Int) x18_1 true) else (sweep_Wound.j1 k1 a1 a2 a3 x9_1 t114 t115 l0 (l0.length : Int) x18_1 (decide ((wrap64 ((wrap64 (t112 - t110)) * (wrap64 (a3 - t111)))) > (wrap64 ((wrap64 (a2 - t110)) * (wrap64 (t113 - t111))))))))) else (sweep_Wound.j1 k1 a1 a2 a3 x9_1 t114 t115 l0 (l0.length : Int) x18_1 true))) else (sweep_Wound.j1 k1 a1 a2 a3 x9_1 t114 t115 l0 (l0.length : Int) x18_1 true))) else (sweep_Wound.j1 k1 a1 a2 a3 x9_1 t114 t115 l0 (l0.length : Int) x18_1 true)) = some r := H
              have A20 := Aside0.mk A200
              clear A200
              by_cases c21 : t118 = true
              · subst c21
                have H1 : ((sweep_sample.f a2).bind fun t119 => (if t119 = true then ((sweep_sample.f a3).bind fun t120 => (if t120 = true then (if a3 < t111 then (sweep_Wound.j1 k1 a1 a2 a3 x9_1 t114 t115 l0 (l0.length : Int) x18_1 true) else (if a3 > t113 then (sweep_Wound.j1 k1 a1 a2 a3 x9_1 t114 t115 l0 (l0.length : Int) x18_1 true) else (sweep_Wound.j1 k1 a1 a2 a3 x9_1 t114 t115 l0 (l0.length : Int) x18_1 (decide ((wrap64 ((wrap64 (t112 - t110)) * (wrap64 (a3 - t111)))) > (wrap64 ((wrap64 (a2 - t110)) * (wrap64 (t113 - t111))))))))) else (sweep_Wound.j1 k1 a1 a2 a3 x9_1 t114 t115 l0 (l0.length : Int) x18_1 true))) else (sweep_Wound.j1 k1 a1 a2 a3 x9_1 t114 t115 l0 (l0.length : Int) x18_1 true))) = some r := by rw [if_pos rfl] at H; exact H
                clear H
                have H := H1
                clear H1
                replace H := Option.bind_eq_some_iff.mp H
                obtain ⟨t119, A220, H⟩ := H
                replace H : (if t119 = true then ((sweep_sample.f a3).bind fun t120 => (if t120 = true then (if a3 < t111 then (sweep_Wound.j1 k1 a1 a2 a3 x9_1 t114 t115 l0 (l0.length : Int) x18_1 true) else (if a3 > t113 then (sweep_Wound.j1 k1 a1 a2 a3 x9_1 t114 t115 l0 (l0.length : Int) x18_1 true) else (sweep_Wound.j1 k1 a1 a2 a3 x9_1 t114 t115 l0 (l0.length : Int) x18_1 (decide ((wrap64 ((wrap64 (t112 - t110)) * (wrap64 (a3 - t111)))) > (wrap64 ((wrap64 (a2 - t110)) * (wrap64 (t113 - t111))))))))) else (sweep_Wound.j1 k1 a1 a2 a3 x9_1 t114 t115 l0 (l0.length : Int) x18_1 true))) else (sweep_Wound.j1 k1 a1 a2 a3 x9_1 t114 t115 l0 (l0.length : Int) x18_1 true)) = some r := H
                have A22 := Aside0.mk A220
                clear A220
                by_cases c23 : t119 = true
                · subst c23
                  have H1 : ((sweep_sample.f a3).bind fun t120 => (if t120 = true then (if a3 < t111 then (sweep_Wound.j1 k1 a1 a2 a3 x9_1 t114 t115 l0 (l0.length : Int) x18_1 true) else (if a3 > t113 then (sweep_Wound.j1 k1 a1 a2 a3 x9_1 t114 t115 l0 (l0.length : Int) x18_1 true) else (sweep_Wound.j1 k1 a1 a2 a3 x9_1 t114 t115 l0 (l0.length : Int) x18_1 (decide ((wrap64 ((wrap64 (t112 - t110)) * (wrap64 (a3 - t111)))) > (wrap64 ((wrap64 (a2 - t110)) * (wrap64 (t113 - t111))))))))) else (sweep_Wound.j1 k1 a1 a2 a3 x9_1 t114 t115 l0 (l0.length : Int) x18_1 true))) = some r := by rw [if_pos rfl] at H; exact H
                  clear H
                  have H := H1
                  clear H1
                  replace H := Option.bind_eq_some_iff.mp H
                  obtain ⟨t120, A240, H⟩ := H
                  replace H : (if t120 = true then (if a3 < t111 then (sweep_Wound.j1 k1 a1 a2 a3 x9_1 t114 t115 l0 (l0.length : Int) x18_1 true) else (if a3 > t113 then (sweep_Wound.j1 k1 a1 a2 a3 x9_1 t114 t115 l0 (l0.length : Int) x18_1 true) else (sweep_Wound.j1 k1 a1 a2 a3 x9_1 t114 t115 l0 (l0.length : Int) x18_1 (decide ((wrap64 ((wrap64 (t112 - t110)) * (wrap64 (a3 - t111)))) > (wrap64 ((wrap64 (a2 - t110)) * (wrap64 (t113 - t111))))))))) else (sweep_Wound.j1 k1 a1 a2 a3 x9_1 t114 t115 l0 (l0.length : Int) x18_1 true)) = some r := H
                  have A24 := Aside0.mk A240
                  clear A240
                  by_cases c25 : t120 = true
                  · subst c25
                    have H1 : (if a3 < t111 then (sweep_Wound.j1 k1 a1 a2 a3 x9_1 t114 t115 l0 (l0.length : Int) x18_1 true) else (if a3 > t113 then (sweep_Wound.j1 k1 a1 a2 a3 x9_1 t114 t115 l0 (l0.length : Int) x18_1 true) else (sweep_Wound.j1 k1 a1 a2 a3 x9_1 t114 t115 l0 (l0.length : Int) x18_1 (decide ((wrap64 ((wrap64 (t112 - t110)) * (wrap64 (a3 - t111)))) > (wrap64 ((wrap64 (a2 - t110)) * (wrap64 (t113 - t111))))))))) = some r := by rw [if_pos rfl] at H; exact H
                    clear H
                    have H := H1
                    clear H1
                    by_cases c26 : a3 < t111
                    · rw [if_pos c26] at H
                      have c26b0 : decide (a3 < t111) = true := decide_eq_true c26
                      clear c26
                      (first | rw [c26b0] | (simp only [i64_w, i32_w]; rw [c26b0]) | skip)
                      have H' := Aside0.mk H
                      clear H
                      have hnb27 := NB109_116.out
                      have hnc27 := NB116_109.out
                      have hnb28 := NB109_117.out
                      have hnc28 := NB117_109.out
                      have hcz29_0 : w14.cell? ⟨gb109, 0, none⟩ = some (.int .i64 ((rd_T27 l0 x18_1).f0.f0)) := (blk_cell BK109.out 0).trans rfl
                      have hcz29_1 : w14.cell? ⟨gb109, 1, none⟩ = some (.int .i64 ((rd_T27 l0 x18_1).f0.f1)) := (blk_cell BK109.out 1).trans rfl
                      have hcz29_2 : w14.cell? ⟨gb109, 2, none⟩ = some (.int .i64 ((rd_T27 l0 x18_1).f1.f0)) := (blk_cell BK109.out 2).trans rfl
                      have hcz29_3 : w14.cell? ⟨gb109, 3, none⟩ = some (.int .i64 ((rd_T27 l0 x18_1).f1.f1)) := (blk_cell BK109.out 3).trans rfl
                      have hcz29_4 : w14.cell? ⟨gb109, 4, none⟩ = some (.int .i64 ((rd_T27 l0 x18_1).f2)) := (blk_cell BK109.out 4).trans rfl
                      have hcz29_5 : w14.cell? ⟨gb109, 5, none⟩ = some (.int .i64 ((rd_T27 l0 x18_1).f3)) := (blk_cell BK109.out 5).trans rfl
                      have hfz29_0 := blk_frozen BK109.out 0
                      have hfz29_1 := blk_frozen BK109.out 1
                      have hfz29_2 := blk_frozen BK109.out 2
                      have hfz29_3 := blk_frozen BK109.out 3
                      have hfz29_4 := blk_frozen BK109.out 4
                      have hfz29_5 := blk_frozen BK109.out 5
                      go_wp2_with (first | ((with_reducible refine gate_callee (f := 11) rfl ?_); refine goesL_ (some 30) rfl rfl Try.func11 (by kernel_rfl) rfl #[.agg #[.int .i64 ((rd_T27 l0 x18_1).f0.f0), .int .i64 ((rd_T27 l0 x18_1).f0.f1), .int .i64 ((rd_T27 l0 x18_1).f1.f0), .int .i64 ((rd_T27 l0 x18_1).f1.f1), .int .i64 ((rd_T27 l0 x18_1).f2), .int .i64 ((rd_T27 l0 x18_1).f3)]] rfl (by (try simp only [List.map_toArray, List.map_cons, List.map_nil]); first | done | rfl | (simp only [List.length_drop, List.length_take]; rfl)) ?_; (with_reducible refine (sweep_RightSeg.calls ((rd_T27 l0 x18_1).f0.f0) ((rd_T27 l0 x18_1).f0.f1) ((rd_T27 l0 x18_1).f1.f0) ((rd_T27 l0 x18_1).f1.f1) ((rd_T27 l0 x18_1).f2) ((rd_T27 l0 x18_1).f3) true _ A20.out).mono ?_); rintro e w30 ⟨rfl, hb⟩; refine ⟨_, rfl, ?_⟩; have n0_ := Aside0.mk (blk_below (g := gb109) (o := .cells #[.int .i64 ((rd_T27 l0 x18_1).f0.f0), .int .i64 ((rd_T27 l0 x18_1).f0.f1), .int .i64 ((rd_T27 l0 x18_1).f1.f0), .int .i64 ((rd_T27 l0 x18_1).f1.f1), .int .i64 ((rd_T27 l0 x18_1).f2), .int .i64 ((rd_T27 l0 x18_1).f3)] 27 (0, 0)) (by (with_reducible repeat (first | refine blk_drewN ?_ _ | refine blk_drew ?_ | refine blk_alloc ?_ _)); refine blk_far ?_ NB109_117.out _; (with_reducible repeat (first | refine blk_drewN ?_ _ | refine blk_drew ?_ | refine blk_alloc ?_ _)); refine blk_far ?_ NB109_117.out _; (with_reducible repeat (first | refine blk_drewN ?_ _ | refine blk_drew ?_ | refine blk_alloc ?_ _)); refine blk_far ?_ NB109_116.out _; (with_reducible repeat (first | refine blk_drewN ?_ _ | refine blk_drew ?_ | refine blk_alloc ?_ _)); refine blk_far ?_ NB109_116.out _; (with_reducible repeat (first | refine blk_drewN ?_ _ | refine blk_drew ?_ | refine blk_alloc ?_ _)); exact BK109.out) hb); have n1_ := Aside0.mk (blk_below (g := gb116) (o := .cells #[.int .i64 t110, .int .i64 t111] 25 (0, 0)) (by (with_reducible repeat (first | refine blk_drewN ?_ _ | refine blk_drew ?_ | refine blk_alloc ?_ _)); refine blk_far ?_ NB116_117.out _; (with_reducible repeat (first | refine blk_drewN ?_ _ | refine blk_drew ?_ | refine blk_alloc ?_ _)); refine blk_far ?_ NB116_117.out _; (with_reducible repeat (first | refine blk_drewN ?_ _ | refine blk_drew ?_ | refine blk_alloc ?_ _)); refine blk_put (cs := #[.int .i64 t110, .int .i64 0]) ?_ 1 _ rfl; (with_reducible repeat (first | refine blk_drewN ?_ _ | refine blk_drew ?_ | refine blk_alloc ?_ _)); refine blk_put (cs := #[.int .i64 0, .int .i64 0]) ?_ 0 _ rfl; (with_reducible repeat (first | refine blk_drewN ?_ _ | refine blk_drew ?_ | refine blk_alloc ?_ _)); exact BK116.out) hb); have n2_ := Aside0.mk (blk_below (g := gb117) (o := .cells #[.int .i64 t112, .int .i64 t113] 25 (0, 0)) (by (with_reducible repeat (first | refine blk_drewN ?_ _ | refine blk_drew ?_ | refine blk_alloc ?_ _)); refine blk_put (cs := #[.int .i64 t112, .int .i64 0]) ?_ 1 _ rfl; (with_reducible repeat (first | refine blk_drewN ?_ _ | refine blk_drew ?_ | refine blk_alloc ?_ _)); refine blk_put (cs := #[.int .i64 0, .int .i64 0]) ?_ 0 _ rfl; (with_reducible repeat (first | refine blk_drewN ?_ _ | refine blk_drew ?_ | refine blk_alloc ?_ _)); refine blk_far ?_ NB117_116.out _; (with_reducible repeat (first | refine blk_drewN ?_ _ | refine blk_drew ?_ | refine blk_alloc ?_ _)); refine blk_far ?_ NB117_116.out _; (with_reducible repeat (first | refine blk_drewN ?_ _ | refine blk_drew ?_ | refine blk_alloc ?_ _)); exact BK117.out) hb); have n3_ := Aside0.mk (below_step (by repeat (first | (with_reducible first | exact HB.out | apply below_alloc | apply pw_below_drewN | apply below_drew1 | refine below_set ?_ GE109.out | refine below_set ?_ GE116.out | refine below_set ?_ GE117.out) | exact HB.out)) hb); clear BK109; clear BK116; clear BK117; clear HB; have BK109 := n0_; have BK116 := n1_; have BK117 := n2_; have HB := n3_; clear n0_ n1_ n2_ n3_; (try clear hb); (try clear hb2); (try clear hk); (try clear hi)) | (go_at_call 26; (with_reducible refine (sweep_sample.calls a2 true _ A22.out).mono ?_); rintro e w' ⟨rfl, ⟨nd, rfl⟩⟩) | (go_at_call 26; (with_reducible refine (sweep_sample.calls a3 true _ A24.out).mono ?_); rintro e w' ⟨rfl, ⟨nd, rfl⟩⟩; have hnb31 := NB116_117.out; have hnc31 := NB117_116.out; have hcz32_0 : w30.cell? ⟨gb116, 0, none⟩ = some (.int .i64 t110) := (blk_cell BK116.out 0).trans rfl; have hcz32_1 : w30.cell? ⟨gb116, 1, none⟩ = some (.int .i64 t111) := (blk_cell BK116.out 1).trans rfl; have hfz32_0 := blk_frozen BK116.out 0; have hfz32_1 := blk_frozen BK116.out 1))
                      go_meet
                      case rel => exact ⟨_, (true), (by first | rfl | (simp; done) | (simp [*]; done)), H', ⟨by have := HK1.out; first | omega | exact Nat.le_refl _⟩, ⟨by (with_reducible repeat (first | refine blk_drewN ?_ _ | refine blk_drew ?_ | refine blk_alloc ?_ _)); exact BK109.out⟩, ⟨by (with_reducible repeat (first | refine blk_drewN ?_ _ | refine blk_drew ?_ | refine blk_alloc ?_ _)); exact BK116.out⟩, ⟨by (with_reducible repeat (first | refine blk_drewN ?_ _ | refine blk_drew ?_ | refine blk_alloc ?_ _)); exact BK117.out⟩, ⟨by repeat (first | (with_reducible first | exact HB.out | apply below_alloc | apply pw_below_drewN | apply below_drew1 | refine below_set ?_ GE109.out | refine below_set ?_ GE116.out | refine below_set ?_ GE117.out) | exact HB.out)⟩⟩
                    · rw [if_neg c26] at H
                      have c26b0 : decide (a3 < t111) = false := decide_eq_false c26
                      clear c26
                      (first | rw [c26b0] | (simp only [i64_w, i32_w]; rw [c26b0]) | skip)
                      by_cases c33 : a3 > t113
                      · rw [if_pos c33] at H
                        have c33b0 : decide (t113 < a3) = true := decide_eq_true c33
                        clear c33
                        have H' := Aside0.mk H
                        clear H
                        have hnb34 := NB109_116.out
                        have hnc34 := NB116_109.out
                        have hnb35 := NB109_117.out
                        have hnc35 := NB117_109.out
                        have hcz36_0 : w14.cell? ⟨gb109, 0, none⟩ = some (.int .i64 ((rd_T27 l0 x18_1).f0.f0)) := (blk_cell BK109.out 0).trans rfl
                        have hcz36_1 : w14.cell? ⟨gb109, 1, none⟩ = some (.int .i64 ((rd_T27 l0 x18_1).f0.f1)) := (blk_cell BK109.out 1).trans rfl
                        have hcz36_2 : w14.cell? ⟨gb109, 2, none⟩ = some (.int .i64 ((rd_T27 l0 x18_1).f1.f0)) := (blk_cell BK109.out 2).trans rfl
                        have hcz36_3 : w14.cell? ⟨gb109, 3, none⟩ = some (.int .i64 ((rd_T27 l0 x18_1).f1.f1)) := (blk_cell BK109.out 3).trans rfl
                        have hcz36_4 : w14.cell? ⟨gb109, 4, none⟩ = some (.int .i64 ((rd_T27 l0 x18_1).f2)) := (blk_cell BK109.out 4).trans rfl
                        have hcz36_5 : w14.cell? ⟨gb109, 5, none⟩ = some (.int .i64 ((rd_T27 l0 x18_1).f3)) := (blk_cell BK109.out 5).trans rfl
                        have hfz36_0 := blk_frozen BK109.out 0
                        have hfz36_1 := blk_frozen BK109.out 1
                        have hfz36_2 := blk_frozen BK109.out 2
                        have hfz36_3 := blk_frozen BK109.out 3
                        have hfz36_4 := blk_frozen BK109.out 4
                        have hfz36_5 := blk_frozen BK109.out 5
                        go_wp2_with (first | ((with_reducible refine gate_callee (f := 11) rfl ?_); refine goesL_ (some 30) rfl rfl Try.func11 (by kernel_rfl) rfl #[.agg #[.int .i64 ((rd_T27 l0 x18_1).f0.f0), .int .i64 ((rd_T27 l0 x18_1).f0.f1), .int .i64 ((rd_T27 l0 x18_1).f1.f0), .int .i64 ((rd_T27 l0 x18_1).f1.f1), .int .i64 ((rd_T27 l0 x18_1).f2), .int .i64 ((rd_T27 l0 x18_1).f3)]] rfl (by (try simp only [List.map_toArray, List.map_cons, List.map_nil]); first | done | rfl | (simp only [List.length_drop, List.length_take]; rfl)) ?_; (with_reducible refine (sweep_RightSeg.calls ((rd_T27 l0 x18_1).f0.f0) ((rd_T27 l0 x18_1).f0.f1) ((rd_T27 l0 x18_1).f1.f0) ((rd_T27 l0 x18_1).f1.f1) ((rd_T27 l0 x18_1).f2) ((rd_T27 l0 x18_1).f3) true _ A20.out).mono ?_); rintro e w37 ⟨rfl, hb⟩; refine ⟨_, rfl, ?_⟩; have n0_ := Aside0.mk (blk_below (g := gb109) (o := .cells #[.int .i64 ((rd_T27 l0 x18_1).f0.f0), .int .i64 ((rd_T27 l0 x18_1).f0.f1), .int .i64 ((rd_T27 l0 x18_1).f1.f0), .int .i64 ((rd_T27 l0 x18_1).f1.f1), .int .i64 ((rd_T27 l0 x18_1).f2), .int .i64 ((rd_T27 l0 x18_1).f3)] 27 (0, 0)) (by (with_reducible repeat (first | refine blk_drewN ?_ _ | refine blk_drew ?_ | refine blk_alloc ?_ _)); refine blk_far ?_ NB109_117.out _; (with_reducible repeat (first | refine blk_drewN ?_ _ | refine blk_drew ?_ | refine blk_alloc ?_ _)); refine blk_far ?_ NB109_117.out _; (with_reducible repeat (first | refine blk_drewN ?_ _ | refine blk_drew ?_ | refine blk_alloc ?_ _)); refine blk_far ?_ NB109_116.out _; (with_reducible repeat (first | refine blk_drewN ?_ _ | refine blk_drew ?_ | refine blk_alloc ?_ _)); refine blk_far ?_ NB109_116.out _; (with_reducible repeat (first | refine blk_drewN ?_ _ | refine blk_drew ?_ | refine blk_alloc ?_ _)); exact BK109.out) hb); have n1_ := Aside0.mk (blk_below (g := gb116) (o := .cells #[.int .i64 t110, .int .i64 t111] 25 (0, 0)) (by (with_reducible repeat (first | refine blk_drewN ?_ _ | refine blk_drew ?_ | refine blk_alloc ?_ _)); refine blk_far ?_ NB116_117.out _; (with_reducible repeat (first | refine blk_drewN ?_ _ | refine blk_drew ?_ | refine blk_alloc ?_ _)); refine blk_far ?_ NB116_117.out _; (with_reducible repeat (first | refine blk_drewN ?_ _ | refine blk_drew ?_ | refine blk_alloc ?_ _)); refine blk_put (cs := #[.int .i64 t110, .int .i64 0]) ?_ 1 _ rfl; (with_reducible repeat (first | refine blk_drewN ?_ _ | refine blk_drew ?_ | refine blk_alloc ?_ _)); refine blk_put (cs := #[.int .i64 0, .int .i64 0]) ?_ 0 _ rfl; (with_reducible repeat (first | refine blk_drewN ?_ _ | refine blk_drew ?_ | refine blk_alloc ?_ _)); exact BK116.out) hb); have n2_ := Aside0.mk (blk_below (g := gb117) (o := .cells #[.int .i64 t112, .int .i64 t113] 25 (0, 0)) (by (with_reducible repeat (first | refine blk_drewN ?_ _ | refine blk_drew ?_ | refine blk_alloc ?_ _)); refine blk_put (cs := #[.int .i64 t112, .int .i64 0]) ?_ 1 _ rfl; (with_reducible repeat (first | refine blk_drewN ?_ _ | refine blk_drew ?_ | refine blk_alloc ?_ _)); refine blk_put (cs := #[.int .i64 0, .int .i64 0]) ?_ 0 _ rfl; (with_reducible repeat (first | refine blk_drewN ?_ _ | refine blk_drew ?_ | refine blk_alloc ?_ _)); refine blk_far ?_ NB117_116.out _; (with_reducible repeat (first | refine blk_drewN ?_ _ | refine blk_drew ?_ | refine blk_alloc ?_ _)); refine blk_far ?_ NB117_116.out _; (with_reducible repeat (first | refine blk_drewN ?_ _ | refine blk_drew ?_ | refine blk_alloc ?_ _)); exact BK117.out) hb); have n3_ := Aside0.mk (below_step (by repeat (first | (with_reducible first | exact HB.out | apply below_alloc | apply pw_below_drewN | apply below_drew1 | refine below_set ?_ GE109.out | refine below_set ?_ GE116.out | refine below_set ?_ GE117.out) | exact HB.out)) hb); clear BK109; clear BK116; clear BK117; clear HB; have BK109 := n0_; have BK116 := n1_; have BK117 := n2_; have HB := n3_; clear n0_ n1_ n2_ n3_; (try clear hb); (try clear hb2); (try clear hk); (try clear hi)) | (go_at_call 26; (with_reducible refine (sweep_sample.calls a2 true _ A22.out).mono ?_); rintro e w' ⟨rfl, ⟨nd, rfl⟩⟩) | (go_at_call 26; (with_reducible refine (sweep_sample.calls a3 true _ A24.out).mono ?_); rintro e w' ⟨rfl, ⟨nd, rfl⟩⟩; have hnb38 := NB116_117.out; have hnc38 := NB117_116.out; have hcz39_0 : w37.cell? ⟨gb116, 0, none⟩ = some (.int .i64 t110) := (blk_cell BK116.out 0).trans rfl; have hcz39_1 : w37.cell? ⟨gb116, 1, none⟩ = some (.int .i64 t111) := (blk_cell BK116.out 1).trans rfl; have hfz39_0 := blk_frozen BK116.out 0; have hfz39_1 := blk_frozen BK116.out 1; have hcz40_0 : w37.cell? ⟨gb117, 0, none⟩ = some (.int .i64 t112) := (blk_cell BK117.out 0).trans rfl; have hcz40_1 : w37.cell? ⟨gb117, 1, none⟩ = some (.int .i64 t113) := (blk_cell BK117.out 1).trans rfl; have hfz40_0 := blk_frozen BK117.out 0; have hfz40_1 := blk_frozen BK117.out 1))
                        go_meet
                        case rel => exact ⟨_, (true), (by first | rfl | (simp; done) | (simp [*]; done)), H', ⟨by have := HK1.out; first | omega | exact Nat.le_refl _⟩, ⟨by (with_reducible repeat (first | refine blk_drewN ?_ _ | refine blk_drew ?_ | refine blk_alloc ?_ _)); exact BK109.out⟩, ⟨by (with_reducible repeat (first | refine blk_drewN ?_ _ | refine blk_drew ?_ | refine blk_alloc ?_ _)); exact BK116.out⟩, ⟨by (with_reducible repeat (first | refine blk_drewN ?_ _ | refine blk_drew ?_ | refine blk_alloc ?_ _)); exact BK117.out⟩, ⟨by repeat (first | (with_reducible first | exact HB.out | apply below_alloc | apply pw_below_drewN | apply below_drew1 | refine below_set ?_ GE109.out | refine below_set ?_ GE116.out | refine below_set ?_ GE117.out) | exact HB.out)⟩⟩
                      · rw [if_neg c33] at H
                        have c33b0 : decide (t113 < a3) = false := decide_eq_false c33
                        clear c33
                        have H' := Aside0.mk H
                        clear H
                        have hnb41 := NB109_116.out
                        have hnc41 := NB116_109.out
                        have hnb42 := NB109_117.out
                        have hnc42 := NB117_109.out
                        have hcz43_0 : w14.cell? ⟨gb109, 0, none⟩ = some (.int .i64 ((rd_T27 l0 x18_1).f0.f0)) := (blk_cell BK109.out 0).trans rfl
                        have hcz43_1 : w14.cell? ⟨gb109, 1, none⟩ = some (.int .i64 ((rd_T27 l0 x18_1).f0.f1)) := (blk_cell BK109.out 1).trans rfl
                        have hcz43_2 : w14.cell? ⟨gb109, 2, none⟩ = some (.int .i64 ((rd_T27 l0 x18_1).f1.f0)) := (blk_cell BK109.out 2).trans rfl
                        have hcz43_3 : w14.cell? ⟨gb109, 3, none⟩ = some (.int .i64 ((rd_T27 l0 x18_1).f1.f1)) := (blk_cell BK109.out 3).trans rfl
                        have hcz43_4 : w14.cell? ⟨gb109, 4, none⟩ = some (.int .i64 ((rd_T27 l0 x18_1).f2)) := (blk_cell BK109.out 4).trans rfl
                        have hcz43_5 : w14.cell? ⟨gb109, 5, none⟩ = some (.int .i64 ((rd_T27 l0 x18_1).f3)) := (blk_cell BK109.out 5).trans rfl
                        have hfz43_0 := blk_frozen BK109.out 0
                        have hfz43_1 := blk_frozen BK109.out 1
                        have hfz43_2 := blk_frozen BK109.out 2
                        have hfz43_3 := blk_frozen BK109.out 3
                        have hfz43_4 := blk_frozen BK109.out 4
                        have hfz43_5 := blk_frozen BK109.out 5
                        go_wp2_with (first | ((with_reducible refine gate_callee (f := 11) rfl ?_); refine goesL_ (some 30) rfl rfl Try.func11 (by kernel_rfl) rfl #[.agg #[.int .i64 ((rd_T27 l0 x18_1).f0.f0), .int .i64 ((rd_T27 l0 x18_1).f0.f1), .int .i64 ((rd_T27 l0 x18_1).f1.f0), .int .i64 ((rd_T27 l0 x18_1).f1.f1), .int .i64 ((rd_T27 l0 x18_1).f2), .int .i64 ((rd_T27 l0 x18_1).f3)]] rfl (by (try simp only [List.map_toArray, List.map_cons, List.map_nil]); first | done | rfl | (simp only [List.length_drop, List.length_take]; rfl)) ?_; (with_reducible refine (sweep_RightSeg.calls ((rd_T27 l0 x18_1).f0.f0) ((rd_T27 l0 x18_1).f0.f1) ((rd_T27 l0 x18_1).f1.f0) ((rd_T27 l0 x18_1).f1.f1) ((rd_T27 l0 x18_1).f2) ((rd_T27 l0 x18_1).f3) true _ A20.out).mono ?_); rintro e w44 ⟨rfl, hb⟩; refine ⟨_, rfl, ?_⟩; have n0_ := Aside0.mk (blk_below (g := gb109) (o := .cells #[.int .i64 ((rd_T27 l0 x18_1).f0.f0), .int .i64 ((rd_T27 l0 x18_1).f0.f1), .int .i64 ((rd_T27 l0 x18_1).f1.f0), .int .i64 ((rd_T27 l0 x18_1).f1.f1), .int .i64 ((rd_T27 l0 x18_1).f2), .int .i64 ((rd_T27 l0 x18_1).f3)] 27 (0, 0)) (by (with_reducible repeat (first | refine blk_drewN ?_ _ | refine blk_drew ?_ | refine blk_alloc ?_ _)); refine blk_far ?_ NB109_117.out _; (with_reducible repeat (first | refine blk_drewN ?_ _ | refine blk_drew ?_ | refine blk_alloc ?_ _)); refine blk_far ?_ NB109_117.out _; (with_reducible repeat (first | refine blk_drewN ?_ _ | refine blk_drew ?_ | refine blk_alloc ?_ _)); refine blk_far ?_ NB109_116.out _; (with_reducible repeat (first | refine blk_drewN ?_ _ | refine blk_drew ?_ | refine blk_alloc ?_ _)); refine blk_far ?_ NB109_116.out _; (with_reducible repeat (first | refine blk_drewN ?_ _ | refine blk_drew ?_ | refine blk_alloc ?_ _)); exact BK109.out) hb); have n1_ := Aside0.mk (blk_below (g := gb116) (o := .cells #[.int .i64 t110, .int .i64 t111] 25 (0, 0)) (by (with_reducible repeat (first | refine blk_drewN ?_ _ | refine blk_drew ?_ | refine blk_alloc ?_ _)); refine blk_far ?_ NB116_117.out _; (with_reducible repeat (first | refine blk_drewN ?_ _ | refine blk_drew ?_ | refine blk_alloc ?_ _)); refine blk_far ?_ NB116_117.out _; (with_reducible repeat (first | refine blk_drewN ?_ _ | refine blk_drew ?_ | refine blk_alloc ?_ _)); refine blk_put (cs := #[.int .i64 t110, .int .i64 0]) ?_ 1 _ rfl; (with_reducible repeat (first | refine blk_drewN ?_ _ | refine blk_drew ?_ | refine blk_alloc ?_ _)); refine blk_put (cs := #[.int .i64 0, .int .i64 0]) ?_ 0 _ rfl; (with_reducible repeat (first | refine blk_drewN ?_ _ | refine blk_drew ?_ | refine blk_alloc ?_ _)); exact BK116.out) hb); have n2_ := Aside0.mk (blk_below (g := gb117) (o := .cells #[.int .i64 t112, .int .i64 t113] 25 (0, 0)) (by (with_reducible repeat (first | refine blk_drewN ?_ _ | refine blk_drew ?_ | refine blk_alloc ?_ _)); refine blk_put (cs := #[.int .i64 t112, .int .i64 0]) ?_ 1 _ rfl; (with_reducible repeat (first | refine blk_drewN ?_ _ | refine blk_drew ?_ | refine blk_alloc ?_ _)); refine blk_put (cs := #[.int .i64 0, .int .i64 0]) ?_ 0 _ rfl; (with_reducible repeat (first | refine blk_drewN ?_ _ | refine blk_drew ?_ | refine blk_alloc ?_ _)); refine blk_far ?_ NB117_116.out _; (with_reducible repeat (first | refine blk_drewN ?_ _ | refine blk_drew ?_ | refine blk_alloc ?_ _)); refine blk_far ?_ NB117_116.out _; (with_reducible repeat (first | refine blk_drewN ?_ _ | refine blk_drew ?_ | refine blk_alloc ?_ _)); exact BK117.out) hb); have n3_ := Aside0.mk (below_step (by repeat (first | (with_reducible first | exact HB.out | apply below_alloc | apply pw_below_drewN | apply below_drew1 | refine below_set ?_ GE109.out | refine below_set ?_ GE116.out | refine below_set ?_ GE117.out) | exact HB.out)) hb); clear BK109; clear BK116; clear BK117; clear HB; have BK109 := n0_; have BK116 := n1_; have BK117 := n2_; have HB := n3_; clear n0_ n1_ n2_ n3_; (try clear hb); (try clear hb2); (try clear hk); (try clear hi)) | (go_at_call 26; (with_reducible refine (sweep_sample.calls a2 true _ A22.out).mono ?_); rintro e w' ⟨rfl, ⟨nd, rfl⟩⟩) | (go_at_call 26; (with_reducible refine (sweep_sample.calls a3 true _ A24.out).mono ?_); rintro e w' ⟨rfl, ⟨nd, rfl⟩⟩; have hnb45 := NB116_117.out; have hnc45 := NB117_116.out; have hcz46_0 : w44.cell? ⟨gb116, 0, none⟩ = some (.int .i64 t110) := (blk_cell BK116.out 0).trans rfl; have hcz46_1 : w44.cell? ⟨gb116, 1, none⟩ = some (.int .i64 t111) := (blk_cell BK116.out 1).trans rfl; have hfz46_0 := blk_frozen BK116.out 0; have hfz46_1 := blk_frozen BK116.out 1; have hcz47_0 : w44.cell? ⟨gb117, 0, none⟩ = some (.int .i64 t112) := (blk_cell BK117.out 0).trans rfl; have hcz47_1 : w44.cell? ⟨gb117, 1, none⟩ = some (.int .i64 t113) := (blk_cell BK117.out 1).trans rfl; have hfz47_0 := blk_frozen BK117.out 0; have hfz47_1 := blk_frozen BK117.out 1))
                        go_meet
                        case rel => exact ⟨_, (decide ((wrap64 ((wrap64 (t112 - t110)) * (wrap64 (a3 - t111)))) > (wrap64 ((wrap64 (a2 - t110)) * (wrap64 (t113 - t111)))))), (by first | rfl | (simp; done) | (simp [*]; done)), H', ⟨by have := HK1.out; first | omega | exact Nat.le_refl _⟩, ⟨by (with_reducible repeat (first | refine blk_drewN ?_ _ | refine blk_drew ?_ | refine blk_alloc ?_ _)); exact BK109.out⟩, ⟨by (with_reducible repeat (first | refine blk_drewN ?_ _ | refine blk_drew ?_ | refine blk_alloc ?_ _)); exact BK116.out⟩, ⟨by (with_reducible repeat (first | refine blk_drewN ?_ _ | refine blk_drew ?_ | refine blk_alloc ?_ _)); exact BK117.out⟩, ⟨by repeat (first | (with_reducible first | exact HB.out | apply below_alloc | apply pw_below_drewN | apply below_drew1 | refine below_set ?_ GE109.out | refine below_set ?_ GE116.out | refine below_set ?_ GE117.out) | exact HB.out)⟩⟩
                  · replace c25 := Bool.eq_false_iff.mpr c25
                    subst c25
                    have H1 : (sweep_Wound.j1 k1 a1 a2 a3 x9_1 t114 t115 l0 (l0.length : Int) x18_1 true) = some r := by rw [if_neg (show ¬ (false = true) by decide)] at H; exact H
                    clear H
                    have H := H1
                    clear H1
                    have H' := Aside0.mk H
                    clear H
                    have hnb48 := NB109_116.out
                    have hnc48 := NB116_109.out
                    have hnb49 := NB109_117.out
                    have hnc49 := NB117_109.out
                    have hcz50_0 : w14.cell? ⟨gb109, 0, none⟩ = some (.int .i64 ((rd_T27 l0 x18_1).f0.f0)) := (blk_cell BK109.out 0).trans rfl
                    have hcz50_1 : w14.cell? ⟨gb109, 1, none⟩ = some (.int .i64 ((rd_T27 l0 x18_1).f0.f1)) := (blk_cell BK109.out 1).trans rfl
                    have hcz50_2 : w14.cell? ⟨gb109, 2, none⟩ = some (.int .i64 ((rd_T27 l0 x18_1).f1.f0)) := (blk_cell BK109.out 2).trans rfl
                    have hcz50_3 : w14.cell? ⟨gb109, 3, none⟩ = some (.int .i64 ((rd_T27 l0 x18_1).f1.f1)) := (blk_cell BK109.out 3).trans rfl
                    have hcz50_4 : w14.cell? ⟨gb109, 4, none⟩ = some (.int .i64 ((rd_T27 l0 x18_1).f2)) := (blk_cell BK109.out 4).trans rfl
                    have hcz50_5 : w14.cell? ⟨gb109, 5, none⟩ = some (.int .i64 ((rd_T27 l0 x18_1).f3)) := (blk_cell BK109.out 5).trans rfl
                    have hfz50_0 := blk_frozen BK109.out 0
                    have hfz50_1 := blk_frozen BK109.out 1
                    have hfz50_2 := blk_frozen BK109.out 2
                    have hfz50_3 := blk_frozen BK109.out 3
                    have hfz50_4 := blk_frozen BK109.out 4
                    have hfz50_5 := blk_frozen BK109.out 5
                    go_wp2_with (first | ((with_reducible refine gate_callee (f := 11) rfl ?_); refine goesL_ (some 30) rfl rfl Try.func11 (by kernel_rfl) rfl #[.agg #[.int .i64 ((rd_T27 l0 x18_1).f0.f0), .int .i64 ((rd_T27 l0 x18_1).f0.f1), .int .i64 ((rd_T27 l0 x18_1).f1.f0), .int .i64 ((rd_T27 l0 x18_1).f1.f1), .int .i64 ((rd_T27 l0 x18_1).f2), .int .i64 ((rd_T27 l0 x18_1).f3)]] rfl (by (try simp only [List.map_toArray, List.map_cons, List.map_nil]); first | done | rfl | (simp only [List.length_drop, List.length_take]; rfl)) ?_; (with_reducible refine (sweep_RightSeg.calls ((rd_T27 l0 x18_1).f0.f0) ((rd_T27 l0 x18_1).f0.f1) ((rd_T27 l0 x18_1).f1.f0) ((rd_T27 l0 x18_1).f1.f1) ((rd_T27 l0 x18_1).f2) ((rd_T27 l0 x18_1).f3) true _ A20.out).mono ?_); rintro e w51 ⟨rfl, hb⟩; refine ⟨_, rfl, ?_⟩; have n0_ := Aside0.mk (blk_below (g := gb109) (o := .cells #[.int .i64 ((rd_T27 l0 x18_1).f0.f0), .int .i64 ((rd_T27 l0 x18_1).f0.f1), .int .i64 ((rd_T27 l0 x18_1).f1.f0), .int .i64 ((rd_T27 l0 x18_1).f1.f1), .int .i64 ((rd_T27 l0 x18_1).f2), .int .i64 ((rd_T27 l0 x18_1).f3)] 27 (0, 0)) (by (with_reducible repeat (first | refine blk_drewN ?_ _ | refine blk_drew ?_ | refine blk_alloc ?_ _)); refine blk_far ?_ NB109_117.out _; (with_reducible repeat (first | refine blk_drewN ?_ _ | refine blk_drew ?_ | refine blk_alloc ?_ _)); refine blk_far ?_ NB109_117.out _; (with_reducible repeat (first | refine blk_drewN ?_ _ | refine blk_drew ?_ | refine blk_alloc ?_ _)); refine blk_far ?_ NB109_116.out _; (with_reducible repeat (first | refine blk_drewN ?_ _ | refine blk_drew ?_ | refine blk_alloc ?_ _)); refine blk_far ?_ NB109_116.out _; (with_reducible repeat (first | refine blk_drewN ?_ _ | refine blk_drew ?_ | refine blk_alloc ?_ _)); exact BK109.out) hb); have n1_ := Aside0.mk (blk_below (g := gb116) (o := .cells #[.int .i64 t110, .int .i64 t111] 25 (0, 0)) (by (with_reducible repeat (first | refine blk_drewN ?_ _ | refine blk_drew ?_ | refine blk_alloc ?_ _)); refine blk_far ?_ NB116_117.out _; (with_reducible repeat (first | refine blk_drewN ?_ _ | refine blk_drew ?_ | refine blk_alloc ?_ _)); refine blk_far ?_ NB116_117.out _; (with_reducible repeat (first | refine blk_drewN ?_ _ | refine blk_drew ?_ | refine blk_alloc ?_ _)); refine blk_put (cs := #[.int .i64 t110, .int .i64 0]) ?_ 1 _ rfl; (with_reducible repeat (first | refine blk_drewN ?_ _ | refine blk_drew ?_ | refine blk_alloc ?_ _)); refine blk_put (cs := #[.int .i64 0, .int .i64 0]) ?_ 0 _ rfl; (with_reducible repeat (first | refine blk_drewN ?_ _ | refine blk_drew ?_ | refine blk_alloc ?_ _)); exact BK116.out) hb); have n2_ := Aside0.mk (blk_below (g := gb117) (o := .cells #[.int .i64 t112, .int .i64 t113] 25 (0, 0)) (by (with_reducible repeat (first | refine blk_drewN ?_ _ | refine blk_drew ?_ | refine blk_alloc ?_ _)); refine blk_put (cs := #[.int .i64 t112, .int .i64 0]) ?_ 1 _ rfl; (with_reducible repeat (first | refine blk_drewN ?_ _ | refine blk_drew ?_ | refine blk_alloc ?_ _)); refine blk_put (cs := #[.int .i64 0, .int .i64 0]) ?_ 0 _ rfl; (with_reducible repeat (first | refine blk_drewN ?_ _ | refine blk_drew ?_ | refine blk_alloc ?_ _)); refine blk_far ?_ NB117_116.out _; (with_reducible repeat (first | refine blk_drewN ?_ _ | refine blk_drew ?_ | refine blk_alloc ?_ _)); refine blk_far ?_ NB117_116.out _; (with_reducible repeat (first | refine blk_drewN ?_ _ | refine blk_drew ?_ | refine blk_alloc ?_ _)); exact BK117.out) hb); have n3_ := Aside0.mk (below_step (by repeat (first | (with_reducible first | exact HB.out | apply below_alloc | apply pw_below_drewN | apply below_drew1 | refine below_set ?_ GE109.out | refine below_set ?_ GE116.out | refine below_set ?_ GE117.out) | exact HB.out)) hb); clear BK109; clear BK116; clear BK117; clear HB; have BK109 := n0_; have BK116 := n1_; have BK117 := n2_; have HB := n3_; clear n0_ n1_ n2_ n3_; (try clear hb); (try clear hb2); (try clear hk); (try clear hi)) | (go_at_call 26; (with_reducible refine (sweep_sample.calls a2 true _ A22.out).mono ?_); rintro e w' ⟨rfl, ⟨nd, rfl⟩⟩) | (go_at_call 26; (with_reducible refine (sweep_sample.calls a3 false _ A24.out).mono ?_); rintro e w' ⟨rfl, ⟨nd, rfl⟩⟩))
                    go_meet
                    case rel => exact ⟨_, (true), (by first | rfl | (simp; done) | (simp [*]; done)), H', ⟨by have := HK1.out; first | omega | exact Nat.le_refl _⟩, ⟨by (with_reducible repeat (first | refine blk_drewN ?_ _ | refine blk_drew ?_ | refine blk_alloc ?_ _)); exact BK109.out⟩, ⟨by (with_reducible repeat (first | refine blk_drewN ?_ _ | refine blk_drew ?_ | refine blk_alloc ?_ _)); exact BK116.out⟩, ⟨by (with_reducible repeat (first | refine blk_drewN ?_ _ | refine blk_drew ?_ | refine blk_alloc ?_ _)); exact BK117.out⟩, ⟨by repeat (first | (with_reducible first | exact HB.out | apply below_alloc | apply pw_below_drewN | apply below_drew1 | refine below_set ?_ GE109.out | refine below_set ?_ GE116.out | refine below_set ?_ GE117.out) | exact HB.out)⟩⟩
                · replace c23 := Bool.eq_false_iff.mpr c23
                  subst c23
                  have H1 : (sweep_Wound.j1 k1 a1 a2 a3 x9_1 t114 t115 l0 (l0.length : Int) x18_1 true) = some r := by rw [if_neg (show ¬ (false = true) by decide)] at H; exact H
                  clear H
                  have H := H1
                  clear H1
                  have H' := Aside0.mk H
                  clear H
                  have hnb52 := NB109_116.out
                  have hnc52 := NB116_109.out
                  have hnb53 := NB109_117.out
                  have hnc53 := NB117_109.out
                  have hcz54_0 : w14.cell? ⟨gb109, 0, none⟩ = some (.int .i64 ((rd_T27 l0 x18_1).f0.f0)) := (blk_cell BK109.out 0).trans rfl
                  have hcz54_1 : w14.cell? ⟨gb109, 1, none⟩ = some (.int .i64 ((rd_T27 l0 x18_1).f0.f1)) := (blk_cell BK109.out 1).trans rfl
                  have hcz54_2 : w14.cell? ⟨gb109, 2, none⟩ = some (.int .i64 ((rd_T27 l0 x18_1).f1.f0)) := (blk_cell BK109.out 2).trans rfl
                  have hcz54_3 : w14.cell? ⟨gb109, 3, none⟩ = some (.int .i64 ((rd_T27 l0 x18_1).f1.f1)) := (blk_cell BK109.out 3).trans rfl
                  have hcz54_4 : w14.cell? ⟨gb109, 4, none⟩ = some (.int .i64 ((rd_T27 l0 x18_1).f2)) := (blk_cell BK109.out 4).trans rfl
                  have hcz54_5 : w14.cell? ⟨gb109, 5, none⟩ = some (.int .i64 ((rd_T27 l0 x18_1).f3)) := (blk_cell BK109.out 5).trans rfl
                  have hfz54_0 := blk_frozen BK109.out 0
                  have hfz54_1 := blk_frozen BK109.out 1
                  have hfz54_2 := blk_frozen BK109.out 2
                  have hfz54_3 := blk_frozen BK109.out 3
                  have hfz54_4 := blk_frozen BK109.out 4
                  have hfz54_5 := blk_frozen BK109.out 5
                  go_wp2_with (first | ((with_reducible refine gate_callee (f := 11) rfl ?_); refine goesL_ (some 30) rfl rfl Try.func11 (by kernel_rfl) rfl #[.agg #[.int .i64 ((rd_T27 l0 x18_1).f0.f0), .int .i64 ((rd_T27 l0 x18_1).f0.f1), .int .i64 ((rd_T27 l0 x18_1).f1.f0), .int .i64 ((rd_T27 l0 x18_1).f1.f1), .int .i64 ((rd_T27 l0 x18_1).f2), .int .i64 ((rd_T27 l0 x18_1).f3)]] rfl (by (try simp only [List.map_toArray, List.map_cons, List.map_nil]); first | done | rfl | (simp only [List.length_drop, List.length_take]; rfl)) ?_; (with_reducible refine (sweep_RightSeg.calls ((rd_T27 l0 x18_1).f0.f0) ((rd_T27 l0 x18_1).f0.f1) ((rd_T27 l0 x18_1).f1.f0) ((rd_T27 l0 x18_1).f1.f1) ((rd_T27 l0 x18_1).f2) ((rd_T27 l0 x18_1).f3) true _ A20.out).mono ?_); rintro e w55 ⟨rfl, hb⟩; refine ⟨_, rfl, ?_⟩; have n0_ := Aside0.mk (blk_below (g := gb109) (o := .cells #[.int .i64 ((rd_T27 l0 x18_1).f0.f0), .int .i64 ((rd_T27 l0 x18_1).f0.f1), .int .i64 ((rd_T27 l0 x18_1).f1.f0), .int .i64 ((rd_T27 l0 x18_1).f1.f1), .int .i64 ((rd_T27 l0 x18_1).f2), .int .i64 ((rd_T27 l0 x18_1).f3)] 27 (0, 0)) (by (with_reducible repeat (first | refine blk_drewN ?_ _ | refine blk_drew ?_ | refine blk_alloc ?_ _)); refine blk_far ?_ NB109_117.out _; (with_reducible repeat (first | refine blk_drewN ?_ _ | refine blk_drew ?_ | refine blk_alloc ?_ _)); refine blk_far ?_ NB109_117.out _; (with_reducible repeat (first | refine blk_drewN ?_ _ | refine blk_drew ?_ | refine blk_alloc ?_ _)); refine blk_far ?_ NB109_116.out _; (with_reducible repeat (first | refine blk_drewN ?_ _ | refine blk_drew ?_ | refine blk_alloc ?_ _)); refine blk_far ?_ NB109_116.out _; (with_reducible repeat (first | refine blk_drewN ?_ _ | refine blk_drew ?_ | refine blk_alloc ?_ _)); exact BK109.out) hb); have n1_ := Aside0.mk (blk_below (g := gb116) (o := .cells #[.int .i64 t110, .int .i64 t111] 25 (0, 0)) (by (with_reducible repeat (first | refine blk_drewN ?_ _ | refine blk_drew ?_ | refine blk_alloc ?_ _)); refine blk_far ?_ NB116_117.out _; (with_reducible repeat (first | refine blk_drewN ?_ _ | refine blk_drew ?_ | refine blk_alloc ?_ _)); refine blk_far ?_ NB116_117.out _; (with_reducible repeat (first | refine blk_drewN ?_ _ | refine blk_drew ?_ | refine blk_alloc ?_ _)); refine blk_put (cs := #[.int .i64 t110, .int .i64 0]) ?_ 1 _ rfl; (with_reducible repeat (first | refine blk_drewN ?_ _ | refine blk_drew ?_ | refine blk_alloc ?_ _)); refine blk_put (cs := #[.int .i64 0, .int .i64 0]) ?_ 0 _ rfl; (with_reducible repeat (first | refine blk_drewN ?_ _ | refine blk_drew ?_ | refine blk_alloc ?_ _)); exact BK116.out) hb); have n2_ := Aside0.mk (blk_below (g := gb117) (o := .cells #[.int .i64 t112, .int .i64 t113] 25 (0, 0)) (by (with_reducible repeat (first | refine blk_drewN ?_ _ | refine blk_drew ?_ | refine blk_alloc ?_ _)); refine blk_put (cs := #[.int .i64 t112, .int .i64 0]) ?_ 1 _ rfl; (with_reducible repeat (first | refine blk_drewN ?_ _ | refine blk_drew ?_ | refine blk_alloc ?_ _)); refine blk_put (cs := #[.int .i64 0, .int .i64 0]) ?_ 0 _ rfl; (with_reducible repeat (first | refine blk_drewN ?_ _ | refine blk_drew ?_ | refine blk_alloc ?_ _)); refine blk_far ?_ NB117_116.out _; (with_reducible repeat (first | refine blk_drewN ?_ _ | refine blk_drew ?_ | refine blk_alloc ?_ _)); refine blk_far ?_ NB117_116.out _; (with_reducible repeat (first | refine blk_drewN ?_ _ | refine blk_drew ?_ | refine blk_alloc ?_ _)); exact BK117.out) hb); have n3_ := Aside0.mk (below_step (by repeat (first | (with_reducible first | exact HB.out | apply below_alloc | apply pw_below_drewN | apply below_drew1 | refine below_set ?_ GE109.out | refine below_set ?_ GE116.out | refine below_set ?_ GE117.out) | exact HB.out)) hb); clear BK109; clear BK116; clear BK117; clear HB; have BK109 := n0_; have BK116 := n1_; have BK117 := n2_; have HB := n3_; clear n0_ n1_ n2_ n3_; (try clear hb); (try clear hb2); (try clear hk); (try clear hi)) | (go_at_call 26; (with_reducible refine (sweep_sample.calls a2 false _ A22.out).mono ?_); rintro e w' ⟨rfl, ⟨nd, rfl⟩⟩))
                  go_meet
                  case rel => exact ⟨_, (true), (by first | rfl | (simp; done) | (simp [*]; done)), H', ⟨by have := HK1.out; first | omega | exact Nat.le_refl _⟩, ⟨by (with_reducible repeat (first | refine blk_drewN ?_ _ | refine blk_drew ?_ | refine blk_alloc ?_ _)); exact BK109.out⟩, ⟨by (with_reducible repeat (first | refine blk_drewN ?_ _ | refine blk_drew ?_ | refine blk_alloc ?_ _)); exact BK116.out⟩, ⟨by (with_reducible repeat (first | refine blk_drewN ?_ _ | refine blk_drew ?_ | refine blk_alloc ?_ _)); exact BK117.out⟩, ⟨by repeat (first | (with_reducible first | exact HB.out | apply below_alloc | apply pw_below_drewN | apply below_drew1 | refine below_set ?_ GE109.out | refine below_set ?_ GE116.out | refine below_set ?_ GE117.out) | exact HB.out)⟩⟩
              · replace c21 := Bool.eq_false_iff.mpr c21
                subst c21
                have H1 : (sweep_Wound.j1 k1 a1 a2 a3 x9_1 t114 t115 l0 (l0.length : Int) x18_1 true) = some r := by rw [if_neg (show ¬ (false = true) by decide)] at H; exact H
                clear H
                have H := H1
                clear H1
                have H' := Aside0.mk H
                clear H
                have hnb56 := NB109_116.out
                have hnc56 := NB116_109.out
                have hnb57 := NB109_117.out
                have hnc57 := NB117_109.out
                have hcz58_0 : w14.cell? ⟨gb109, 0, none⟩ = some (.int .i64 ((rd_T27 l0 x18_1).f0.f0)) := (blk_cell BK109.out 0).trans rfl
                have hcz58_1 : w14.cell? ⟨gb109, 1, none⟩ = some (.int .i64 ((rd_T27 l0 x18_1).f0.f1)) := (blk_cell BK109.out 1).trans rfl
                have hcz58_2 : w14.cell? ⟨gb109, 2, none⟩ = some (.int .i64 ((rd_T27 l0 x18_1).f1.f0)) := (blk_cell BK109.out 2).trans rfl
                have hcz58_3 : w14.cell? ⟨gb109, 3, none⟩ = some (.int .i64 ((rd_T27 l0 x18_1).f1.f1)) := (blk_cell BK109.out 3).trans rfl
                have hcz58_4 : w14.cell? ⟨gb109, 4, none⟩ = some (.int .i64 ((rd_T27 l0 x18_1).f2)) := (blk_cell BK109.out 4).trans rfl
                have hcz58_5 : w14.cell? ⟨gb109, 5, none⟩ = some (.int .i64 ((rd_T27 l0 x18_1).f3)) := (blk_cell BK109.out 5).trans rfl
                have hfz58_0 := blk_frozen BK109.out 0
                have hfz58_1 := blk_frozen BK109.out 1
                have hfz58_2 := blk_frozen BK109.out 2
                have hfz58_3 := blk_frozen BK109.out 3
                have hfz58_4 := blk_frozen BK109.out 4
                have hfz58_5 := blk_frozen BK109.out 5
                go_wp2_with (first | ((with_reducible refine gate_callee (f := 11) rfl ?_); refine goesL_ (some 30) rfl rfl Try.func11 (by kernel_rfl) rfl #[.agg #[.int .i64 ((rd_T27 l0 x18_1).f0.f0), .int .i64 ((rd_T27 l0 x18_1).f0.f1), .int .i64 ((rd_T27 l0 x18_1).f1.f0), .int .i64 ((rd_T27 l0 x18_1).f1.f1), .int .i64 ((rd_T27 l0 x18_1).f2), .int .i64 ((rd_T27 l0 x18_1).f3)]] rfl (by (try simp only [List.map_toArray, List.map_cons, List.map_nil]); first | done | rfl | (simp only [List.length_drop, List.length_take]; rfl)) ?_; (with_reducible refine (sweep_RightSeg.calls ((rd_T27 l0 x18_1).f0.f0) ((rd_T27 l0 x18_1).f0.f1) ((rd_T27 l0 x18_1).f1.f0) ((rd_T27 l0 x18_1).f1.f1) ((rd_T27 l0 x18_1).f2) ((rd_T27 l0 x18_1).f3) false _ A20.out).mono ?_); rintro e w59 ⟨rfl, hb⟩; refine ⟨_, rfl, ?_⟩; have n0_ := Aside0.mk (blk_below (g := gb109) (o := .cells #[.int .i64 ((rd_T27 l0 x18_1).f0.f0), .int .i64 ((rd_T27 l0 x18_1).f0.f1), .int .i64 ((rd_T27 l0 x18_1).f1.f0), .int .i64 ((rd_T27 l0 x18_1).f1.f1), .int .i64 ((rd_T27 l0 x18_1).f2), .int .i64 ((rd_T27 l0 x18_1).f3)] 27 (0, 0)) (by (with_reducible repeat (first | refine blk_drewN ?_ _ | refine blk_drew ?_ | refine blk_alloc ?_ _)); refine blk_far ?_ NB109_117.out _; (with_reducible repeat (first | refine blk_drewN ?_ _ | refine blk_drew ?_ | refine blk_alloc ?_ _)); refine blk_far ?_ NB109_117.out _; (with_reducible repeat (first | refine blk_drewN ?_ _ | refine blk_drew ?_ | refine blk_alloc ?_ _)); refine blk_far ?_ NB109_116.out _; (with_reducible repeat (first | refine blk_drewN ?_ _ | refine blk_drew ?_ | refine blk_alloc ?_ _)); refine blk_far ?_ NB109_116.out _; (with_reducible repeat (first | refine blk_drewN ?_ _ | refine blk_drew ?_ | refine blk_alloc ?_ _)); exact BK109.out) hb); have n1_ := Aside0.mk (blk_below (g := gb116) (o := .cells #[.int .i64 t110, .int .i64 t111] 25 (0, 0)) (by (with_reducible repeat (first | refine blk_drewN ?_ _ | refine blk_drew ?_ | refine blk_alloc ?_ _)); refine blk_far ?_ NB116_117.out _; (with_reducible repeat (first | refine blk_drewN ?_ _ | refine blk_drew ?_ | refine blk_alloc ?_ _)); refine blk_far ?_ NB116_117.out _; (with_reducible repeat (first | refine blk_drewN ?_ _ | refine blk_drew ?_ | refine blk_alloc ?_ _)); refine blk_put (cs := #[.int .i64 t110, .int .i64 0]) ?_ 1 _ rfl; (with_reducible repeat (first | refine blk_drewN ?_ _ | refine blk_drew ?_ | refine blk_alloc ?_ _)); refine blk_put (cs := #[.int .i64 0, .int .i64 0]) ?_ 0 _ rfl; (with_reducible repeat (first | refine blk_drewN ?_ _ | refine blk_drew ?_ | refine blk_alloc ?_ _)); exact BK116.out) hb); have n2_ := Aside0.mk (blk_below (g := gb117) (o := .cells #[.int .i64 t112, .int .i64 t113] 25 (0, 0)) (by (with_reducible repeat (first | refine blk_drewN ?_ _ | refine blk_drew ?_ | refine blk_alloc ?_ _)); refine blk_put (cs := #[.int .i64 t112, .int .i64 0]) ?_ 1 _ rfl; (with_reducible repeat (first | refine blk_drewN ?_ _ | refine blk_drew ?_ | refine blk_alloc ?_ _)); refine blk_put (cs := #[.int .i64 0, .int .i64 0]) ?_ 0 _ rfl; (with_reducible repeat (first | refine blk_drewN ?_ _ | refine blk_drew ?_ | refine blk_alloc ?_ _)); refine blk_far ?_ NB117_116.out _; (with_reducible repeat (first | refine blk_drewN ?_ _ | refine blk_drew ?_ | refine blk_alloc ?_ _)); refine blk_far ?_ NB117_116.out _; (with_reducible repeat (first | refine blk_drewN ?_ _ | refine blk_drew ?_ | refine blk_alloc ?_ _)); exact BK117.out) hb); have n3_ := Aside0.mk (below_step (by repeat (first | (with_reducible first | exact HB.out | apply below_alloc | apply pw_below_drewN | apply below_drew1 | refine below_set ?_ GE109.out | refine below_set ?_ GE116.out | refine below_set ?_ GE117.out) | exact HB.out)) hb); clear BK109; clear BK116; clear BK117; clear HB; have BK109 := n0_; have BK116 := n1_; have BK117 := n2_; have HB := n3_; clear n0_ n1_ n2_ n3_; (try clear hb); (try clear hb2); (try clear hk); (try clear hi)))
                go_meet
                case rel => exact ⟨_, (true), (by first | rfl | (simp; done) | (simp [*]; done)), H', ⟨by have := HK1.out; first | omega | exact Nat.le_refl _⟩, ⟨by (with_reducible repeat (first | refine blk_drewN ?_ _ | refine blk_drew ?_ | refine blk_alloc ?_ _)); exact BK109.out⟩, ⟨by (with_reducible repeat (first | refine blk_drewN ?_ _ | refine blk_drew ?_ | refine blk_alloc ?_ _)); exact BK116.out⟩, ⟨by (with_reducible repeat (first | refine blk_drewN ?_ _ | refine blk_drew ?_ | refine blk_alloc ?_ _)); exact BK117.out⟩, ⟨by repeat (first | (with_reducible first | exact HB.out | apply below_alloc | apply pw_below_drewN | apply below_drew1 | refine below_set ?_ GE109.out | refine below_set ?_ GE116.out | refine below_set ?_ GE117.out) | exact HB.out)⟩⟩
            case rest =>
              clear HC9
              try clear c1
              try clear p1
              try clear q1
              try clear hx1
              try clear c2
              try clear p2
              try clear c3
              try clear c4
              try clear c5
              try clear c5b0
              try clear c6
              try clear c6b0
              try clear p6
              try clear c7
              try clear c7b0
              try clear p10
              try clear q10
              try clear hx10
              try clear c11
              try clear c15
              try clear c16
              try clear c18
              try clear c21
              try clear c23
              try clear c25
              try clear c26
              try clear c26b0
              try clear c27
              try clear c28
              try clear c31
              try clear c33
              try clear c33b0
              try clear c34
              try clear c35
              try clear c38
              try clear c41
              try clear c42
              try clear c45
              try clear c48
              try clear c49
              try clear c52
              try clear c53
              try clear c56
              try clear c57
              try clear hcz11_0
              try clear hcz11_1
              try clear hcz11_2
              try clear hcz11_3
              try clear hcz11_4
              try clear hcz11_5
              try clear hcz17_0
              try clear hcz17_1
              try clear hcz19_0
              try clear hcz19_1
              try clear hcz29_0
              try clear hcz29_1
              try clear hcz29_2
              try clear hcz29_3
              try clear hcz29_4
              try clear hcz29_5
              try clear hcz32_0
              try clear hcz32_1
              try clear hcz36_0
              try clear hcz36_1
              try clear hcz36_2
              try clear hcz36_3
              try clear hcz36_4
              try clear hcz36_5
              try clear hcz39_0
              try clear hcz39_1
              try clear hcz40_0
              try clear hcz40_1
              try clear hcz43_0
              try clear hcz43_1
              try clear hcz43_2
              try clear hcz43_3
              try clear hcz43_4
              try clear hcz43_5
              try clear hcz46_0
              try clear hcz46_1
              try clear hcz47_0
              try clear hcz47_1
              try clear hcz50_0
              try clear hcz50_1
              try clear hcz50_2
              try clear hcz50_3
              try clear hcz50_4
              try clear hcz50_5
              try clear hcz54_0
              try clear hcz54_1
              try clear hcz54_2
              try clear hcz54_3
              try clear hcz54_4
              try clear hcz54_5
              try clear hcz58_0
              try clear hcz58_1
              try clear hcz58_2
              try clear hcz58_3
              try clear hcz58_4
              try clear hcz58_5
              try clear hfz11_0
              try clear hfz11_1
              try clear hfz11_2
              try clear hfz11_3
              try clear hfz11_4
              try clear hfz11_5
              try clear hfz17_0
              try clear hfz17_1
              try clear hfz19_0
              try clear hfz19_1
              try clear hfz29_0
              try clear hfz29_1
              try clear hfz29_2
              try clear hfz29_3
              try clear hfz29_4
              try clear hfz29_5
              try clear hfz32_0
              try clear hfz32_1
              try clear hfz36_0
              try clear hfz36_1
              try clear hfz36_2
              try clear hfz36_3
              try clear hfz36_4
              try clear hfz36_5
              try clear hfz39_0
              try clear hfz39_1
              try clear hfz40_0
              try clear hfz40_1
              try clear hfz43_0
              try clear hfz43_1
              try clear hfz43_2
              try clear hfz43_3
              try clear hfz43_4
              try clear hfz43_5
              try clear hfz46_0
              try clear hfz46_1
              try clear hfz47_0
              try clear hfz47_1
              try clear hfz50_0
              try clear hfz50_1
              try clear hfz50_2
              try clear hfz50_3
              try clear hfz50_4
              try clear hfz50_5
              try clear hfz54_0
              try clear hfz54_1
              try clear hfz54_2
              try clear hfz54_3
              try clear hfz54_4
              try clear hfz54_5
              try clear hfz58_0
              try clear hfz58_1
              try clear hfz58_2
              try clear hfz58_3
              try clear hfz58_4
              try clear hfz58_5
              try clear hx108_0
              try clear hx108_1
              try clear hx108_2
              try clear hx108_3
              try clear hx108_4
              try clear hx108_5
              try clear p108
              try clear p2
              try clear q108
              obtain ⟨kq, x76_8, rfl, HA, HJ8, BK109, BK116, BK117, HB⟩ := hcut
              cases kq with
              | zero => exact absurd HA.out (by simp [sweep_Wound.j1])
              | succ kj8 =>
                have H := HA.out
                clear HA
                simp only [sweep_Wound.j1] at H
                by_cases c60 : x76_8 = true
                · subst c60
                  have H1 : (sweep_Wound.l0 kj8 a1 a2 a3 x9_1 l0 (l0.length : Int) (wrap64 (x18_1 + 1))) = some r := by rw [if_pos rfl] at H; exact H
                  clear H
                  have H := H1
                  clear H1
                  have H' := Aside0.mk H
                  clear H
                  go_wp2
                  go_roundg kj8
                  case measure => have := HK1.out; have := HJ8.out; omega
                  case rel => exact ⟨(x9_1), (wrap64 (x18_1 + 1)), (by first | rfl | (simp; done) | (simp [*]; done)), (by first | rfl | (simp; done) | (simp [*]; done)), H', ⟨by have := HK1.out; have := HJ8.out; omega⟩, ⟨by repeat (first | (with_reducible first | exact HB.out | apply below_alloc | apply pw_below_drewN | apply below_drew1 | refine below_set ?_ GE109.out | refine below_set ?_ GE116.out | refine below_set ?_ GE117.out) | exact HB.out)⟩⟩
                · replace c60 := Bool.eq_false_iff.mpr c60
                  subst c60
                  have H1 : (if t114 = a1 then (if t115 = a1 then (sweep_Wound.l0 kj8 a1 a2 a3 (wrap64 ((wrap64 (x9_1 + 1)) - 1)) l0 (l0.length : Int) (wrap64 (x18_1 + 1))) else (sweep_Wound.l0 kj8 a1 a2 a3 (wrap64 (x9_1 + 1)) l0 (l0.length : Int) (wrap64 (x18_1 + 1)))) else (if t115 = a1 then (sweep_Wound.l0 kj8 a1 a2 a3 (wrap64 (x9_1 - 1)) l0 (l0.length : Int) (wrap64 (x18_1 + 1))) else (sweep_Wound.l0 kj8 a1 a2 a3 x9_1 l0 (l0.length : Int) (wrap64 (x18_1 + 1))))) = some r := by rw [if_neg (show ¬ (false = true) by decide)] at H; exact H
                  clear H
                  have H := H1
                  clear H1
                  by_cases c61 : t114 = a1
                  · rw [if_pos c61] at H
                    have c61b0 : (t114 == a1) = true := beq_iff_eq.mpr c61
                    have c61b1 : (t114 != a1) = false := bne_eq_false_iff_eq.mpr c61
                    clear c61
                    by_cases c62 : t115 = a1
                    · rw [if_pos c62] at H
                      have c62b0 : (t115 == a1) = true := beq_iff_eq.mpr c62
                      have c62b1 : (t115 != a1) = false := bne_eq_false_iff_eq.mpr c62
                      clear c62
                      have H' := Aside0.mk H
                      clear H
                      go_wp2
                      go_roundg kj8
                      case measure => have := HK1.out; have := HJ8.out; omega
                      case rel => exact ⟨(wrap64 ((wrap64 (x9_1 + 1)) - 1)), (wrap64 (x18_1 + 1)), (by first | rfl | (simp; done) | (simp [*]; done)), (by first | rfl | (simp; done) | (simp [*]; done)), H', ⟨by have := HK1.out; have := HJ8.out; omega⟩, ⟨by repeat (first | (with_reducible first | exact HB.out | apply below_alloc | apply pw_below_drewN | apply below_drew1 | refine below_set ?_ GE109.out | refine below_set ?_ GE116.out | refine below_set ?_ GE117.out) | exact HB.out)⟩⟩
                    · rw [if_neg c62] at H
                      have c62b0 : (t115 == a1) = false := beq_eq_false_iff_ne.mpr c62
                      have c62b1 : (t115 != a1) = true := bne_iff_ne.mpr c62
                      have H' := Aside0.mk H
                      clear H
                      go_wp2
                      go_roundg kj8
                      case measure => have := HK1.out; have := HJ8.out; omega
                      case rel => exact ⟨(wrap64 (x9_1 + 1)), (wrap64 (x18_1 + 1)), (by first | rfl | (simp; done) | (simp [*]; done)), (by first | rfl | (simp; done) | (simp [*]; done)), H', ⟨by have := HK1.out; have := HJ8.out; omega⟩, ⟨by repeat (first | (with_reducible first | exact HB.out | apply below_alloc | apply pw_below_drewN | apply below_drew1 | refine below_set ?_ GE109.out | refine below_set ?_ GE116.out | refine below_set ?_ GE117.out) | exact HB.out)⟩⟩
                  · rw [if_neg c61] at H
                    have c61b0 : (t114 == a1) = false := beq_eq_false_iff_ne.mpr c61
                    have c61b1 : (t114 != a1) = true := bne_iff_ne.mpr c61
                    by_cases c63 : t115 = a1
                    · rw [if_pos c63] at H
                      have c63b0 : (t115 == a1) = true := beq_iff_eq.mpr c63
                      have c63b1 : (t115 != a1) = false := bne_eq_false_iff_eq.mpr c63
                      clear c63
                      have H' := Aside0.mk H
                      clear H
                      go_wp2
                      go_roundg kj8
                      case measure => have := HK1.out; have := HJ8.out; omega
                      case rel => exact ⟨(wrap64 (x9_1 - 1)), (wrap64 (x18_1 + 1)), (by first | rfl | (simp; done) | (simp [*]; done)), (by first | rfl | (simp; done) | (simp [*]; done)), H', ⟨by have := HK1.out; have := HJ8.out; omega⟩, ⟨by repeat (first | (with_reducible first | exact HB.out | apply below_alloc | apply pw_below_drewN | apply below_drew1 | refine below_set ?_ GE109.out | refine below_set ?_ GE116.out | refine below_set ?_ GE117.out) | exact HB.out)⟩⟩
                    · rw [if_neg c63] at H
                      have c63b0 : (t115 == a1) = false := beq_eq_false_iff_ne.mpr c63
                      have c63b1 : (t115 != a1) = true := bne_iff_ne.mpr c63
                      have H' := Aside0.mk H
                      clear H
                      go_wp2
                      go_roundg kj8
                      case measure => have := HK1.out; have := HJ8.out; omega
                      case rel => exact ⟨(x9_1), (wrap64 (x18_1 + 1)), (by first | rfl | (simp; done) | (simp [*]; done)), (by first | rfl | (simp; done) | (simp [*]; done)), H', ⟨by have := HK1.out; have := HJ8.out; omega⟩, ⟨by repeat (first | (with_reducible first | exact HB.out | apply below_alloc | apply pw_below_drewN | apply below_drew1 | refine below_set ?_ GE109.out | refine below_set ?_ GE116.out | refine below_set ?_ GE117.out) | exact HB.out)⟩⟩
          · rw [if_neg c7] at H
            exact absurd H (by simp)
        · rw [if_neg c6] at H
          exact absurd H (by simp)
      · rw [if_neg c5] at H
        have c5b0 : decide (x18_1 < (l0.length : Int)) = false := decide_eq_false c5
        clear c5
        obtain rfl := Option.some.inj H
        go_wp2
        go_ret
        exact ⟨by first | rfl | (simp [errW_none, errW_some] <;> rfl) | (simp [*, errW_none, errW_some] <;> rfl), by repeat (first | (with_reducible first | exact HB.out | apply below_alloc | apply pw_below_drewN | apply below_drew1) | exact HB.out)⟩

/-! ### sweep_Owners_1: function 28 -/
def sweep_Owners_1.f (a0_0 : Int) (a0_1 : Int) (a0_2 : Int) (a0_3 : Int) (a0_4 : Int) (a0_5 : Int) : Option (Bool) := (sweep_RightSeg.f a0_0 a0_1 a0_2 a0_3 a0_4 a0_5).bind fun t122 => (some (!t122))
set_option maxHeartbeats 8000000 in
set_option maxRecDepth 100000 in
theorem sweep_Owners_1.calls (a0_0 : Int) (a0_1 : Int) (a0_2 : Int) (a0_3 : Int) (a0_4 : Int) (a0_5 : Int) (r : Bool) (w : World) (h : sweep_Owners_1.f a0_0 a0_1 a0_2 a0_3 a0_4 a0_5 = some r) :
    Calls Try.prog 28 #[.agg #[.int .i64 a0_0, .int .i64 a0_1, .int .i64 a0_2, .int .i64 a0_3, .int .i64 a0_4, .int .i64 a0_5]] w fun e w' => e = .returned (.bool r) ∧ Below w.heap.size w w' := by
  have hu27 := Try.underlying27
  have HB := Aside0.mk (Below.refl w.heap.size w)
  have H : ((sweep_RightSeg.f a0_0 a0_1 a0_2 a0_3 a0_4 a0_5).bind fun t122 => (some (!t122))) = some r := h
  clear h
  replace H := Option.bind_eq_some_iff.mp H
  obtain ⟨t122, A20, H⟩ := H
  replace H : (some (!t122)) = some r := H
  have A2 := Aside0.mk A20
  clear A20
  obtain rfl := Option.some.inj H
  go_enter Try.func28, Try.ntmps28
  go_wp2_with (first | ((with_reducible refine gate_dst (N := 1) rfl ?_); refine box_event ?hg (N := 1) ?hd (cs := #[.int .i64 a0_0, .int .i64 a0_1, .int .i64 a0_2, .int .i64 a0_3, .int .i64 a0_4, .int .i64 a0_5]) (t := 27) ?hr ?_; (case hd => rfl); (case hg => rfl); (case hr => first | (go_simp; done) | (go_simp; rfl)); intro gb121 hg w3 hbox hb; have n0_ := Aside0.mk (below_step (by repeat (first | (with_reducible first | exact HB.out | apply below_alloc | apply pw_below_drewN | apply below_drew1) | exact HB.out)) hb); have n1_ := Aside0.mk (hbox); have n2_ := Aside0.mk ((by rw [hg]; exact (below_size (by repeat (first | (with_reducible first | exact HB.out | apply below_alloc | apply pw_below_drewN | apply below_drew1) | exact HB.out))) : w.heap.size ≤ gb121)); have n3_ := Aside0.mk ((by rw [hg]; exact (below_size (by repeat (first | (with_reducible first | exact HB.out | apply below_alloc | apply pw_below_drewN | apply below_drew1) | exact HB.out))) : w.heap.size ≤ gb121)); clear HB; have HB := n0_; have BK121 := n1_; have GW121 := n2_; have GE121 := n3_; clear n0_ n1_ n2_ n3_; clear hb hbox hg; have hcz4_0 : w3.cell? ⟨gb121, 0, none⟩ = some (.int .i64 a0_0) := (blk_cell BK121.out 0).trans rfl; have hcz4_1 : w3.cell? ⟨gb121, 1, none⟩ = some (.int .i64 a0_1) := (blk_cell BK121.out 1).trans rfl; have hcz4_2 : w3.cell? ⟨gb121, 2, none⟩ = some (.int .i64 a0_2) := (blk_cell BK121.out 2).trans rfl; have hcz4_3 : w3.cell? ⟨gb121, 3, none⟩ = some (.int .i64 a0_3) := (blk_cell BK121.out 3).trans rfl; have hcz4_4 : w3.cell? ⟨gb121, 4, none⟩ = some (.int .i64 a0_4) := (blk_cell BK121.out 4).trans rfl; have hcz4_5 : w3.cell? ⟨gb121, 5, none⟩ = some (.int .i64 a0_5) := (blk_cell BK121.out 5).trans rfl; have hfz4_0 := blk_frozen BK121.out 0; have hfz4_1 := blk_frozen BK121.out 1; have hfz4_2 := blk_frozen BK121.out 2; have hfz4_3 := blk_frozen BK121.out 3; have hfz4_4 := blk_frozen BK121.out 4; have hfz4_5 := blk_frozen BK121.out 5) | ((with_reducible refine gate_callee (f := 11) rfl ?_); refine goesL_ (some 4) rfl rfl Try.func11 (by kernel_rfl) rfl #[.agg #[.int .i64 a0_0, .int .i64 a0_1, .int .i64 a0_2, .int .i64 a0_3, .int .i64 a0_4, .int .i64 a0_5]] rfl (by (try simp only [List.map_toArray, List.map_cons, List.map_nil]); first | done | rfl | (simp only [List.length_drop, List.length_take]; rfl)) ?_; (with_reducible refine (sweep_RightSeg.calls a0_0 a0_1 a0_2 a0_3 a0_4 a0_5 t122 _ A2.out).mono ?_); rintro e w5 ⟨rfl, hb⟩; refine ⟨_, rfl, ?_⟩; have n0_ := Aside0.mk (blk_below (g := gb121) (o := .cells #[.int .i64 a0_0, .int .i64 a0_1, .int .i64 a0_2, .int .i64 a0_3, .int .i64 a0_4, .int .i64 a0_5] 27 (0, 0)) (by (with_reducible repeat (first | refine blk_drewN ?_ _ | refine blk_drew ?_ | refine blk_alloc ?_ _)); exact BK121.out) hb); have n1_ := Aside0.mk (below_step (by repeat (first | (with_reducible first | exact HB.out | apply below_alloc | apply pw_below_drewN | apply below_drew1 | refine below_set ?_ GE121.out) | exact HB.out)) hb); clear BK121; clear HB; have BK121 := n0_; have HB := n1_; clear n0_ n1_; (try clear hb); (try clear hb2); (try clear hk); (try clear hi)))
  go_ret
  exact ⟨by first | rfl | (simp [errW_none, errW_some] <;> rfl) | (simp [*, errW_none, errW_some] <;> rfl), by repeat (first | (with_reducible first | exact HB.out | apply below_alloc | apply pw_below_drewN | apply below_drew1 | refine below_set ?_ GE121.out) | exact HB.out)⟩

/-! ### sweep_Seg_30: function 30 -/
def sweep_Seg_30.l0 : Nat → List (S27) → Int → Int → Option (Int)
  | 0, _, _, _ => none
  | k + 1, x0, x7, x8 => if x8 < x7 then (if 0 ≤ x8 then (if x8 < (x0.length : Int) then ((sweep_Owners_1.f ((rd_T27 x0 x8).f0.f0) ((rd_T27 x0 x8).f0.f1) ((rd_T27 x0 x8).f1.f0) ((rd_T27 x0 x8).f1.f1) ((rd_T27 x0 x8).f2) ((rd_T27 x0 x8).f3)).bind fun t124 => (if t124 = true then (some x8) else (sweep_Seg_30.l0 k x0 x7 (wrap64 (x8 + 1))))) else (none)) else (none)) else (some (-1))
def sweep_Seg_30.f (k : Nat) (l0 : List (S27))  : Option (Int) := sweep_Seg_30.l0 k l0 (l0.length : Int) 0
theorem sweep_Seg_30.mono_l : ∀ k, (∀ y0 y1 y2, LeO (sweep_Seg_30.l0 k y0 y1 y2) (sweep_Seg_30.l0 (k + 1) y0 y1 y2))
  | 0 => fun _ _ _ r h => by simp [sweep_Seg_30.l0] at h
  | k + 1 => by
    have ih0 := sweep_Seg_30.mono_l k
    · intro y0 y1 y2
      unfold sweep_Seg_30.l0
      repeat' first
      | (with_reducible exact ih0 _ _ _)
      | (with_reducible exact LeO.refl _)
      | (with_reducible exact LeO.none _)
      | (with_reducible refine LeO.ite ?_ ?_)
      | (with_reducible refine LeO.bind ?_ (fun _ => ?_))
      | exact ih0 _ _ _
      | exact LeO.none _
      | refine LeO.ite ?_ ?_
      | refine LeO.bind ?_ (fun _ => ?_)
theorem sweep_Seg_30.mono : ∀ a0 k, LeO (sweep_Seg_30.f k a0) (sweep_Seg_30.f (k + 1) a0) := by
  intro a0 k
  have ih0 := sweep_Seg_30.mono_l k
  unfold sweep_Seg_30.f
  repeat' first
      | (with_reducible exact ih0 _ _ _)
      | (with_reducible exact LeO.refl _)
      | (with_reducible exact LeO.none _)
      | (with_reducible refine LeO.ite ?_ ?_)
      | (with_reducible refine LeO.bind ?_ (fun _ => ?_))
      | exact ih0 _ _ _
      | exact LeO.none _
      | refine LeO.ite ?_ ?_
      | refine LeO.bind ?_ (fun _ => ?_)
set_option maxHeartbeats 8000000 in
set_option maxRecDepth 100000 in
theorem sweep_Seg_30.calls (k : Nat) (A0 : Option Addr) (c0 : Nat) (l0 : List (S27))  (r : Int) (w : World) (hr0 : Kd.C k27 w A0 l0.length l0) (hc0 : l0.length ≤ c0) (h : sweep_Seg_30.f k l0 = some r) :
    Calls Try.prog 30 #[.slice A0 l0.length c0, .func (.func 28) #[] #[]] w fun e w' => e = .returned (.int .i64 r) ∧ Below w.heap.size w w' := by
  have hu27 := Try.underlying27
  have HR0 := Aside0.mk hr0
  have HC0 := Aside0.mk hc0
  clear hr0 hc0
  have HB := Aside0.mk (Below.refl w.heap.size w)
  have H : (sweep_Seg_30.l0 k l0 (l0.length : Int) 0) = some r := h
  clear h
  have H' := Aside0.mk H
  clear H
  go_enter Try.func30, Try.ntmps30
  go_wp2
  go_loopg [8] k (fun kq v8 w' => ∃ (x8_1 : Int), v8 = .int .i64 x8_1 ∧ Aside0 (sweep_Seg_30.l0 kq l0 (l0.length : Int) x8_1 = some r) ∧ Aside0 (kq ≤ k) ∧ Aside0 (Below w.heap.size w w'))
  case atStart => exact ⟨(0), (by first | rfl | (simp; done) | (simp [*]; done)), H', ⟨Nat.le_refl _⟩, ⟨by repeat (first | (with_reducible first | exact HB.out | apply below_alloc | apply pw_below_drewN | apply below_drew1) | exact HB.out)⟩⟩
  case round =>
    clear H'
    try clear p2
    obtain ⟨x8_1, rfl, HA, HK1, HB⟩ := hrel
    cases gk with
    | zero => exact absurd HA.out (by simp [sweep_Seg_30.l0])
    | succ k1 =>
      have H := HA.out
      clear HA
      simp only [sweep_Seg_30.l0] at H
      by_cases c3 : x8_1 < (l0.length : Int)
      · rw [if_pos c3] at H
        have c3b0 : decide (x8_1 < (l0.length : Int)) = true := decide_eq_true c3
        clear c3
        by_cases c4 : 0 ≤ x8_1
        · rw [if_pos c4] at H
          have c4b0 : decide (0 ≤ x8_1) = true := decide_eq_true c4
          clear c4
          by_cases c5 : x8_1 < (l0.length : Int)
          · rw [if_pos c5] at H
            have c5b0 : decide (x8_1 < (l0.length : Int)) = true := decide_eq_true c5
            clear c5
            replace H := Option.bind_eq_some_iff.mp H
            obtain ⟨t124, A60, H⟩ := H
            replace H : (if t124 = true then (some x8_1) else (sweep_Seg_30.l0 k1 l0 (l0.length : Int) (wrap64 (x8_1 + 1)))) = some r := H
            have A6 := Aside0.mk A60
            clear A60
            by_cases c7 : t124 = true
            · subst c7
              have H1 : (some x8_1) = some r := by rw [if_pos rfl] at H; exact H
              clear H
              have H := H1
              clear H1
              obtain rfl := Option.some.inj H
              have p123 : 0 ≤ (x8_1 : Int) := of_decide_eq_true (by first | (with_reducible assumption) | assumption)
              have q123 : x8_1 < (l0.length : Int) := of_decide_eq_true (by first | (with_reducible assumption) | assumption)
              obtain ⟨ad123, e123, hx123_0, hx123_1, hx123_2, hx123_3, hx123_4, hx123_5⟩ := at_T27 HR0.out x8_1 p123 q123
              cases e123
              replace hx123_0 := (HB.out.cell (World.block_lt_of_cell? w _ hx123_0)).trans hx123_0
              replace hx123_1 := (HB.out.cell (World.block_lt_of_cell? w _ hx123_1)).trans hx123_1
              replace hx123_2 := (HB.out.cell (World.block_lt_of_cell? w _ hx123_2)).trans hx123_2
              replace hx123_3 := (HB.out.cell (World.block_lt_of_cell? w _ hx123_3)).trans hx123_3
              replace hx123_4 := (HB.out.cell (World.block_lt_of_cell? w _ hx123_4)).trans hx123_4
              replace hx123_5 := (HB.out.cell (World.block_lt_of_cell? w _ hx123_5)).trans hx123_5
              replace p123 := eq_true p123
              replace q123 := eq_true q123
              go_wp2_with (first | (go_at_call 28; (with_reducible refine (sweep_Owners_1.calls ((rd_T27 l0 x8_1).f0.f0) ((rd_T27 l0 x8_1).f0.f1) ((rd_T27 l0 x8_1).f1.f0) ((rd_T27 l0 x8_1).f1.f1) ((rd_T27 l0 x8_1).f2) ((rd_T27 l0 x8_1).f3) true _ A6.out).mono ?_); rintro e w8 ⟨rfl, hb⟩; have n0_ := Aside0.mk (below_step (by repeat (first | (with_reducible first | exact HB.out | apply below_alloc | apply pw_below_drewN | apply below_drew1) | exact HB.out)) hb); clear HB; have HB := n0_; clear n0_; (try clear hb); (try clear hb2); (try clear hk); (try clear hi)))
              go_ret
              exact ⟨by first | rfl | (simp [errW_none, errW_some] <;> rfl) | (simp [*, errW_none, errW_some] <;> rfl), by repeat (first | (with_reducible first | exact HB.out | apply below_alloc | apply pw_below_drewN | apply below_drew1) | exact HB.out)⟩
            · replace c7 := Bool.eq_false_iff.mpr c7
              subst c7
              have H1 : (sweep_Seg_30.l0 k1 l0 (l0.length : Int) (wrap64 (x8_1 + 1))) = some r := by rw [if_neg (show ¬ (false = true) by decide)] at H; exact H
              clear H
              have H := H1
              clear H1
              have H' := Aside0.mk H
              clear H
              have p123 : 0 ≤ (x8_1 : Int) := of_decide_eq_true (by first | (with_reducible assumption) | assumption)
              have q123 : x8_1 < (l0.length : Int) := of_decide_eq_true (by first | (with_reducible assumption) | assumption)
              obtain ⟨ad123, e123, hx123_0, hx123_1, hx123_2, hx123_3, hx123_4, hx123_5⟩ := at_T27 HR0.out x8_1 p123 q123
              cases e123
              replace hx123_0 := (HB.out.cell (World.block_lt_of_cell? w _ hx123_0)).trans hx123_0
              replace hx123_1 := (HB.out.cell (World.block_lt_of_cell? w _ hx123_1)).trans hx123_1
              replace hx123_2 := (HB.out.cell (World.block_lt_of_cell? w _ hx123_2)).trans hx123_2
              replace hx123_3 := (HB.out.cell (World.block_lt_of_cell? w _ hx123_3)).trans hx123_3
              replace hx123_4 := (HB.out.cell (World.block_lt_of_cell? w _ hx123_4)).trans hx123_4
              replace hx123_5 := (HB.out.cell (World.block_lt_of_cell? w _ hx123_5)).trans hx123_5
              replace p123 := eq_true p123
              replace q123 := eq_true q123
              go_wp2_with (first | (go_at_call 28; (with_reducible refine (sweep_Owners_1.calls ((rd_T27 l0 x8_1).f0.f0) ((rd_T27 l0 x8_1).f0.f1) ((rd_T27 l0 x8_1).f1.f0) ((rd_T27 l0 x8_1).f1.f1) ((rd_T27 l0 x8_1).f2) ((rd_T27 l0 x8_1).f3) false _ A6.out).mono ?_); rintro e w9 ⟨rfl, hb⟩; have n0_ := Aside0.mk (below_step (by repeat (first | (with_reducible first | exact HB.out | apply below_alloc | apply pw_below_drewN | apply below_drew1) | exact HB.out)) hb); clear HB; have HB := n0_; clear n0_; (try clear hb); (try clear hb2); (try clear hk); (try clear hi)))
              go_roundg k1
              case measure => have := HK1.out; omega
              case rel => exact ⟨(wrap64 (x8_1 + 1)), (by first | rfl | (simp; done) | (simp [*]; done)), H', ⟨by have := HK1.out; omega⟩, ⟨by repeat (first | (with_reducible first | exact HB.out | apply below_alloc | apply pw_below_drewN | apply below_drew1) | exact HB.out)⟩⟩
          · rw [if_neg c5] at H
            exact absurd H (by simp)
        · rw [if_neg c4] at H
          exact absurd H (by simp)
      · rw [if_neg c3] at H
        have c3b0 : decide (x8_1 < (l0.length : Int)) = false := decide_eq_false c3
        clear c3
        obtain rfl := Option.some.inj H
        go_wp2
        go_ret
        exact ⟨by first | rfl | (simp [errW_none, errW_some] <;> rfl) | (simp [*, errW_none, errW_some] <;> rfl), by repeat (first | (with_reducible first | exact HB.out | apply below_alloc | apply pw_below_drewN | apply below_drew1) | exact HB.out)⟩

/-! ### sweep_Seg_27: function 27 -/
def sweep_Seg_27.f (k : Nat) (l0 : List (S27))  : Option (Bool) := (sweep_Seg_30.f k l0).bind fun t125 => (some (decide (t125 ≥ 0)))
theorem sweep_Seg_27.mono : ∀ a0 k, LeO (sweep_Seg_27.f k a0) (sweep_Seg_27.f (k + 1) a0) := by
  intro a0 k
  unfold sweep_Seg_27.f
  repeat' first
      | (with_reducible exact sweep_Seg_30.mono _ _)
      | (with_reducible exact LeO.refl _)
      | (with_reducible exact LeO.none _)
      | (with_reducible refine LeO.ite ?_ ?_)
      | (with_reducible refine LeO.bind ?_ (fun _ => ?_))
      | exact sweep_Seg_30.mono _ _
      | exact LeO.none _
      | refine LeO.ite ?_ ?_
      | refine LeO.bind ?_ (fun _ => ?_)
set_option maxHeartbeats 8000000 in
set_option maxRecDepth 100000 in
theorem sweep_Seg_27.calls (k : Nat) (A0 : Option Addr) (c0 : Nat) (l0 : List (S27))  (r : Bool) (w : World) (hr0 : Kd.C k27 w A0 l0.length l0) (hc0 : l0.length ≤ c0) (h : sweep_Seg_27.f k l0 = some r) :
    Calls Try.prog 27 #[.slice A0 l0.length c0, .func (.func 28) #[] #[]] w fun e w' => e = .returned (.bool r) ∧ Below w.heap.size w w' := by
  have HR0 := Aside0.mk hr0
  have HC0 := Aside0.mk hc0
  clear hr0 hc0
  have HB := Aside0.mk (Below.refl w.heap.size w)
  have H : ((sweep_Seg_30.f k l0).bind fun t125 => (some (decide (t125 ≥ 0)))) = some r := h
  clear h
  replace H := Option.bind_eq_some_iff.mp H
  obtain ⟨t125, A30, H⟩ := H
  replace H : (some (decide (t125 ≥ 0))) = some r := H
  have A3 := Aside0.mk A30
  clear A30
  obtain rfl := Option.some.inj H
  go_enter Try.func27, Try.ntmps27
  go_wp2_with (first | ((with_reducible refine gate_callee (f := 30) rfl ?_); refine goesL_ (some 7) rfl rfl Try.func30 (by kernel_rfl) rfl #[.slice A0 l0.length c0, .func (.func 28) #[] #[]] rfl (by (try simp only [List.map_toArray, List.map_cons, List.map_nil]); first | done | rfl | (simp only [List.length_drop, List.length_take]; rfl)) ?_; (with_reducible refine (sweep_Seg_30.calls k _ _ l0  t125 _ ?side1 ?side2 A3.out).mono ?_); (case side1 => repeat (first | exact HR0.out | (with_reducible refine Kd.C_alloc ?_ _) | (with_reducible refine Kd.C_drewN ?_ _) | (with_reducible refine Kd.C_drew ?_))); (case side2 => exact HC0.out); rintro e w4 ⟨rfl, hb⟩; refine ⟨_, rfl, ?_⟩; have n0_ := Aside0.mk (below_step (by repeat (first | (with_reducible first | exact HB.out | apply below_alloc | apply pw_below_drewN | apply below_drew1) | exact HB.out)) hb); clear HB; have HB := n0_; clear n0_; (try clear hb); (try clear hb2); (try clear hk); (try clear hi)))
  go_ret
  exact ⟨by first | rfl | (simp [errW_none, errW_some] <;> rfl) | (simp [*, errW_none, errW_some] <;> rfl), by repeat (first | (with_reducible first | exact HB.out | apply below_alloc | apply pw_below_drewN | apply below_drew1) | exact HB.out)⟩

/-! ### cmp_isNaN_int: function 38 -/
def cmp_isNaN_int.f (a0 : Int) : Option (Bool) := some (a0 != a0)
set_option maxHeartbeats 8000000 in
set_option maxRecDepth 100000 in
theorem cmp_isNaN_int.calls (a0 : Int) (r : Bool) (w : World) (h : cmp_isNaN_int.f a0 = some r) :
    Calls Try.prog 38 #[.int .i64 a0] w fun e w' => e = .returned (.bool r) ∧ Drawn0 w w' := by
  have H : (some (a0 != a0)) = some r := h
  clear h
  obtain rfl := Option.some.inj H
  go_enter Try.func38, Try.ntmps38
  go_wp2
  go_ret
  exact ⟨by first | rfl | (simp; done) | (simp [*]; done), by repeat (first | exact Drawn0.refl _ | apply Drawn0.step)⟩

/-! ### cmp_Compare_int: function 34 -/
def cmp_Compare_int.f (a0 : Int) (a1 : Int) : Option (Int) := (cmp_isNaN_int.f a0).bind fun t126 => ((cmp_isNaN_int.f a1).bind fun t127 => (if t126 = true then (if t127 = true then (some 0) else (some (-1))) else (if t127 = true then (some 1) else (if a0 < a1 then (some (-1)) else (if a0 > a1 then (some 1) else (some 0))))))
set_option maxHeartbeats 8000000 in
set_option maxRecDepth 100000 in
theorem cmp_Compare_int.calls (a0 : Int) (a1 : Int) (r : Int) (w : World) (h : cmp_Compare_int.f a0 a1 = some r) :
    Calls Try.prog 34 #[.int .i64 a0, .int .i64 a1] w fun e w' => e = .returned (.int .i64 r) ∧ Drawn0 w w' := by
  have H : ((cmp_isNaN_int.f a0).bind fun t126 => ((cmp_isNaN_int.f a1).bind fun t127 => (if t126 = true then (if t127 = true then (some 0) else (some (-1))) else (if t127 = true then (some 1) else (if a0 < a1 then (some (-1)) else (if a0 > a1 then (some 1) else (some 0))))))) = some r := h
  clear h
  replace H := Option.bind_eq_some_iff.mp H
  obtain ⟨t126, A30, H⟩ := H
  replace H : ((cmp_isNaN_int.f a1).bind fun t127 => (if t126 = true then (if t127 = true then (some 0) else (some (-1))) else (if t127 = true then (some 1) else (if a0 < a1 then (some (-1)) else (if a0 > a1 then (some 1) else (some 0)))))) = some r := H
  have A3 := Aside0.mk A30
  clear A30
  replace H := Option.bind_eq_some_iff.mp H
  obtain ⟨t127, A40, H⟩ := H
  replace H : (if t126 = true then (if t127 = true then (some 0) else (some (-1))) else (if t127 = true then (some 1) else (if a0 < a1 then (some (-1)) else (if a0 > a1 then (some 1) else (some 0))))) = some r := H
  have A4 := Aside0.mk A40
  clear A40
  by_cases c5 : t126 = true
  · subst c5
    have H1 : (if t127 = true then (some 0) else (some (-1))) = some r := by rw [if_pos rfl] at H; exact H
    clear H
    have H := H1
    clear H1
    by_cases c6 : t127 = true
    · subst c6
      have H1 : (some 0) = some r := by rw [if_pos rfl] at H; exact H
      clear H
      have H := H1
      clear H1
      obtain rfl := Option.some.inj H
      go_enter Try.func34, Try.ntmps34
      go_wp2_with (first | ((with_reducible refine gate_callee (f := 38) rfl ?_); refine goesL_ (some 8) rfl rfl Try.func38 (by kernel_rfl) rfl #[.int .i64 a0] rfl (by (try simp only [List.map_toArray, List.map_cons, List.map_nil]); first | done | rfl | (simp only [List.length_drop, List.length_take]; rfl)) ?_; (with_reducible refine (cmp_isNaN_int.calls a0 true _ A3.out).mono ?_); rintro e w' ⟨rfl, ⟨nd, rfl⟩⟩; refine ⟨_, rfl, ?_⟩) | ((with_reducible refine gate_callee (f := 38) rfl ?_); refine goesL_ (some 10) rfl rfl Try.func38 (by kernel_rfl) rfl #[.int .i64 a1] rfl (by (try simp only [List.map_toArray, List.map_cons, List.map_nil]); first | done | rfl | (simp only [List.length_drop, List.length_take]; rfl)) ?_; (with_reducible refine (cmp_isNaN_int.calls a1 true _ A4.out).mono ?_); rintro e w' ⟨rfl, ⟨nd, rfl⟩⟩; refine ⟨_, rfl, ?_⟩))
      go_ret
      exact ⟨by first | rfl | (simp; done) | (simp [*]; done), by repeat (first | exact Drawn0.refl _ | apply Drawn0.step)⟩
    · replace c6 := Bool.eq_false_iff.mpr c6
      subst c6
      have H1 : (some (-1)) = some r := by rw [if_neg (show ¬ (false = true) by decide)] at H; exact H
      clear H
      have H := H1
      clear H1
      obtain rfl := Option.some.inj H
      go_enter Try.func34, Try.ntmps34
      go_wp2_with (first | ((with_reducible refine gate_callee (f := 38) rfl ?_); refine goesL_ (some 8) rfl rfl Try.func38 (by kernel_rfl) rfl #[.int .i64 a0] rfl (by (try simp only [List.map_toArray, List.map_cons, List.map_nil]); first | done | rfl | (simp only [List.length_drop, List.length_take]; rfl)) ?_; (with_reducible refine (cmp_isNaN_int.calls a0 true _ A3.out).mono ?_); rintro e w' ⟨rfl, ⟨nd, rfl⟩⟩; refine ⟨_, rfl, ?_⟩) | ((with_reducible refine gate_callee (f := 38) rfl ?_); refine goesL_ (some 10) rfl rfl Try.func38 (by kernel_rfl) rfl #[.int .i64 a1] rfl (by (try simp only [List.map_toArray, List.map_cons, List.map_nil]); first | done | rfl | (simp only [List.length_drop, List.length_take]; rfl)) ?_; (with_reducible refine (cmp_isNaN_int.calls a1 false _ A4.out).mono ?_); rintro e w' ⟨rfl, ⟨nd, rfl⟩⟩; refine ⟨_, rfl, ?_⟩))
      go_ret
      exact ⟨by first | rfl | (simp; done) | (simp [*]; done), by repeat (first | exact Drawn0.refl _ | apply Drawn0.step)⟩
  · replace c5 := Bool.eq_false_iff.mpr c5
    subst c5
    have H1 : (if t127 = true then (some 1) else (if a0 < a1 then (some (-1)) else (if a0 > a1 then (some 1) else (some 0)))) = some r := by rw [if_neg (show ¬ (false = true) by decide)] at H; exact H
    clear H
    have H := H1
    clear H1
    by_cases c7 : t127 = true
    · subst c7
      have H1 : (some 1) = some r := by rw [if_pos rfl] at H; exact H
      clear H
      have H := H1
      clear H1
      obtain rfl := Option.some.inj H
      go_enter Try.func34, Try.ntmps34
      go_wp2_with (first | ((with_reducible refine gate_callee (f := 38) rfl ?_); refine goesL_ (some 8) rfl rfl Try.func38 (by kernel_rfl) rfl #[.int .i64 a0] rfl (by (try simp only [List.map_toArray, List.map_cons, List.map_nil]); first | done | rfl | (simp only [List.length_drop, List.length_take]; rfl)) ?_; (with_reducible refine (cmp_isNaN_int.calls a0 false _ A3.out).mono ?_); rintro e w' ⟨rfl, ⟨nd, rfl⟩⟩; refine ⟨_, rfl, ?_⟩) | ((with_reducible refine gate_callee (f := 38) rfl ?_); refine goesL_ (some 10) rfl rfl Try.func38 (by kernel_rfl) rfl #[.int .i64 a1] rfl (by (try simp only [List.map_toArray, List.map_cons, List.map_nil]); first | done | rfl | (simp only [List.length_drop, List.length_take]; rfl)) ?_; (with_reducible refine (cmp_isNaN_int.calls a1 true _ A4.out).mono ?_); rintro e w' ⟨rfl, ⟨nd, rfl⟩⟩; refine ⟨_, rfl, ?_⟩))
      go_ret
      exact ⟨by first | rfl | (simp; done) | (simp [*]; done), by repeat (first | exact Drawn0.refl _ | apply Drawn0.step)⟩
    · replace c7 := Bool.eq_false_iff.mpr c7
      subst c7
      have H1 : (if a0 < a1 then (some (-1)) else (if a0 > a1 then (some 1) else (some 0))) = some r := by rw [if_neg (show ¬ (false = true) by decide)] at H; exact H
      clear H
      have H := H1
      clear H1
      by_cases c8 : a0 < a1
      · rw [if_pos c8] at H
        have c8b0 : decide (a0 < a1) = true := decide_eq_true c8
        clear c8
        obtain rfl := Option.some.inj H
        go_enter Try.func34, Try.ntmps34
        go_wp2_with (first | ((with_reducible refine gate_callee (f := 38) rfl ?_); refine goesL_ (some 8) rfl rfl Try.func38 (by kernel_rfl) rfl #[.int .i64 a0] rfl (by (try simp only [List.map_toArray, List.map_cons, List.map_nil]); first | done | rfl | (simp only [List.length_drop, List.length_take]; rfl)) ?_; (with_reducible refine (cmp_isNaN_int.calls a0 false _ A3.out).mono ?_); rintro e w' ⟨rfl, ⟨nd, rfl⟩⟩; refine ⟨_, rfl, ?_⟩) | ((with_reducible refine gate_callee (f := 38) rfl ?_); refine goesL_ (some 10) rfl rfl Try.func38 (by kernel_rfl) rfl #[.int .i64 a1] rfl (by (try simp only [List.map_toArray, List.map_cons, List.map_nil]); first | done | rfl | (simp only [List.length_drop, List.length_take]; rfl)) ?_; (with_reducible refine (cmp_isNaN_int.calls a1 false _ A4.out).mono ?_); rintro e w' ⟨rfl, ⟨nd, rfl⟩⟩; refine ⟨_, rfl, ?_⟩))
        go_ret
        exact ⟨by first | rfl | (simp; done) | (simp [*]; done), by repeat (first | exact Drawn0.refl _ | apply Drawn0.step)⟩
      · rw [if_neg c8] at H
        have c8b0 : decide (a0 < a1) = false := decide_eq_false c8
        clear c8
        by_cases c9 : a0 > a1
        · rw [if_pos c9] at H
          have c9b0 : decide (a1 < a0) = true := decide_eq_true c9
          clear c9
          obtain rfl := Option.some.inj H
          go_enter Try.func34, Try.ntmps34
          go_wp2_with (first | ((with_reducible refine gate_callee (f := 38) rfl ?_); refine goesL_ (some 8) rfl rfl Try.func38 (by kernel_rfl) rfl #[.int .i64 a0] rfl (by (try simp only [List.map_toArray, List.map_cons, List.map_nil]); first | done | rfl | (simp only [List.length_drop, List.length_take]; rfl)) ?_; (with_reducible refine (cmp_isNaN_int.calls a0 false _ A3.out).mono ?_); rintro e w' ⟨rfl, ⟨nd, rfl⟩⟩; refine ⟨_, rfl, ?_⟩) | ((with_reducible refine gate_callee (f := 38) rfl ?_); refine goesL_ (some 10) rfl rfl Try.func38 (by kernel_rfl) rfl #[.int .i64 a1] rfl (by (try simp only [List.map_toArray, List.map_cons, List.map_nil]); first | done | rfl | (simp only [List.length_drop, List.length_take]; rfl)) ?_; (with_reducible refine (cmp_isNaN_int.calls a1 false _ A4.out).mono ?_); rintro e w' ⟨rfl, ⟨nd, rfl⟩⟩; refine ⟨_, rfl, ?_⟩))
          go_ret
          exact ⟨by first | rfl | (simp; done) | (simp [*]; done), by repeat (first | exact Drawn0.refl _ | apply Drawn0.step)⟩
        · rw [if_neg c9] at H
          have c9b0 : decide (a1 < a0) = false := decide_eq_false c9
          clear c9
          obtain rfl := Option.some.inj H
          go_enter Try.func34, Try.ntmps34
          go_wp2_with (first | ((with_reducible refine gate_callee (f := 38) rfl ?_); refine goesL_ (some 8) rfl rfl Try.func38 (by kernel_rfl) rfl #[.int .i64 a0] rfl (by (try simp only [List.map_toArray, List.map_cons, List.map_nil]); first | done | rfl | (simp only [List.length_drop, List.length_take]; rfl)) ?_; (with_reducible refine (cmp_isNaN_int.calls a0 false _ A3.out).mono ?_); rintro e w' ⟨rfl, ⟨nd, rfl⟩⟩; refine ⟨_, rfl, ?_⟩) | ((with_reducible refine gate_callee (f := 38) rfl ?_); refine goesL_ (some 10) rfl rfl Try.func38 (by kernel_rfl) rfl #[.int .i64 a1] rfl (by (try simp only [List.map_toArray, List.map_cons, List.map_nil]); first | done | rfl | (simp only [List.length_drop, List.length_take]; rfl)) ?_; (with_reducible refine (cmp_isNaN_int.calls a1 false _ A4.out).mono ?_); rintro e w' ⟨rfl, ⟨nd, rfl⟩⟩; refine ⟨_, rfl, ?_⟩))
          go_ret
          exact ⟨by first | rfl | (simp; done) | (simp [*]; done), by repeat (first | exact Drawn0.refl _ | apply Drawn0.step)⟩

/-! ### sweep_marks_1: function 33 -/
def sweep_marks_1.f (a0_0 : Int) (a0_1 : Int) (a0_2 : Int) (a1_0 : Int) (a1_1 : Int) (a1_2 : Int) : Option (Int) := (cmp_Compare_int.f a0_0 a1_0).bind fun t130 => (some t130)
set_option maxHeartbeats 8000000 in
set_option maxRecDepth 100000 in
theorem sweep_marks_1.calls (a0_0 : Int) (a0_1 : Int) (a0_2 : Int) (a1_0 : Int) (a1_1 : Int) (a1_2 : Int) (r : Int) (w : World) (h : sweep_marks_1.f a0_0 a0_1 a0_2 a1_0 a1_1 a1_2 = some r) :
    Calls Try.prog 33 #[.agg #[.int .i64 a0_0, .int .i64 a0_1, .int .i64 a0_2], .agg #[.int .i64 a1_0, .int .i64 a1_1, .int .i64 a1_2]] w fun e w' => e = .returned (.int .i64 r) ∧ Below w.heap.size w w' := by
  have hu61 := Try.underlying61
  have HB := Aside0.mk (Below.refl w.heap.size w)
  have H : ((cmp_Compare_int.f a0_0 a1_0).bind fun t130 => (some t130)) = some r := h
  clear h
  replace H := Option.bind_eq_some_iff.mp H
  obtain ⟨t130, A30, H⟩ := H
  replace H : (some t130) = some r := H
  have A3 := Aside0.mk A30
  clear A30
  obtain rfl := Option.some.inj H
  go_enter Try.func33, Try.ntmps33
  go_wp2_with (first | ((with_reducible refine gate_dst (N := 2) rfl ?_); refine box_event ?hg (N := 2) ?hd (cs := #[.int .i64 a0_0, .int .i64 a0_1, .int .i64 a0_2]) (t := 61) ?hr ?_; (case hd => rfl); (case hg => rfl); (case hr => first | (go_simp; done) | (go_simp; rfl)); intro gb128 hg w4 hbox hb; have n0_ := Aside0.mk (below_step (by repeat (first | (with_reducible first | exact HB.out | apply below_alloc | apply pw_below_drewN | apply below_drew1) | exact HB.out)) hb); have n1_ := Aside0.mk (hbox); have n2_ := Aside0.mk ((by rw [hg]; exact (below_size (by repeat (first | (with_reducible first | exact HB.out | apply below_alloc | apply pw_below_drewN | apply below_drew1) | exact HB.out))) : w.heap.size ≤ gb128)); have n3_ := Aside0.mk ((by rw [hg]; exact (below_size (by repeat (first | (with_reducible first | exact HB.out | apply below_alloc | apply pw_below_drewN | apply below_drew1) | exact HB.out))) : w.heap.size ≤ gb128)); clear HB; have HB := n0_; have BK128 := n1_; have GW128 := n2_; have GE128 := n3_; clear n0_ n1_ n2_ n3_; clear hb hbox hg) | ((with_reducible refine gate_dst (N := 3) rfl ?_); refine box_event ?hg (N := 3) ?hd (cs := #[.int .i64 a1_0, .int .i64 a1_1, .int .i64 a1_2]) (t := 61) ?hr ?_; (case hd => rfl); (case hg => rfl); (case hr => first | (go_simp; done) | (go_simp; rfl)); intro gb129 hg w5 hbox hb; have n0_ := Aside0.mk (blk_below (g := gb128) (o := .cells #[.int .i64 a0_0, .int .i64 a0_1, .int .i64 a0_2] 61 (0, 0)) (by (with_reducible repeat (first | refine blk_drewN ?_ _ | refine blk_drew ?_ | refine blk_alloc ?_ _)); exact BK128.out) hb); have n1_ := Aside0.mk (below_step (by repeat (first | (with_reducible first | exact HB.out | apply below_alloc | apply pw_below_drewN | apply below_drew1 | refine below_set ?_ GE128.out) | exact HB.out)) hb); have n2_ := Aside0.mk (hbox); have n3_ := Aside0.mk ((by rw [hg]; exact (below_size (by repeat (first | (with_reducible first | exact HB.out | apply below_alloc | apply pw_below_drewN | apply below_drew1 | refine below_set ?_ GE128.out) | exact HB.out))) : w.heap.size ≤ gb129)); have n4_ := Aside0.mk ((by rw [hg]; exact (below_size (by repeat (first | (with_reducible first | exact HB.out | apply below_alloc | apply pw_below_drewN | apply below_drew1 | refine below_set ?_ GE128.out) | exact HB.out))) : w.heap.size ≤ gb129)); have n5_ := Aside0.mk ((by rw [hg]; exact Nat.ne_of_lt (blk_lt (g := gb128) (o := .cells #[.int .i64 a0_0, .int .i64 a0_1, .int .i64 a0_2] 61 (0, 0)) (by (with_reducible repeat (first | refine blk_drewN ?_ _ | refine blk_drew ?_ | refine blk_alloc ?_ _)); exact BK128.out)) : gb128 ≠ gb129)); have n6_ := Aside0.mk ((by rw [hg]; exact Nat.ne_of_gt (blk_lt (g := gb128) (o := .cells #[.int .i64 a0_0, .int .i64 a0_1, .int .i64 a0_2] 61 (0, 0)) (by (with_reducible repeat (first | refine blk_drewN ?_ _ | refine blk_drew ?_ | refine blk_alloc ?_ _)); exact BK128.out)) : gb129 ≠ gb128)); clear BK128; clear HB; have BK128 := n0_; have HB := n1_; have BK129 := n2_; have GW129 := n3_; have GE129 := n4_; have NB128_129 := n5_; have NB129_128 := n6_; clear n0_ n1_ n2_ n3_ n4_ n5_ n6_; clear hb hbox hg; have hnb6 := NB128_129.out; have hnc6 := NB129_128.out; have hcz7_0 : w5.cell? ⟨gb128, 0, none⟩ = some (.int .i64 a0_0) := (blk_cell BK128.out 0).trans rfl; have hcz7_1 : w5.cell? ⟨gb128, 1, none⟩ = some (.int .i64 a0_1) := (blk_cell BK128.out 1).trans rfl; have hcz7_2 : w5.cell? ⟨gb128, 2, none⟩ = some (.int .i64 a0_2) := (blk_cell BK128.out 2).trans rfl; have hfz7_0 := blk_frozen BK128.out 0; have hfz7_1 := blk_frozen BK128.out 1; have hfz7_2 := blk_frozen BK128.out 2; have hcz8_0 : w5.cell? ⟨gb129, 0, none⟩ = some (.int .i64 a1_0) := (blk_cell BK129.out 0).trans rfl; have hcz8_1 : w5.cell? ⟨gb129, 1, none⟩ = some (.int .i64 a1_1) := (blk_cell BK129.out 1).trans rfl; have hcz8_2 : w5.cell? ⟨gb129, 2, none⟩ = some (.int .i64 a1_2) := (blk_cell BK129.out 2).trans rfl; have hfz8_0 := blk_frozen BK129.out 0; have hfz8_1 := blk_frozen BK129.out 1; have hfz8_2 := blk_frozen BK129.out 2) | ((with_reducible refine gate_callee (f := 34) rfl ?_); refine goesL_ (some 9) rfl rfl Try.func34 (by kernel_rfl) rfl #[.int .i64 a0_0, .int .i64 a1_0] rfl (by (try simp only [List.map_toArray, List.map_cons, List.map_nil]); first | done | rfl | (simp only [List.length_drop, List.length_take]; rfl)) ?_; (with_reducible refine (cmp_Compare_int.calls a0_0 a1_0 t130 _ A3.out).mono ?_); rintro e w' ⟨rfl, ⟨nd, rfl⟩⟩; refine ⟨_, rfl, ?_⟩))
  go_ret
  exact ⟨by first | rfl | (simp [errW_none, errW_some] <;> rfl) | (simp [*, errW_none, errW_some] <;> rfl), by repeat (first | (with_reducible first | exact HB.out | apply below_alloc | apply pw_below_drewN | apply below_drew1 | refine below_set ?_ GE128.out | refine below_set ?_ GE129.out) | exact HB.out)⟩

end Go.Proofs.Ytgmegmhioiljcaa.P
