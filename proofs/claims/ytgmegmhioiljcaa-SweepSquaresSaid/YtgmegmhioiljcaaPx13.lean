/- Printed by printx.py (wip/tool) out of the translation: plain functions that tell what the program answers, and the proofs that the program comes to these answers, for all arguments of their kinds. Lean checks it. -/
import Derived.Test.YtgmegmhioiljcaaPx0
import Derived.Test.YtgmegmhioiljcaaPx5
import Derived.Test.YtgmegmhioiljcaaPx6
namespace Go.Proofs.Ytgmegmhioiljcaa.P
open Go.RowKit Go.Proofs.YtgmegmhioiljcaaW.PrintWords Go.Proofs.YtgmegmhioiljcaaW.PrintLast Go.Proofs.YtgmegmhioiljcaaW.PrintMore
attribute [local go_sem] max2_int min2_int max_two min_two max_three min_three max_four min_four max_five min_five max_six min_six   -- for this text's walks alone
set_option linter.unusedVariables false
set_option linter.unusedSimpArgs false

/-! ### celluloidlaw17_SweepSquares: function 8 -/
mutual
def celluloidlaw17_SweepSquares.j0 : Nat → Int → Int → Int → Int → Int → List Int → Bool → Option (Bool)
  | 0, _, _, _, _, _, _, _ => none
  | k + 1, x11, x12, x13, x14, x19, x20, x89 => if x89 = true then (some false) else (celluloidlaw17_SweepSquares.l0 k x11 x12 x13 x14 x19 x20 (x20.length : Int) 0)
def celluloidlaw17_SweepSquares.l0 : Nat → Int → Int → Int → Int → Int → List Int → Int → Int → Option (Bool)
  | 0, _, _, _, _, _, _, _, _ => none
  | k + 1, x11, x12, x13, x14, x19, x20, x91, x92 => if x92 < x91 then (if (wrap64 (16 * (Int.tmod x92 32))) ≥ x11 then (if (wrap64 (16 * (Int.tmod x92 32))) < x13 then (if (wrap64 (16 * (wrap64 (Int.tdiv x92 32)))) ≥ x12 then (if (wrap64 (16 * (wrap64 (Int.tdiv x92 32)))) < x14 then (if 0 ≤ x92 then (if x92 < (x20.length : Int) then (if (rd x20 x92) = x19 then (if ((wrap64 (16 * (wrap64 (Int.tdiv x92 32)))) < x14) then (celluloidlaw17_SweepSquares.l0 k x11 x12 x13 x14 x19 x20 x91 (wrap64 (x92 + 1))) else (if (rd x20 x92) = 0 then (celluloidlaw17_SweepSquares.l0 k x11 x12 x13 x14 x19 x20 x91 (wrap64 (x92 + 1))) else (some false))) else (some false)) else (none)) else (none)) else (if ((wrap64 (16 * (wrap64 (Int.tdiv x92 32)))) < x14) then (celluloidlaw17_SweepSquares.l0 k x11 x12 x13 x14 x19 x20 x91 (wrap64 (x92 + 1))) else (if 0 ≤ x92 then (if x92 < (x20.length : Int) then (if (rd x20 x92) = 0 then (celluloidlaw17_SweepSquares.l0 k x11 x12 x13 x14 x19 x20 x91 (wrap64 (x92 + 1))) else (some false)) else (none)) else (none)))) else (if 0 ≤ x92 then (if x92 < (x20.length : Int) then (if (rd x20 x92) = 0 then (celluloidlaw17_SweepSquares.l0 k x11 x12 x13 x14 x19 x20 x91 (wrap64 (x92 + 1))) else (some false)) else (none)) else (none))) else (if 0 ≤ x92 then (if x92 < (x20.length : Int) then (if (rd x20 x92) = 0 then (celluloidlaw17_SweepSquares.l0 k x11 x12 x13 x14 x19 x20 x91 (wrap64 (x92 + 1))) else (some false)) else (none)) else (none))) else (if 0 ≤ x92 then (if x92 < (x20.length : Int) then (if (rd x20 x92) = 0 then (celluloidlaw17_SweepSquares.l0 k x11 x12 x13 x14 x19 x20 x91 (wrap64 (x92 + 1))) else (some false)) else (none)) else (none))) else ((celluloidlaw17_awake.f k).bind fun t301 => (some t301))
end
def celluloidlaw17_SweepSquares.f (k : Nat) (a0 : Int) (a1 : Int) (a2 : Int) (a3 : Int) (a4 : Int) : Option (Bool) := (sweep_Owners.f k (([(⟨(⟨wrap64 (16 * (wrap64 (Int.tmod a0 20))), wrap64 (16 * (wrap64 (Int.tmod a1 20)))⟩ : S25), (⟨wrap64 (16 * (wrap64 (Int.tmod a0 20))), wrap64 ((wrap64 (16 * (wrap64 (Int.tmod a1 20)))) + (wrap64 (16 * (wrap64 (Int.tmod a3 20)))))⟩ : S25), wrap64 (1 + (wrap64 (Int.tmod a4 255))), 0⟩ : S27), (⟨(⟨wrap64 (16 * (wrap64 (Int.tmod a0 20))), wrap64 ((wrap64 (16 * (wrap64 (Int.tmod a1 20)))) + (wrap64 (16 * (wrap64 (Int.tmod a3 20)))))⟩ : S25), (⟨wrap64 ((wrap64 (16 * (wrap64 (Int.tmod a0 20)))) + (wrap64 (16 * (wrap64 (Int.tmod a2 20))))), wrap64 ((wrap64 (16 * (wrap64 (Int.tmod a1 20)))) + (wrap64 (16 * (wrap64 (Int.tmod a3 20)))))⟩ : S25), wrap64 (1 + (wrap64 (Int.tmod a4 255))), 0⟩ : S27), (⟨(⟨wrap64 ((wrap64 (16 * (wrap64 (Int.tmod a0 20)))) + (wrap64 (16 * (wrap64 (Int.tmod a2 20))))), wrap64 ((wrap64 (16 * (wrap64 (Int.tmod a1 20)))) + (wrap64 (16 * (wrap64 (Int.tmod a3 20)))))⟩ : S25), (⟨wrap64 ((wrap64 (16 * (wrap64 (Int.tmod a0 20)))) + (wrap64 (16 * (wrap64 (Int.tmod a2 20))))), wrap64 (16 * (wrap64 (Int.tmod a1 20)))⟩ : S25), wrap64 (1 + (wrap64 (Int.tmod a4 255))), 0⟩ : S27), (⟨(⟨wrap64 ((wrap64 (16 * (wrap64 (Int.tmod a0 20)))) + (wrap64 (16 * (wrap64 (Int.tmod a2 20))))), wrap64 (16 * (wrap64 (Int.tmod a1 20)))⟩ : S25), (⟨wrap64 (16 * (wrap64 (Int.tmod a0 20))), wrap64 (16 * (wrap64 (Int.tmod a1 20)))⟩ : S25), wrap64 (1 + (wrap64 (Int.tmod a4 255))), 0⟩ : S27)] : List (S27))) 8 8).bind fun bt291 => (if bt291.2 = 0 then (celluloidlaw17_SweepSquares.j0 k (wrap64 (16 * (wrap64 (Int.tmod a0 20)))) (wrap64 (16 * (wrap64 (Int.tmod a1 20)))) (wrap64 ((wrap64 (16 * (wrap64 (Int.tmod a0 20)))) + (wrap64 (16 * (wrap64 (Int.tmod a2 20)))))) (wrap64 ((wrap64 (16 * (wrap64 (Int.tmod a1 20)))) + (wrap64 (16 * (wrap64 (Int.tmod a3 20)))))) (wrap64 (1 + (wrap64 (Int.tmod a4 255)))) bt291.1 ((bt291.1.length : Int) != 1024)) else (celluloidlaw17_SweepSquares.j0 k (wrap64 (16 * (wrap64 (Int.tmod a0 20)))) (wrap64 (16 * (wrap64 (Int.tmod a1 20)))) (wrap64 ((wrap64 (16 * (wrap64 (Int.tmod a0 20)))) + (wrap64 (16 * (wrap64 (Int.tmod a2 20)))))) (wrap64 ((wrap64 (16 * (wrap64 (Int.tmod a1 20)))) + (wrap64 (16 * (wrap64 (Int.tmod a3 20)))))) (wrap64 (1 + (wrap64 (Int.tmod a4 255)))) bt291.1 true))
theorem celluloidlaw17_SweepSquares.mono_l : ∀ k, (∀ y0 y1 y2 y3 y4 y5 y6, LeO (celluloidlaw17_SweepSquares.j0 k y0 y1 y2 y3 y4 y5 y6) (celluloidlaw17_SweepSquares.j0 (k + 1) y0 y1 y2 y3 y4 y5 y6)) ∧ (∀ y0 y1 y2 y3 y4 y5 y6 y7, LeO (celluloidlaw17_SweepSquares.l0 k y0 y1 y2 y3 y4 y5 y6 y7) (celluloidlaw17_SweepSquares.l0 (k + 1) y0 y1 y2 y3 y4 y5 y6 y7))
  | 0 => ⟨fun _ _ _ _ _ _ _ r h => by simp [celluloidlaw17_SweepSquares.j0] at h, fun _ _ _ _ _ _ _ _ r h => by simp [celluloidlaw17_SweepSquares.l0] at h⟩
  | k + 1 => by
    obtain ⟨ih0, ih1⟩ := celluloidlaw17_SweepSquares.mono_l k
    refine ⟨?_, ?_⟩
    · intro y0 y1 y2 y3 y4 y5 y6
      unfold celluloidlaw17_SweepSquares.j0
      repeat' first
      | (with_reducible exact ih0 _ _ _ _ _ _ _)
      | (with_reducible exact ih1 _ _ _ _ _ _ _ _)
      | (with_reducible exact celluloidlaw17_awake.mono _)
      | (with_reducible exact sweep_Owners.mono _ _ _ _)
      | (with_reducible exact LeO.refl _)
      | (with_reducible exact LeO.none _)
      | (with_reducible refine LeO.ite ?_ ?_)
      | (with_reducible refine LeO.bind ?_ (fun _ => ?_))
      | exact ih0 _ _ _ _ _ _ _
      | exact ih1 _ _ _ _ _ _ _ _
      | exact celluloidlaw17_awake.mono _
      | exact sweep_Owners.mono _ _ _ _
      | exact LeO.none _
      | refine LeO.ite ?_ ?_
      | refine LeO.bind ?_ (fun _ => ?_)
    · intro y0 y1 y2 y3 y4 y5 y6 y7
      unfold celluloidlaw17_SweepSquares.l0
      repeat' first
      | (with_reducible exact ih0 _ _ _ _ _ _ _)
      | (with_reducible exact ih1 _ _ _ _ _ _ _ _)
      | (with_reducible exact celluloidlaw17_awake.mono _)
      | (with_reducible exact sweep_Owners.mono _ _ _ _)
      | (with_reducible exact LeO.refl _)
      | (with_reducible exact LeO.none _)
      | (with_reducible refine LeO.ite ?_ ?_)
      | (with_reducible refine LeO.bind ?_ (fun _ => ?_))
      | exact ih0 _ _ _ _ _ _ _
      | exact ih1 _ _ _ _ _ _ _ _
      | exact celluloidlaw17_awake.mono _
      | exact sweep_Owners.mono _ _ _ _
      | exact LeO.none _
      | refine LeO.ite ?_ ?_
      | refine LeO.bind ?_ (fun _ => ?_)
theorem celluloidlaw17_SweepSquares.mono : ∀ a0 a1 a2 a3 a4 k, LeO (celluloidlaw17_SweepSquares.f k a0 a1 a2 a3 a4) (celluloidlaw17_SweepSquares.f (k + 1) a0 a1 a2 a3 a4) := by
  intro a0 a1 a2 a3 a4 k
  obtain ⟨ih0, ih1⟩ := celluloidlaw17_SweepSquares.mono_l k
  unfold celluloidlaw17_SweepSquares.f
  repeat' first
      | (with_reducible exact ih0 _ _ _ _ _ _ _)
      | (with_reducible exact ih1 _ _ _ _ _ _ _ _)
      | (with_reducible exact celluloidlaw17_awake.mono _)
      | (with_reducible exact sweep_Owners.mono _ _ _ _)
      | (with_reducible exact LeO.refl _)
      | (with_reducible exact LeO.none _)
      | (with_reducible refine LeO.ite ?_ ?_)
      | (with_reducible refine LeO.bind ?_ (fun _ => ?_))
      | exact ih0 _ _ _ _ _ _ _
      | exact ih1 _ _ _ _ _ _ _ _
      | exact celluloidlaw17_awake.mono _
      | exact sweep_Owners.mono _ _ _ _
      | exact LeO.none _
      | refine LeO.ite ?_ ?_
      | refine LeO.bind ?_ (fun _ => ?_)
set_option maxHeartbeats 8000000 in
set_option maxRecDepth 100000 in
theorem celluloidlaw17_SweepSquares.calls (k : Nat) (a0 : Int) (a1 : Int) (a2 : Int) (a3 : Int) (a4 : Int) (r : Bool) (w : World) (h : celluloidlaw17_SweepSquares.f k a0 a1 a2 a3 a4 = some r) :
    Calls Try.prog 8 #[.int .u8 a0, .int .u8 a1, .int .u8 a2, .int .u8 a3, .int .u8 a4] w fun e w' => e = .returned (.bool r) ∧ Below w.heap.size w w' := by
  have hu25 := Try.underlying25
  have hu27 := Try.underlying27
  have HB := Aside0.mk (Below.refl w.heap.size w)
  have H : ((sweep_Owners.f k (([(⟨(⟨wrap64 (16 * (wrap64 (Int.tmod a0 20))), wrap64 (16 * (wrap64 (Int.tmod a1 20)))⟩ : S25), (⟨wrap64 (16 * (wrap64 (Int.tmod a0 20))), wrap64 ((wrap64 (16 * (wrap64 (Int.tmod a1 20)))) + (wrap64 (16 * (wrap64 (Int.tmod a3 20)))))⟩ : S25), wrap64 (1 + (wrap64 (Int.tmod a4 255))), 0⟩ : S27), (⟨(⟨wrap64 (16 * (wrap64 (Int.tmod a0 20))), wrap64 ((wrap64 (16 * (wrap64 (Int.tmod a1 20)))) + (wrap64 (16 * (wrap64 (Int.tmod a3 20)))))⟩ : S25), (⟨wrap64 ((wrap64 (16 * (wrap64 (Int.tmod a0 20)))) + (wrap64 (16 * (wrap64 (Int.tmod a2 20))))), wrap64 ((wrap64 (16 * (wrap64 (Int.tmod a1 20)))) + (wrap64 (16 * (wrap64 (Int.tmod a3 20)))))⟩ : S25), wrap64 (1 + (wrap64 (Int.tmod a4 255))), 0⟩ : S27), (⟨(⟨wrap64 ((wrap64 (16 * (wrap64 (Int.tmod a0 20)))) + (wrap64 (16 * (wrap64 (Int.tmod a2 20))))), wrap64 ((wrap64 (16 * (wrap64 (Int.tmod a1 20)))) + (wrap64 (16 * (wrap64 (Int.tmod a3 20)))))⟩ : S25), (⟨wrap64 ((wrap64 (16 * (wrap64 (Int.tmod a0 20)))) + (wrap64 (16 * (wrap64 (Int.tmod a2 20))))), wrap64 (16 * (wrap64 (Int.tmod a1 20)))⟩ : S25), wrap64 (1 + (wrap64 (Int.tmod a4 255))), 0⟩ : S27), (⟨(⟨wrap64 ((wrap64 (16 * (wrap64 (Int.tmod a0 20)))) + (wrap64 (16 * (wrap64 (Int.tmod a2 20))))), wrap64 (16 * (wrap64 (Int.tmod a1 20)))⟩ : S25), (⟨wrap64 (16 * (wrap64 (Int.tmod a0 20))), wrap64 (16 * (wrap64 (Int.tmod a1 20)))⟩ : S25), wrap64 (1 + (wrap64 (Int.tmod a4 255))), 0⟩ : S27)] : List (S27))) 8 8).bind fun bt291 => (if bt291.2 = 0 then (celluloidlaw17_SweepSquares.j0 k (wrap64 (16 * (wrap64 (Int.tmod a0 20)))) (wrap64 (16 * (wrap64 (Int.tmod a1 20)))) (wrap64 ((wrap64 (16 * (wrap64 (Int.tmod a0 20)))) + (wrap64 (16 * (wrap64 (Int.tmod a2 20)))))) (wrap64 ((wrap64 (16 * (wrap64 (Int.tmod a1 20)))) + (wrap64 (16 * (wrap64 (Int.tmod a3 20)))))) (wrap64 (1 + (wrap64 (Int.tmod a4 255)))) bt291.1 ((bt291.1.length : Int) != 1024)) else (celluloidlaw17_SweepSquares.j0 k (wrap64 (16 * (wrap64 (Int.tmod a0 20)))) (wrap64 (16 * (wrap64 (Int.tmod a1 20)))) (wrap64 ((wrap64 (16 * (wrap64 (Int.tmod a0 20)))) + (wrap64 (16 * (wrap64 (Int.tmod a2 20)))))) (wrap64 ((wrap64 (16 * (wrap64 (Int.tmod a1 20)))) + (wrap64 (16 * (wrap64 (Int.tmod a3 20)))))) (wrap64 (1 + (wrap64 (Int.tmod a4 255)))) bt291.1 true))) = some r := h
  clear h
  obtain ⟨y288, hy288⟩ : ∃ y_ : List (S27), y_ = (([(⟨(⟨wrap64 (16 * (wrap64 (Int.tmod a0 20))), wrap64 (16 * (wrap64 (Int.tmod a1 20)))⟩ : S25), (⟨wrap64 (16 * (wrap64 (Int.tmod a0 20))), wrap64 ((wrap64 (16 * (wrap64 (Int.tmod a1 20)))) + (wrap64 (16 * (wrap64 (Int.tmod a3 20)))))⟩ : S25), wrap64 (1 + (wrap64 (Int.tmod a4 255))), 0⟩ : S27), (⟨(⟨wrap64 (16 * (wrap64 (Int.tmod a0 20))), wrap64 ((wrap64 (16 * (wrap64 (Int.tmod a1 20)))) + (wrap64 (16 * (wrap64 (Int.tmod a3 20)))))⟩ : S25), (⟨wrap64 ((wrap64 (16 * (wrap64 (Int.tmod a0 20)))) + (wrap64 (16 * (wrap64 (Int.tmod a2 20))))), wrap64 ((wrap64 (16 * (wrap64 (Int.tmod a1 20)))) + (wrap64 (16 * (wrap64 (Int.tmod a3 20)))))⟩ : S25), wrap64 (1 + (wrap64 (Int.tmod a4 255))), 0⟩ : S27), (⟨(⟨wrap64 ((wrap64 (16 * (wrap64 (Int.tmod a0 20)))) + (wrap64 (16 * (wrap64 (Int.tmod a2 20))))), wrap64 ((wrap64 (16 * (wrap64 (Int.tmod a1 20)))) + (wrap64 (16 * (wrap64 (Int.tmod a3 20)))))⟩ : S25), (⟨wrap64 ((wrap64 (16 * (wrap64 (Int.tmod a0 20)))) + (wrap64 (16 * (wrap64 (Int.tmod a2 20))))), wrap64 (16 * (wrap64 (Int.tmod a1 20)))⟩ : S25), wrap64 (1 + (wrap64 (Int.tmod a4 255))), 0⟩ : S27), (⟨(⟨wrap64 ((wrap64 (16 * (wrap64 (Int.tmod a0 20)))) + (wrap64 (16 * (wrap64 (Int.tmod a2 20))))), wrap64 (16 * (wrap64 (Int.tmod a1 20)))⟩ : S25), (⟨wrap64 (16 * (wrap64 (Int.tmod a0 20))), wrap64 (16 * (wrap64 (Int.tmod a1 20)))⟩ : S25), wrap64 (1 + (wrap64 (Int.tmod a4 255))), 0⟩ : S27)] : List (S27))) := ⟨_, rfl⟩
  replace H : ((sweep_Owners.f k y288 8 8).bind fun bt291 => (if bt291.2 = 0 then (celluloidlaw17_SweepSquares.j0 k (wrap64 (16 * (wrap64 (Int.tmod a0 20)))) (wrap64 (16 * (wrap64 (Int.tmod a1 20)))) (wrap64 ((wrap64 (16 * (wrap64 (Int.tmod a0 20)))) + (wrap64 (16 * (wrap64 (Int.tmod a2 20)))))) (wrap64 ((wrap64 (16 * (wrap64 (Int.tmod a1 20)))) + (wrap64 (16 * (wrap64 (Int.tmod a3 20)))))) (wrap64 (1 + (wrap64 (Int.tmod a4 255)))) bt291.1 ((bt291.1.length : Int) != 1024)) else (celluloidlaw17_SweepSquares.j0 k (wrap64 (16 * (wrap64 (Int.tmod a0 20)))) (wrap64 (16 * (wrap64 (Int.tmod a1 20)))) (wrap64 ((wrap64 (16 * (wrap64 (Int.tmod a0 20)))) + (wrap64 (16 * (wrap64 (Int.tmod a2 20)))))) (wrap64 ((wrap64 (16 * (wrap64 (Int.tmod a1 20)))) + (wrap64 (16 * (wrap64 (Int.tmod a3 20)))))) (wrap64 (1 + (wrap64 (Int.tmod a4 255)))) bt291.1 true))) = some r := by first | (rw [hy288]; with_reducible exact H) | (have H2_ := (Option.bind_some _ _).symm.trans H; rw [hy288]; with_reducible exact H2_) | (have H2_ := (Option.bind_some _ _).symm.trans H; with_reducible exact H2_) | with_reducible exact H | (rw [hy288]; exact H) | exact H
  have Ny288 := Aside0.mk hy288
  clear hy288
  replace H := Option.bind_eq_some_iff.mp H
  obtain ⟨⟨t291, t292⟩, A60, H⟩ := H
  replace H : (if t292 = 0 then (celluloidlaw17_SweepSquares.j0 k (wrap64 (16 * (wrap64 (Int.tmod a0 20)))) (wrap64 (16 * (wrap64 (Int.tmod a1 20)))) (wrap64 ((wrap64 (16 * (wrap64 (Int.tmod a0 20)))) + (wrap64 (16 * (wrap64 (Int.tmod a2 20)))))) (wrap64 ((wrap64 (16 * (wrap64 (Int.tmod a1 20)))) + (wrap64 (16 * (wrap64 (Int.tmod a3 20)))))) (wrap64 (1 + (wrap64 (Int.tmod a4 255)))) t291 ((t291.length : Int) != 1024)) else (celluloidlaw17_SweepSquares.j0 k (wrap64 (16 * (wrap64 (Int.tmod a0 20)))) (wrap64 (16 * (wrap64 (Int.tmod a1 20)))) (wrap64 ((wrap64 (16 * (wrap64 (Int.tmod a0 20)))) + (wrap64 (16 * (wrap64 (Int.tmod a2 20)))))) (wrap64 ((wrap64 (16 * (wrap64 (Int.tmod a1 20)))) + (wrap64 (16 * (wrap64 (Int.tmod a3 20)))))) (wrap64 (1 + (wrap64 (Int.tmod a4 255)))) t291 true)) = some r := H
  have A6 := Aside0.mk A60
  clear A60
  have HC7 := Aside0.mk H
  clear H
  go_enter Try.func8, Try.ntmps8
  go_upto_region 6 with (first | ((with_reducible refine gate_dst (N := 15) rfl ?_); (try (refine gate_guard (by rfl) ?_; dsimp only)); refine box_event ?hg (N := 15) ?hd (cs := #[.int .i64 0, .int .i64 0]) (t := 25) ?hr ?_; (case hd => rfl); (case hg => rfl); (case hr => first | (go_simp; done) | (go_simp; rfl)); intro gb284 hg w8 hbox hb; have n0_ := Aside0.mk (below_step (by repeat (first | (with_reducible first | exact HB.out | apply below_alloc | apply pw_below_drewN | apply below_drew1) | exact HB.out)) hb); have n1_ := Aside0.mk (hbox); have n2_ := Aside0.mk ((by rw [hg]; exact (below_size (by repeat (first | (with_reducible first | exact HB.out | apply below_alloc | apply pw_below_drewN | apply below_drew1) | exact HB.out))) : w.heap.size ≤ gb284)); have n3_ := Aside0.mk ((by rw [hg]; exact (below_size (by repeat (first | (with_reducible first | exact HB.out | apply below_alloc | apply pw_below_drewN | apply below_drew1) | exact HB.out))) : w.heap.size ≤ gb284)); clear HB; have HB := n0_; have BK284 := n1_; have GW284 := n2_; have GE284 := n3_; clear n0_ n1_ n2_ n3_; clear hb hbox hg) | ((with_reducible refine gate_dst (N := 16) rfl ?_); (try (refine gate_guard (by rfl) ?_; dsimp only)); refine box_event ?hg (N := 16) ?hd (cs := #[.int .i64 0, .int .i64 0]) (t := 25) ?hr ?_; (case hd => rfl); (case hg => rfl); (case hr => first | (go_simp; done) | (go_simp; rfl)); intro gb285 hg w9 hbox hb; have n0_ := Aside0.mk (blk_below (g := gb284) (o := .cells #[.int .i64 0, .int .i64 0] 25 (0, 0)) (by (with_reducible repeat (first | refine blk_drewN ?_ _ | refine blk_drew ?_ | refine blk_alloc ?_ _)); exact BK284.out) hb); have n1_ := Aside0.mk (below_step (by repeat (first | (with_reducible first | exact HB.out | apply below_alloc | apply pw_below_drewN | apply below_drew1 | refine below_set ?_ GE284.out) | exact HB.out)) hb); have n2_ := Aside0.mk (hbox); have n3_ := Aside0.mk ((by rw [hg]; exact (below_size (by repeat (first | (with_reducible first | exact HB.out | apply below_alloc | apply pw_below_drewN | apply below_drew1 | refine below_set ?_ GE284.out) | exact HB.out))) : w.heap.size ≤ gb285)); have n4_ := Aside0.mk ((by rw [hg]; exact (below_size (by repeat (first | (with_reducible first | exact HB.out | apply below_alloc | apply pw_below_drewN | apply below_drew1 | refine below_set ?_ GE284.out) | exact HB.out))) : w.heap.size ≤ gb285)); have n5_ := Aside0.mk ((by rw [hg]; exact Nat.ne_of_lt (blk_lt (g := gb284) (o := .cells #[.int .i64 0, .int .i64 0] 25 (0, 0)) (by (with_reducible repeat (first | refine blk_drewN ?_ _ | refine blk_drew ?_ | refine blk_alloc ?_ _)); exact BK284.out)) : gb284 ≠ gb285)); have n6_ := Aside0.mk ((by rw [hg]; exact Nat.ne_of_gt (blk_lt (g := gb284) (o := .cells #[.int .i64 0, .int .i64 0] 25 (0, 0)) (by (with_reducible repeat (first | refine blk_drewN ?_ _ | refine blk_drew ?_ | refine blk_alloc ?_ _)); exact BK284.out)) : gb285 ≠ gb284)); clear BK284; clear HB; have BK284 := n0_; have HB := n1_; have BK285 := n2_; have GW285 := n3_; have GE285 := n4_; have NB284_285 := n5_; have NB285_284 := n6_; clear n0_ n1_ n2_ n3_ n4_ n5_ n6_; clear hb hbox hg) | ((with_reducible refine gate_dst (N := 17) rfl ?_); (try (refine gate_guard (by rfl) ?_; dsimp only)); refine box_event ?hg (N := 17) ?hd (cs := #[.int .i64 0, .int .i64 0]) (t := 25) ?hr ?_; (case hd => rfl); (case hg => rfl); (case hr => first | (go_simp; done) | (go_simp; rfl)); intro gb286 hg w10 hbox hb; have n0_ := Aside0.mk (blk_below (g := gb284) (o := .cells #[.int .i64 0, .int .i64 0] 25 (0, 0)) (by (with_reducible repeat (first | refine blk_drewN ?_ _ | refine blk_drew ?_ | refine blk_alloc ?_ _)); exact BK284.out) hb); have n1_ := Aside0.mk (blk_below (g := gb285) (o := .cells #[.int .i64 0, .int .i64 0] 25 (0, 0)) (by (with_reducible repeat (first | refine blk_drewN ?_ _ | refine blk_drew ?_ | refine blk_alloc ?_ _)); exact BK285.out) hb); have n2_ := Aside0.mk (below_step (by repeat (first | (with_reducible first | exact HB.out | apply below_alloc | apply pw_below_drewN | apply below_drew1 | refine below_set ?_ GE284.out | refine below_set ?_ GE285.out) | exact HB.out)) hb); have n3_ := Aside0.mk (hbox); have n4_ := Aside0.mk ((by rw [hg]; exact (below_size (by repeat (first | (with_reducible first | exact HB.out | apply below_alloc | apply pw_below_drewN | apply below_drew1 | refine below_set ?_ GE284.out | refine below_set ?_ GE285.out) | exact HB.out))) : w.heap.size ≤ gb286)); have n5_ := Aside0.mk ((by rw [hg]; exact (below_size (by repeat (first | (with_reducible first | exact HB.out | apply below_alloc | apply pw_below_drewN | apply below_drew1 | refine below_set ?_ GE284.out | refine below_set ?_ GE285.out) | exact HB.out))) : w.heap.size ≤ gb286)); have n6_ := Aside0.mk ((by rw [hg]; exact Nat.ne_of_lt (blk_lt (g := gb284) (o := .cells #[.int .i64 0, .int .i64 0] 25 (0, 0)) (by (with_reducible repeat (first | refine blk_drewN ?_ _ | refine blk_drew ?_ | refine blk_alloc ?_ _)); exact BK284.out)) : gb284 ≠ gb286)); have n7_ := Aside0.mk ((by rw [hg]; exact Nat.ne_of_gt (blk_lt (g := gb284) (o := .cells #[.int .i64 0, .int .i64 0] 25 (0, 0)) (by (with_reducible repeat (first | refine blk_drewN ?_ _ | refine blk_drew ?_ | refine blk_alloc ?_ _)); exact BK284.out)) : gb286 ≠ gb284)); have n8_ := Aside0.mk ((by rw [hg]; exact Nat.ne_of_lt (blk_lt (g := gb285) (o := .cells #[.int .i64 0, .int .i64 0] 25 (0, 0)) (by (with_reducible repeat (first | refine blk_drewN ?_ _ | refine blk_drew ?_ | refine blk_alloc ?_ _)); exact BK285.out)) : gb285 ≠ gb286)); have n9_ := Aside0.mk ((by rw [hg]; exact Nat.ne_of_gt (blk_lt (g := gb285) (o := .cells #[.int .i64 0, .int .i64 0] 25 (0, 0)) (by (with_reducible repeat (first | refine blk_drewN ?_ _ | refine blk_drew ?_ | refine blk_alloc ?_ _)); exact BK285.out)) : gb286 ≠ gb285)); clear BK284; clear BK285; clear HB; have BK284 := n0_; have BK285 := n1_; have HB := n2_; have BK286 := n3_; have GW286 := n4_; have GE286 := n5_; have NB284_286 := n6_; have NB286_284 := n7_; have NB285_286 := n8_; have NB286_285 := n9_; clear n0_ n1_ n2_ n3_ n4_ n5_ n6_ n7_ n8_ n9_; clear hb hbox hg) | ((with_reducible refine gate_dst (N := 18) rfl ?_); (try (refine gate_guard (by rfl) ?_; dsimp only)); refine box_event ?hg (N := 18) ?hd (cs := #[.int .i64 0, .int .i64 0]) (t := 25) ?hr ?_; (case hd => rfl); (case hg => rfl); (case hr => first | (go_simp; done) | (go_simp; rfl)); intro gb287 hg w11 hbox hb; have n0_ := Aside0.mk (blk_below (g := gb284) (o := .cells #[.int .i64 0, .int .i64 0] 25 (0, 0)) (by (with_reducible repeat (first | refine blk_drewN ?_ _ | refine blk_drew ?_ | refine blk_alloc ?_ _)); exact BK284.out) hb); have n1_ := Aside0.mk (blk_below (g := gb285) (o := .cells #[.int .i64 0, .int .i64 0] 25 (0, 0)) (by (with_reducible repeat (first | refine blk_drewN ?_ _ | refine blk_drew ?_ | refine blk_alloc ?_ _)); exact BK285.out) hb); have n2_ := Aside0.mk (blk_below (g := gb286) (o := .cells #[.int .i64 0, .int .i64 0] 25 (0, 0)) (by (with_reducible repeat (first | refine blk_drewN ?_ _ | refine blk_drew ?_ | refine blk_alloc ?_ _)); exact BK286.out) hb); have n3_ := Aside0.mk (below_step (by repeat (first | (with_reducible first | exact HB.out | apply below_alloc | apply pw_below_drewN | apply below_drew1 | refine below_set ?_ GE284.out | refine below_set ?_ GE285.out | refine below_set ?_ GE286.out) | exact HB.out)) hb); have n4_ := Aside0.mk (hbox); have n5_ := Aside0.mk ((by rw [hg]; exact (below_size (by repeat (first | (with_reducible first | exact HB.out | apply below_alloc | apply pw_below_drewN | apply below_drew1 | refine below_set ?_ GE284.out | refine below_set ?_ GE285.out | refine below_set ?_ GE286.out) | exact HB.out))) : w.heap.size ≤ gb287)); have n6_ := Aside0.mk ((by rw [hg]; exact (below_size (by repeat (first | (with_reducible first | exact HB.out | apply below_alloc | apply pw_below_drewN | apply below_drew1 | refine below_set ?_ GE284.out | refine below_set ?_ GE285.out | refine below_set ?_ GE286.out) | exact HB.out))) : w.heap.size ≤ gb287)); have n7_ := Aside0.mk ((by rw [hg]; exact Nat.ne_of_lt (blk_lt (g := gb284) (o := .cells #[.int .i64 0, .int .i64 0] 25 (0, 0)) (by (with_reducible repeat (first | refine blk_drewN ?_ _ | refine blk_drew ?_ | refine blk_alloc ?_ _)); exact BK284.out)) : gb284 ≠ gb287)); have n8_ := Aside0.mk ((by rw [hg]; exact Nat.ne_of_gt (blk_lt (g := gb284) (o := .cells #[.int .i64 0, .int .i64 0] 25 (0, 0)) (by (with_reducible repeat (first | refine blk_drewN ?_ _ | refine blk_drew ?_ | refine blk_alloc ?_ _)); exact BK284.out)) : gb287 ≠ gb284)); have n9_ := Aside0.mk ((by rw [hg]; exact Nat.ne_of_lt (blk_lt (g := gb285) (o := .cells #[.int .i64 0, .int .i64 0] 25 (0, 0)) (by (with_reducible repeat (first | refine blk_drewN ?_ _ | refine blk_drew ?_ | refine blk_alloc ?_ _)); exact BK285.out)) : gb285 ≠ gb287)); have n10_ := Aside0.mk ((by rw [hg]; exact Nat.ne_of_gt (blk_lt (g := gb285) (o := .cells #[.int .i64 0, .int .i64 0] 25 (0, 0)) (by (with_reducible repeat (first | refine blk_drewN ?_ _ | refine blk_drew ?_ | refine blk_alloc ?_ _)); exact BK285.out)) : gb287 ≠ gb285)); have n11_ := Aside0.mk ((by rw [hg]; exact Nat.ne_of_lt (blk_lt (g := gb286) (o := .cells #[.int .i64 0, .int .i64 0] 25 (0, 0)) (by (with_reducible repeat (first | refine blk_drewN ?_ _ | refine blk_drew ?_ | refine blk_alloc ?_ _)); exact BK286.out)) : gb286 ≠ gb287)); have n12_ := Aside0.mk ((by rw [hg]; exact Nat.ne_of_gt (blk_lt (g := gb286) (o := .cells #[.int .i64 0, .int .i64 0] 25 (0, 0)) (by (with_reducible repeat (first | refine blk_drewN ?_ _ | refine blk_drew ?_ | refine blk_alloc ?_ _)); exact BK286.out)) : gb287 ≠ gb286)); clear BK284; clear BK285; clear BK286; clear HB; have BK284 := n0_; have BK285 := n1_; have BK286 := n2_; have HB := n3_; have BK287 := n4_; have GW287 := n5_; have GE287 := n6_; have NB284_287 := n7_; have NB287_284 := n8_; have NB285_287 := n9_; have NB287_285 := n10_; have NB286_287 := n11_; have NB287_286 := n12_; clear n0_ n1_ n2_ n3_ n4_ n5_ n6_ n7_ n8_ n9_ n10_ n11_ n12_; clear hb hbox hg; have hnb12 := NB284_285.out; have hnc12 := NB285_284.out; have hnb13 := NB284_286.out; have hnc13 := NB286_284.out; have hnb14 := NB284_287.out; have hnc14 := NB287_284.out; have hcz15_0 : w11.cell? ⟨gb284, 0, none⟩ = some (.int .i64 0) := (blk_cell BK284.out 0).trans rfl; have hcz15_1 : w11.cell? ⟨gb284, 1, none⟩ = some (.int .i64 0) := (blk_cell BK284.out 1).trans rfl; have hfz15_0 := blk_frozen BK284.out 0; have hfz15_1 := blk_frozen BK284.out 1; have hnb16 := NB285_286.out; have hnc16 := NB286_285.out; have hnb17 := NB285_287.out; have hnc17 := NB287_285.out; have hcz18_0 : w11.cell? ⟨gb285, 0, none⟩ = some (.int .i64 0) := (blk_cell BK285.out 0).trans rfl; have hcz18_1 : w11.cell? ⟨gb285, 1, none⟩ = some (.int .i64 0) := (blk_cell BK285.out 1).trans rfl; have hfz18_0 := blk_frozen BK285.out 0; have hfz18_1 := blk_frozen BK285.out 1; have hnb19 := NB286_287.out; have hnc19 := NB287_286.out; have hcz20_0 : w11.cell? ⟨gb286, 0, none⟩ = some (.int .i64 0) := (blk_cell BK286.out 0).trans rfl; have hcz20_1 : w11.cell? ⟨gb286, 1, none⟩ = some (.int .i64 0) := (blk_cell BK286.out 1).trans rfl; have hfz20_0 := blk_frozen BK286.out 0; have hfz20_1 := blk_frozen BK286.out 1; have hcz21_0 : w11.cell? ⟨gb287, 0, none⟩ = some (.int .i64 0) := (blk_cell BK287.out 0).trans rfl; have hcz21_1 : w11.cell? ⟨gb287, 1, none⟩ = some (.int .i64 0) := (blk_cell BK287.out 1).trans rfl; have hfz21_0 := blk_frozen BK287.out 0; have hfz21_1 := blk_frozen BK287.out 1) | ((with_reducible refine gate_dst (N := 79) rfl ?_); (try (refine gate_guard (by rfl) ?_; dsimp only)); refine Kd.R_lit k27 _ 27 ?hg (N := 79) ?hd (xs := ([(⟨(⟨wrap64 (16 * (wrap64 (Int.tmod a0 20))), wrap64 (16 * (wrap64 (Int.tmod a1 20)))⟩ : S25), (⟨wrap64 (16 * (wrap64 (Int.tmod a0 20))), wrap64 ((wrap64 (16 * (wrap64 (Int.tmod a1 20)))) + (wrap64 (16 * (wrap64 (Int.tmod a3 20)))))⟩ : S25), wrap64 (1 + (wrap64 (Int.tmod a4 255))), 0⟩ : S27), (⟨(⟨wrap64 (16 * (wrap64 (Int.tmod a0 20))), wrap64 ((wrap64 (16 * (wrap64 (Int.tmod a1 20)))) + (wrap64 (16 * (wrap64 (Int.tmod a3 20)))))⟩ : S25), (⟨wrap64 ((wrap64 (16 * (wrap64 (Int.tmod a0 20)))) + (wrap64 (16 * (wrap64 (Int.tmod a2 20))))), wrap64 ((wrap64 (16 * (wrap64 (Int.tmod a1 20)))) + (wrap64 (16 * (wrap64 (Int.tmod a3 20)))))⟩ : S25), wrap64 (1 + (wrap64 (Int.tmod a4 255))), 0⟩ : S27), (⟨(⟨wrap64 ((wrap64 (16 * (wrap64 (Int.tmod a0 20)))) + (wrap64 (16 * (wrap64 (Int.tmod a2 20))))), wrap64 ((wrap64 (16 * (wrap64 (Int.tmod a1 20)))) + (wrap64 (16 * (wrap64 (Int.tmod a3 20)))))⟩ : S25), (⟨wrap64 ((wrap64 (16 * (wrap64 (Int.tmod a0 20)))) + (wrap64 (16 * (wrap64 (Int.tmod a2 20))))), wrap64 (16 * (wrap64 (Int.tmod a1 20)))⟩ : S25), wrap64 (1 + (wrap64 (Int.tmod a4 255))), 0⟩ : S27), (⟨(⟨wrap64 ((wrap64 (16 * (wrap64 (Int.tmod a0 20)))) + (wrap64 (16 * (wrap64 (Int.tmod a2 20))))), wrap64 (16 * (wrap64 (Int.tmod a1 20)))⟩ : S25), (⟨wrap64 (16 * (wrap64 (Int.tmod a0 20))), wrap64 (16 * (wrap64 (Int.tmod a1 20)))⟩ : S25), wrap64 (1 + (wrap64 (Int.tmod a4 255))), 0⟩ : S27)] : List (S27))) (inner := [.int .i64 (wrap64 (16 * (wrap64 (Int.tmod a0 20)))), .int .i64 (wrap64 (16 * (wrap64 (Int.tmod a1 20)))), .int .i64 (wrap64 (16 * (wrap64 (Int.tmod a0 20)))), .int .i64 (wrap64 ((wrap64 (16 * (wrap64 (Int.tmod a1 20)))) + (wrap64 (16 * (wrap64 (Int.tmod a3 20)))))), .int .i64 (wrap64 (1 + (wrap64 (Int.tmod a4 255)))), .int .i64 0, .int .i64 (wrap64 (16 * (wrap64 (Int.tmod a0 20)))), .int .i64 (wrap64 ((wrap64 (16 * (wrap64 (Int.tmod a1 20)))) + (wrap64 (16 * (wrap64 (Int.tmod a3 20)))))), .int .i64 (wrap64 ((wrap64 (16 * (wrap64 (Int.tmod a0 20)))) + (wrap64 (16 * (wrap64 (Int.tmod a2 20)))))), .int .i64 (wrap64 ((wrap64 (16 * (wrap64 (Int.tmod a1 20)))) + (wrap64 (16 * (wrap64 (Int.tmod a3 20)))))), .int .i64 (wrap64 (1 + (wrap64 (Int.tmod a4 255)))), .int .i64 0, .int .i64 (wrap64 ((wrap64 (16 * (wrap64 (Int.tmod a0 20)))) + (wrap64 (16 * (wrap64 (Int.tmod a2 20)))))), .int .i64 (wrap64 ((wrap64 (16 * (wrap64 (Int.tmod a1 20)))) + (wrap64 (16 * (wrap64 (Int.tmod a3 20)))))), .int .i64 (wrap64 ((wrap64 (16 * (wrap64 (Int.tmod a0 20)))) + (wrap64 (16 * (wrap64 (Int.tmod a2 20)))))), .int .i64 (wrap64 (16 * (wrap64 (Int.tmod a1 20)))), .int .i64 (wrap64 (1 + (wrap64 (Int.tmod a4 255)))), .int .i64 0, .int .i64 (wrap64 ((wrap64 (16 * (wrap64 (Int.tmod a0 20)))) + (wrap64 (16 * (wrap64 (Int.tmod a2 20)))))), .int .i64 (wrap64 (16 * (wrap64 (Int.tmod a1 20)))), .int .i64 (wrap64 (16 * (wrap64 (Int.tmod a0 20)))), .int .i64 (wrap64 (16 * (wrap64 (Int.tmod a1 20)))), .int .i64 (wrap64 (1 + (wrap64 (Int.tmod a4 255)))), .int .i64 0]) (ok := fun _ => True) (okp := fun _ => True) ?hr ?hp (fun _ hk => hk) trivial (Below.refl _ _) (Nat.le_refl _) (by simp) ?_; (case hd => rfl); (case hg => rfl); (case hr => first | (go_simp; done) | (go_simp; rfl)); (case hp => exact (Reps.c6 (show Kd.M k27 _ _ _ (⟨(⟨wrap64 (16 * (wrap64 (Int.tmod a0 20))), wrap64 (16 * (wrap64 (Int.tmod a1 20)))⟩ : S25), (⟨wrap64 (16 * (wrap64 (Int.tmod a0 20))), wrap64 ((wrap64 (16 * (wrap64 (Int.tmod a1 20)))) + (wrap64 (16 * (wrap64 (Int.tmod a3 20)))))⟩ : S25), wrap64 (1 + (wrap64 (Int.tmod a4 255))), 0⟩ : S27) [.int .i64 (wrap64 (16 * (wrap64 (Int.tmod a0 20)))), .int .i64 (wrap64 (16 * (wrap64 (Int.tmod a1 20)))), .int .i64 (wrap64 (16 * (wrap64 (Int.tmod a0 20)))), .int .i64 (wrap64 ((wrap64 (16 * (wrap64 (Int.tmod a1 20)))) + (wrap64 (16 * (wrap64 (Int.tmod a3 20)))))), .int .i64 (wrap64 (1 + (wrap64 (Int.tmod a4 255)))), .int .i64 0] from (k27_mkM _ _ _ (⟨(⟨wrap64 (16 * (wrap64 (Int.tmod a0 20))), wrap64 (16 * (wrap64 (Int.tmod a1 20)))⟩ : S25), (⟨wrap64 (16 * (wrap64 (Int.tmod a0 20))), wrap64 ((wrap64 (16 * (wrap64 (Int.tmod a1 20)))) + (wrap64 (16 * (wrap64 (Int.tmod a3 20)))))⟩ : S25), wrap64 (1 + (wrap64 (Int.tmod a4 255))), 0⟩ : S27) )) (Reps.c6 (show Kd.M k27 _ _ _ (⟨(⟨wrap64 (16 * (wrap64 (Int.tmod a0 20))), wrap64 ((wrap64 (16 * (wrap64 (Int.tmod a1 20)))) + (wrap64 (16 * (wrap64 (Int.tmod a3 20)))))⟩ : S25), (⟨wrap64 ((wrap64 (16 * (wrap64 (Int.tmod a0 20)))) + (wrap64 (16 * (wrap64 (Int.tmod a2 20))))), wrap64 ((wrap64 (16 * (wrap64 (Int.tmod a1 20)))) + (wrap64 (16 * (wrap64 (Int.tmod a3 20)))))⟩ : S25), wrap64 (1 + (wrap64 (Int.tmod a4 255))), 0⟩ : S27) [.int .i64 (wrap64 (16 * (wrap64 (Int.tmod a0 20)))), .int .i64 (wrap64 ((wrap64 (16 * (wrap64 (Int.tmod a1 20)))) + (wrap64 (16 * (wrap64 (Int.tmod a3 20)))))), .int .i64 (wrap64 ((wrap64 (16 * (wrap64 (Int.tmod a0 20)))) + (wrap64 (16 * (wrap64 (Int.tmod a2 20)))))), .int .i64 (wrap64 ((wrap64 (16 * (wrap64 (Int.tmod a1 20)))) + (wrap64 (16 * (wrap64 (Int.tmod a3 20)))))), .int .i64 (wrap64 (1 + (wrap64 (Int.tmod a4 255)))), .int .i64 0] from (k27_mkM _ _ _ (⟨(⟨wrap64 (16 * (wrap64 (Int.tmod a0 20))), wrap64 ((wrap64 (16 * (wrap64 (Int.tmod a1 20)))) + (wrap64 (16 * (wrap64 (Int.tmod a3 20)))))⟩ : S25), (⟨wrap64 ((wrap64 (16 * (wrap64 (Int.tmod a0 20)))) + (wrap64 (16 * (wrap64 (Int.tmod a2 20))))), wrap64 ((wrap64 (16 * (wrap64 (Int.tmod a1 20)))) + (wrap64 (16 * (wrap64 (Int.tmod a3 20)))))⟩ : S25), wrap64 (1 + (wrap64 (Int.tmod a4 255))), 0⟩ : S27) )) (Reps.c6 (show Kd.M k27 _ _ _ (⟨(⟨wrap64 ((wrap64 (16 * (wrap64 (Int.tmod a0 20)))) + (wrap64 (16 * (wrap64 (Int.tmod a2 20))))), wrap64 ((wrap64 (16 * (wrap64 (Int.tmod a1 20)))) + (wrap64 (16 * (wrap64 (Int.tmod a3 20)))))⟩ : S25), (⟨wrap64 ((wrap64 (16 * (wrap64 (Int.tmod a0 20)))) + (wrap64 (16 * (wrap64 (Int.tmod a2 20))))), wrap64 (16 * (wrap64 (Int.tmod a1 20)))⟩ : S25), wrap64 (1 + (wrap64 (Int.tmod a4 255))), 0⟩ : S27) [.int .i64 (wrap64 ((wrap64 (16 * (wrap64 (Int.tmod a0 20)))) + (wrap64 (16 * (wrap64 (Int.tmod a2 20)))))), .int .i64 (wrap64 ((wrap64 (16 * (wrap64 (Int.tmod a1 20)))) + (wrap64 (16 * (wrap64 (Int.tmod a3 20)))))), .int .i64 (wrap64 ((wrap64 (16 * (wrap64 (Int.tmod a0 20)))) + (wrap64 (16 * (wrap64 (Int.tmod a2 20)))))), .int .i64 (wrap64 (16 * (wrap64 (Int.tmod a1 20)))), .int .i64 (wrap64 (1 + (wrap64 (Int.tmod a4 255)))), .int .i64 0] from (k27_mkM _ _ _ (⟨(⟨wrap64 ((wrap64 (16 * (wrap64 (Int.tmod a0 20)))) + (wrap64 (16 * (wrap64 (Int.tmod a2 20))))), wrap64 ((wrap64 (16 * (wrap64 (Int.tmod a1 20)))) + (wrap64 (16 * (wrap64 (Int.tmod a3 20)))))⟩ : S25), (⟨wrap64 ((wrap64 (16 * (wrap64 (Int.tmod a0 20)))) + (wrap64 (16 * (wrap64 (Int.tmod a2 20))))), wrap64 (16 * (wrap64 (Int.tmod a1 20)))⟩ : S25), wrap64 (1 + (wrap64 (Int.tmod a4 255))), 0⟩ : S27) )) (Reps.c6 (show Kd.M k27 _ _ _ (⟨(⟨wrap64 ((wrap64 (16 * (wrap64 (Int.tmod a0 20)))) + (wrap64 (16 * (wrap64 (Int.tmod a2 20))))), wrap64 (16 * (wrap64 (Int.tmod a1 20)))⟩ : S25), (⟨wrap64 (16 * (wrap64 (Int.tmod a0 20))), wrap64 (16 * (wrap64 (Int.tmod a1 20)))⟩ : S25), wrap64 (1 + (wrap64 (Int.tmod a4 255))), 0⟩ : S27) [.int .i64 (wrap64 ((wrap64 (16 * (wrap64 (Int.tmod a0 20)))) + (wrap64 (16 * (wrap64 (Int.tmod a2 20)))))), .int .i64 (wrap64 (16 * (wrap64 (Int.tmod a1 20)))), .int .i64 (wrap64 (16 * (wrap64 (Int.tmod a0 20)))), .int .i64 (wrap64 (16 * (wrap64 (Int.tmod a1 20)))), .int .i64 (wrap64 (1 + (wrap64 (Int.tmod a4 255)))), .int .i64 0] from (k27_mkM _ _ _ (⟨(⟨wrap64 ((wrap64 (16 * (wrap64 (Int.tmod a0 20)))) + (wrap64 (16 * (wrap64 (Int.tmod a2 20))))), wrap64 (16 * (wrap64 (Int.tmod a1 20)))⟩ : S25), (⟨wrap64 (16 * (wrap64 (Int.tmod a0 20))), wrap64 (16 * (wrap64 (Int.tmod a1 20)))⟩ : S25), wrap64 (1 + (wrap64 (Int.tmod a4 255))), 0⟩ : S27) )) (Reps.none _ _)))))); intro v289 w22 ho23 hb hg_ hnew_; clear hg_ hnew_; (first | rw [← Ny288.out] at ho23 | (simp only [Int.reduceToNat] at ho23; rw [← Ny288.out] at ho23)); have n0_ := Aside0.mk (Kd.R_lower ho23 (below_size (by repeat (first | (with_reducible first | exact HB.out | apply below_alloc | apply pw_below_drewN | apply below_drew1 | refine below_set ?_ GE284.out | refine below_set ?_ GE285.out | refine below_set ?_ GE286.out | refine below_set ?_ GE287.out) | exact HB.out)))); have n1_ := Aside0.mk (blk_below (g := gb284) (o := .cells #[.int .i64 (wrap64 (16 * (wrap64 (Int.tmod a0 20)))), .int .i64 (wrap64 (16 * (wrap64 (Int.tmod a1 20))))] 25 (0, 0)) (by (with_reducible repeat (first | refine blk_drewN ?_ _ | refine blk_drew ?_ | refine blk_alloc ?_ _)); refine blk_far ?_ NB284_287.out _; (with_reducible repeat (first | refine blk_drewN ?_ _ | refine blk_drew ?_ | refine blk_alloc ?_ _)); refine blk_far ?_ NB284_287.out _; (with_reducible repeat (first | refine blk_drewN ?_ _ | refine blk_drew ?_ | refine blk_alloc ?_ _)); refine blk_far ?_ NB284_286.out _; (with_reducible repeat (first | refine blk_drewN ?_ _ | refine blk_drew ?_ | refine blk_alloc ?_ _)); refine blk_far ?_ NB284_286.out _; (with_reducible repeat (first | refine blk_drewN ?_ _ | refine blk_drew ?_ | refine blk_alloc ?_ _)); refine blk_far ?_ NB284_285.out _; (with_reducible repeat (first | refine blk_drewN ?_ _ | refine blk_drew ?_ | refine blk_alloc ?_ _)); refine blk_far ?_ NB284_285.out _; (with_reducible repeat (first | refine blk_drewN ?_ _ | refine blk_drew ?_ | refine blk_alloc ?_ _)); refine blk_put (cs := #[.int .i64 (wrap64 (16 * (wrap64 (Int.tmod a0 20)))), .int .i64 0]) ?_ 1 _ rfl; (with_reducible repeat (first | refine blk_drewN ?_ _ | refine blk_drew ?_ | refine blk_alloc ?_ _)); refine blk_put (cs := #[.int .i64 0, .int .i64 0]) ?_ 0 _ rfl; (with_reducible repeat (first | refine blk_drewN ?_ _ | refine blk_drew ?_ | refine blk_alloc ?_ _)); exact BK284.out) hb); have n2_ := Aside0.mk (blk_below (g := gb285) (o := .cells #[.int .i64 (wrap64 (16 * (wrap64 (Int.tmod a0 20)))), .int .i64 (wrap64 ((wrap64 (16 * (wrap64 (Int.tmod a1 20)))) + (wrap64 (16 * (wrap64 (Int.tmod a3 20))))))] 25 (0, 0)) (by (with_reducible repeat (first | refine blk_drewN ?_ _ | refine blk_drew ?_ | refine blk_alloc ?_ _)); refine blk_far ?_ NB285_287.out _; (with_reducible repeat (first | refine blk_drewN ?_ _ | refine blk_drew ?_ | refine blk_alloc ?_ _)); refine blk_far ?_ NB285_287.out _; (with_reducible repeat (first | refine blk_drewN ?_ _ | refine blk_drew ?_ | refine blk_alloc ?_ _)); refine blk_far ?_ NB285_286.out _; (with_reducible repeat (first | refine blk_drewN ?_ _ | refine blk_drew ?_ | refine blk_alloc ?_ _)); refine blk_far ?_ NB285_286.out _; (with_reducible repeat (first | refine blk_drewN ?_ _ | refine blk_drew ?_ | refine blk_alloc ?_ _)); refine blk_put (cs := #[.int .i64 (wrap64 (16 * (wrap64 (Int.tmod a0 20)))), .int .i64 0]) ?_ 1 _ rfl; (with_reducible repeat (first | refine blk_drewN ?_ _ | refine blk_drew ?_ | refine blk_alloc ?_ _)); refine blk_put (cs := #[.int .i64 0, .int .i64 0]) ?_ 0 _ rfl; (with_reducible repeat (first | refine blk_drewN ?_ _ | refine blk_drew ?_ | refine blk_alloc ?_ _)); refine blk_far ?_ NB285_284.out _; (with_reducible repeat (first | refine blk_drewN ?_ _ | refine blk_drew ?_ | refine blk_alloc ?_ _)); refine blk_far ?_ NB285_284.out _; (with_reducible repeat (first | refine blk_drewN ?_ _ | refine blk_drew ?_ | refine blk_alloc ?_ _)); exact BK285.out) hb); have n3_ := Aside0.mk (blk_below (g := gb286) (o := .cells #[.int .i64 (wrap64 ((wrap64 (16 * (wrap64 (Int.tmod a0 20)))) + (wrap64 (16 * (wrap64 (Int.tmod a2 20)))))), .int .i64 (wrap64 ((wrap64 (16 * (wrap64 (Int.tmod a1 20)))) + (wrap64 (16 * (wrap64 (Int.tmod a3 20))))))] 25 (0, 0)) (by (with_reducible repeat (first | refine blk_drewN ?_ _ | refine blk_drew ?_ | refine blk_alloc ?_ _)); refine blk_far ?_ NB286_287.out _; (with_reducible repeat (first | refine blk_drewN ?_ _ | refine blk_drew ?_ | refine blk_alloc ?_ _)); refine blk_far ?_ NB286_287.out _; (with_reducible repeat (first | refine blk_drewN ?_ _ | refine blk_drew ?_ | refine blk_alloc ?_ _)); refine blk_put (cs := #[.int .i64 (wrap64 ((wrap64 (16 * (wrap64 (Int.tmod a0 20)))) + (wrap64 (16 * (wrap64 (Int.tmod a2 20)))))), .int .i64 0]) ?_ 1 _ rfl; (with_reducible repeat (first | refine blk_drewN ?_ _ | refine blk_drew ?_ | refine blk_alloc ?_ _)); refine blk_put (cs := #[.int .i64 0, .int .i64 0]) ?_ 0 _ rfl; (with_reducible repeat (first | refine blk_drewN ?_ _ | refine blk_drew ?_ | refine blk_alloc ?_ _)); refine blk_far ?_ NB286_285.out _; (with_reducible repeat (first | refine blk_drewN ?_ _ | refine blk_drew ?_ | refine blk_alloc ?_ _)); refine blk_far ?_ NB286_285.out _; (with_reducible repeat (first | refine blk_drewN ?_ _ | refine blk_drew ?_ | refine blk_alloc ?_ _)); refine blk_far ?_ NB286_284.out _; (with_reducible repeat (first | refine blk_drewN ?_ _ | refine blk_drew ?_ | refine blk_alloc ?_ _)); refine blk_far ?_ NB286_284.out _; (with_reducible repeat (first | refine blk_drewN ?_ _ | refine blk_drew ?_ | refine blk_alloc ?_ _)); exact BK286.out) hb); have n4_ := Aside0.mk (blk_below (g := gb287) (o := .cells #[.int .i64 (wrap64 ((wrap64 (16 * (wrap64 (Int.tmod a0 20)))) + (wrap64 (16 * (wrap64 (Int.tmod a2 20)))))), .int .i64 (wrap64 (16 * (wrap64 (Int.tmod a1 20))))] 25 (0, 0)) (by (with_reducible repeat (first | refine blk_drewN ?_ _ | refine blk_drew ?_ | refine blk_alloc ?_ _)); refine blk_put (cs := #[.int .i64 (wrap64 ((wrap64 (16 * (wrap64 (Int.tmod a0 20)))) + (wrap64 (16 * (wrap64 (Int.tmod a2 20)))))), .int .i64 0]) ?_ 1 _ rfl; (with_reducible repeat (first | refine blk_drewN ?_ _ | refine blk_drew ?_ | refine blk_alloc ?_ _)); refine blk_put (cs := #[.int .i64 0, .int .i64 0]) ?_ 0 _ rfl; (with_reducible repeat (first | refine blk_drewN ?_ _ | refine blk_drew ?_ | refine blk_alloc ?_ _)); refine blk_far ?_ NB287_286.out _; (with_reducible repeat (first | refine blk_drewN ?_ _ | refine blk_drew ?_ | refine blk_alloc ?_ _)); refine blk_far ?_ NB287_286.out _; (with_reducible repeat (first | refine blk_drewN ?_ _ | refine blk_drew ?_ | refine blk_alloc ?_ _)); refine blk_far ?_ NB287_285.out _; (with_reducible repeat (first | refine blk_drewN ?_ _ | refine blk_drew ?_ | refine blk_alloc ?_ _)); refine blk_far ?_ NB287_285.out _; (with_reducible repeat (first | refine blk_drewN ?_ _ | refine blk_drew ?_ | refine blk_alloc ?_ _)); refine blk_far ?_ NB287_284.out _; (with_reducible repeat (first | refine blk_drewN ?_ _ | refine blk_drew ?_ | refine blk_alloc ?_ _)); refine blk_far ?_ NB287_284.out _; (with_reducible repeat (first | refine blk_drewN ?_ _ | refine blk_drew ?_ | refine blk_alloc ?_ _)); exact BK287.out) hb); have n5_ := Aside0.mk (below_step (by repeat (first | (with_reducible first | exact HB.out | apply below_alloc | apply pw_below_drewN | apply below_drew1 | refine below_set ?_ GE284.out | refine below_set ?_ GE285.out | refine below_set ?_ GE286.out | refine below_set ?_ GE287.out) | exact HB.out)) hb); clear BK284; clear BK285; clear BK286; clear BK287; clear HB; have HO290 := n0_; have BK284 := n1_; have BK285 := n2_; have BK286 := n3_; have BK287 := n4_; have HB := n5_; clear n0_ n1_ n2_ n3_ n4_ n5_; clear hb ho23; obtain ⟨Ao24, co24, eo24⟩ := Kd.R_slice HO290.out; subst eo24) | ((with_reducible refine gate_callee (f := 17) rfl ?_); refine goesL_ (some 80) rfl rfl Try.func17 (by kernel_rfl) rfl #[.slice Ao24 y288.length co24, .int .i64 8, .int .i64 8] rfl (by (try simp only [List.map_toArray, List.map_cons, List.map_nil]); first | done | rfl | (simp only [List.length_drop, List.length_take]; rfl)) ?_; (with_reducible refine (sweep_Owners.calls k _ _ y288 8 8 t291 t292 _ ?side1 ?side2 A6.out).mono ?_); (case side1 => repeat (first | exact (Kd.R_reads' HO290.out).2.2 | (with_reducible refine Kd.C_alloc ?_ _) | (with_reducible refine Kd.C_drewN ?_ _) | (with_reducible refine Kd.C_drew ?_))); (case side2 => exact (Kd.R_reads' HO290.out).2.1); rintro e w25 ⟨v293, rfl, ho0, hb⟩; refine ⟨_, rfl, ?_⟩; have n0_ := Aside0.mk (Kd.R_below (by (with_reducible repeat (first | apply Kd.R_alloc | apply Kd.R_drewN | apply Kd.R_drew)); exact HO290.out) hb); have n1_ := Aside0.mk (Kd.R_lower ho0 (below_size (by repeat (first | (with_reducible first | exact HB.out | apply below_alloc | apply pw_below_drewN | apply below_drew1 | refine below_set ?_ GE284.out | refine below_set ?_ GE285.out | refine below_set ?_ GE286.out | refine below_set ?_ GE287.out) | exact HB.out)))); have n2_ := Aside0.mk (blk_below (g := gb284) (o := .cells #[.int .i64 (wrap64 (16 * (wrap64 (Int.tmod a0 20)))), .int .i64 (wrap64 (16 * (wrap64 (Int.tmod a1 20))))] 25 (0, 0)) (by (with_reducible repeat (first | refine blk_drewN ?_ _ | refine blk_drew ?_ | refine blk_alloc ?_ _)); exact BK284.out) hb); have n3_ := Aside0.mk (blk_below (g := gb285) (o := .cells #[.int .i64 (wrap64 (16 * (wrap64 (Int.tmod a0 20)))), .int .i64 (wrap64 ((wrap64 (16 * (wrap64 (Int.tmod a1 20)))) + (wrap64 (16 * (wrap64 (Int.tmod a3 20))))))] 25 (0, 0)) (by (with_reducible repeat (first | refine blk_drewN ?_ _ | refine blk_drew ?_ | refine blk_alloc ?_ _)); exact BK285.out) hb); have n4_ := Aside0.mk (blk_below (g := gb286) (o := .cells #[.int .i64 (wrap64 ((wrap64 (16 * (wrap64 (Int.tmod a0 20)))) + (wrap64 (16 * (wrap64 (Int.tmod a2 20)))))), .int .i64 (wrap64 ((wrap64 (16 * (wrap64 (Int.tmod a1 20)))) + (wrap64 (16 * (wrap64 (Int.tmod a3 20))))))] 25 (0, 0)) (by (with_reducible repeat (first | refine blk_drewN ?_ _ | refine blk_drew ?_ | refine blk_alloc ?_ _)); exact BK286.out) hb); have n5_ := Aside0.mk (blk_below (g := gb287) (o := .cells #[.int .i64 (wrap64 ((wrap64 (16 * (wrap64 (Int.tmod a0 20)))) + (wrap64 (16 * (wrap64 (Int.tmod a2 20)))))), .int .i64 (wrap64 (16 * (wrap64 (Int.tmod a1 20))))] 25 (0, 0)) (by (with_reducible repeat (first | refine blk_drewN ?_ _ | refine blk_drew ?_ | refine blk_alloc ?_ _)); exact BK287.out) hb); have n6_ := Aside0.mk (below_step (by repeat (first | (with_reducible first | exact HB.out | apply below_alloc | apply pw_below_drewN | apply below_drew1 | refine below_set ?_ GE284.out | refine below_set ?_ GE285.out | refine below_set ?_ GE286.out | refine below_set ?_ GE287.out) | exact HB.out)) hb); clear HO290; clear BK284; clear BK285; clear BK286; clear BK287; clear HB; have HO290 := n0_; have HO294 := n1_; have BK284 := n2_; have BK285 := n3_; have BK286 := n4_; have BK287 := n5_; have HB := n6_; clear n0_ n1_ n2_ n3_ n4_ n5_ n6_; (try clear hb); (try clear hb2); (try clear hk); (try clear hi); (try clear ho0)))
  (try simp only [Act.put, List.setIfInBounds_toArray, List.set_cons_zero, List.set_cons_succ])
  go_cut [89] (fun v89 wc => ∃ (kq : Nat) (x89_6 : Bool), v89 = .bool x89_6 ∧ Aside0 (celluloidlaw17_SweepSquares.j0 kq (wrap64 (16 * (wrap64 (Int.tmod a0 20)))) (wrap64 (16 * (wrap64 (Int.tmod a1 20)))) (wrap64 ((wrap64 (16 * (wrap64 (Int.tmod a0 20)))) + (wrap64 (16 * (wrap64 (Int.tmod a2 20)))))) (wrap64 ((wrap64 (16 * (wrap64 (Int.tmod a1 20)))) + (wrap64 (16 * (wrap64 (Int.tmod a3 20)))))) (wrap64 (1 + (wrap64 (Int.tmod a4 255)))) t291 x89_6 = some r) ∧ Aside0 (kq ≤ k) ∧ Aside0 (Kd.R (Kd.int .i64) 3 wc w.heap.size (fun _ => True) v293 t291) ∧ Aside0 (wc.heap[gb284]? = some (.cells #[.int .i64 (wrap64 (16 * (wrap64 (Int.tmod a0 20)))), .int .i64 (wrap64 (16 * (wrap64 (Int.tmod a1 20))))] 25 (0, 0))) ∧ Aside0 (wc.heap[gb285]? = some (.cells #[.int .i64 (wrap64 (16 * (wrap64 (Int.tmod a0 20)))), .int .i64 (wrap64 ((wrap64 (16 * (wrap64 (Int.tmod a1 20)))) + (wrap64 (16 * (wrap64 (Int.tmod a3 20))))))] 25 (0, 0))) ∧ Aside0 (wc.heap[gb286]? = some (.cells #[.int .i64 (wrap64 ((wrap64 (16 * (wrap64 (Int.tmod a0 20)))) + (wrap64 (16 * (wrap64 (Int.tmod a2 20)))))), .int .i64 (wrap64 ((wrap64 (16 * (wrap64 (Int.tmod a1 20)))) + (wrap64 (16 * (wrap64 (Int.tmod a3 20))))))] 25 (0, 0))) ∧ Aside0 (wc.heap[gb287]? = some (.cells #[.int .i64 (wrap64 ((wrap64 (16 * (wrap64 (Int.tmod a0 20)))) + (wrap64 (16 * (wrap64 (Int.tmod a2 20)))))), .int .i64 (wrap64 (16 * (wrap64 (Int.tmod a1 20))))] 25 (0, 0))) ∧ Aside0 (Below w.heap.size w wc))
  case first =>
    have H := HC7.out
    clear HC7
    by_cases c26 : t292 = 0
    · rw [if_pos c26] at H
      have c26b0 : (t292 == 0) = true := beq_iff_eq.mpr c26
      have c26b1 : (t292 != 0) = false := bne_eq_false_iff_eq.mpr c26
      clear c26
      (first | rw [c26b0] | (simp only [i64_w, i32_w]; rw [c26b0]) | skip)
      have H' := Aside0.mk H
      clear H
      obtain ⟨Ao27, co27, eo27⟩ := Kd.R_slice HO294.out
      subst eo27
      go_wp2
      go_meet
      case rel => exact ⟨_, (((t291.length : Int) != 1024)), (by first | rfl | (simp; done) | (simp [*]; done)), H', ⟨by first | omega | exact Nat.le_refl _⟩, ⟨by (with_reducible repeat (first | apply Kd.R_alloc | apply Kd.R_drewN | apply Kd.R_drew)); exact HO294.out⟩, ⟨by (with_reducible repeat (first | refine blk_drewN ?_ _ | refine blk_drew ?_ | refine blk_alloc ?_ _)); exact BK284.out⟩, ⟨by (with_reducible repeat (first | refine blk_drewN ?_ _ | refine blk_drew ?_ | refine blk_alloc ?_ _)); exact BK285.out⟩, ⟨by (with_reducible repeat (first | refine blk_drewN ?_ _ | refine blk_drew ?_ | refine blk_alloc ?_ _)); exact BK286.out⟩, ⟨by (with_reducible repeat (first | refine blk_drewN ?_ _ | refine blk_drew ?_ | refine blk_alloc ?_ _)); exact BK287.out⟩, ⟨by repeat (first | (with_reducible first | exact HB.out | apply below_alloc | apply pw_below_drewN | apply below_drew1 | refine below_set ?_ GE284.out | refine below_set ?_ GE285.out | refine below_set ?_ GE286.out | refine below_set ?_ GE287.out) | exact HB.out)⟩⟩
    · rw [if_neg c26] at H
      have c26b0 : (t292 == 0) = false := beq_eq_false_iff_ne.mpr c26
      have c26b1 : (t292 != 0) = true := bne_iff_ne.mpr c26
      (first | rw [c26b0] | (simp only [i64_w, i32_w]; rw [c26b0]) | skip)
      have H' := Aside0.mk H
      clear H
      go_wp2
      go_meet
      case rel => exact ⟨_, (true), (by first | rfl | (simp; done) | (simp [*]; done)), H', ⟨by first | omega | exact Nat.le_refl _⟩, ⟨by (with_reducible repeat (first | apply Kd.R_alloc | apply Kd.R_drewN | apply Kd.R_drew)); exact HO294.out⟩, ⟨by (with_reducible repeat (first | refine blk_drewN ?_ _ | refine blk_drew ?_ | refine blk_alloc ?_ _)); exact BK284.out⟩, ⟨by (with_reducible repeat (first | refine blk_drewN ?_ _ | refine blk_drew ?_ | refine blk_alloc ?_ _)); exact BK285.out⟩, ⟨by (with_reducible repeat (first | refine blk_drewN ?_ _ | refine blk_drew ?_ | refine blk_alloc ?_ _)); exact BK286.out⟩, ⟨by (with_reducible repeat (first | refine blk_drewN ?_ _ | refine blk_drew ?_ | refine blk_alloc ?_ _)); exact BK287.out⟩, ⟨by repeat (first | (with_reducible first | exact HB.out | apply below_alloc | apply pw_below_drewN | apply below_drew1 | refine below_set ?_ GE284.out | refine below_set ?_ GE285.out | refine below_set ?_ GE286.out | refine below_set ?_ GE287.out) | exact HB.out)⟩⟩
  case rest =>
    clear HC7
    try clear c1
    try clear c2
    try clear p2
    try clear c6
    try clear p6
    try clear c8
    try clear c12
    try clear c13
    try clear c14
    try clear c16
    try clear c17
    try clear c19
    try clear c26
    try clear c26b0
    try clear c26b1
    try clear hcz15_0
    try clear hcz15_1
    try clear hcz18_0
    try clear hcz18_1
    try clear hcz20_0
    try clear hcz20_1
    try clear hcz21_0
    try clear hcz21_1
    try clear hfz15_0
    try clear hfz15_1
    try clear hfz18_0
    try clear hfz18_1
    try clear hfz20_0
    try clear hfz20_1
    try clear hfz21_0
    try clear hfz21_1
    obtain ⟨kq, x89_6, rfl, HA, HJ6, HO_20, BK284, BK285, BK286, BK287, HB⟩ := hcut
    cases kq with
    | zero => exact absurd HA.out (by simp [celluloidlaw17_SweepSquares.j0])
    | succ kj6 =>
      have H := HA.out
      clear HA
      simp only [celluloidlaw17_SweepSquares.j0] at H
      by_cases c28 : x89_6 = true
      · subst c28
        have H1 : (some false) = some r := by rw [if_pos rfl] at H; exact H
        clear H
        have H := H1
        clear H1
        obtain rfl := Option.some.inj H
        go_wp2
        go_ret
        exact ⟨by first | rfl | (simp [errW_none, errW_some] <;> rfl) | (simp [*, errW_none, errW_some] <;> rfl), by repeat (first | (with_reducible first | exact HB.out | apply below_alloc | apply pw_below_drewN | apply below_drew1 | refine below_set ?_ GE284.out | refine below_set ?_ GE285.out | refine below_set ?_ GE286.out | refine below_set ?_ GE287.out) | exact HB.out)⟩
      · replace c28 := Bool.eq_false_iff.mpr c28
        subst c28
        have H1 : (celluloidlaw17_SweepSquares.l0 kj6 (wrap64 (16 * (wrap64 (Int.tmod a0 20)))) (wrap64 (16 * (wrap64 (Int.tmod a1 20)))) (wrap64 ((wrap64 (16 * (wrap64 (Int.tmod a0 20)))) + (wrap64 (16 * (wrap64 (Int.tmod a2 20)))))) (wrap64 ((wrap64 (16 * (wrap64 (Int.tmod a1 20)))) + (wrap64 (16 * (wrap64 (Int.tmod a3 20)))))) (wrap64 (1 + (wrap64 (Int.tmod a4 255)))) t291 (t291.length : Int) 0) = some r := by rw [if_neg (show ¬ (false = true) by decide)] at H; exact H
        clear H
        have H := H1
        clear H1
        have H' := Aside0.mk H
        clear H
        obtain ⟨Ao29, co29, eo29⟩ := Kd.R_slice HO_20.out
        subst eo29
        go_wp2
        go_loopg [92] kj6 (fun kq v92 w' => ∃ (x92_2 : Int), v92 = .int .i64 x92_2 ∧ Aside0 (celluloidlaw17_SweepSquares.l0 kq (wrap64 (16 * (wrap64 (Int.tmod a0 20)))) (wrap64 (16 * (wrap64 (Int.tmod a1 20)))) (wrap64 ((wrap64 (16 * (wrap64 (Int.tmod a0 20)))) + (wrap64 (16 * (wrap64 (Int.tmod a2 20)))))) (wrap64 ((wrap64 (16 * (wrap64 (Int.tmod a1 20)))) + (wrap64 (16 * (wrap64 (Int.tmod a3 20)))))) (wrap64 (1 + (wrap64 (Int.tmod a4 255)))) t291 (t291.length : Int) x92_2 = some r) ∧ Aside0 (kq ≤ kj6) ∧ Aside0 (Kd.R (Kd.int .i64) 3 w' w.heap.size (fun _ => True) (.slice Ao29 t291.length co29) t291) ∧ Aside0 (w'.heap[gb284]? = some (.cells #[.int .i64 (wrap64 (16 * (wrap64 (Int.tmod a0 20)))), .int .i64 (wrap64 (16 * (wrap64 (Int.tmod a1 20))))] 25 (0, 0))) ∧ Aside0 (w'.heap[gb285]? = some (.cells #[.int .i64 (wrap64 (16 * (wrap64 (Int.tmod a0 20)))), .int .i64 (wrap64 ((wrap64 (16 * (wrap64 (Int.tmod a1 20)))) + (wrap64 (16 * (wrap64 (Int.tmod a3 20))))))] 25 (0, 0))) ∧ Aside0 (w'.heap[gb286]? = some (.cells #[.int .i64 (wrap64 ((wrap64 (16 * (wrap64 (Int.tmod a0 20)))) + (wrap64 (16 * (wrap64 (Int.tmod a2 20)))))), .int .i64 (wrap64 ((wrap64 (16 * (wrap64 (Int.tmod a1 20)))) + (wrap64 (16 * (wrap64 (Int.tmod a3 20))))))] 25 (0, 0))) ∧ Aside0 (w'.heap[gb287]? = some (.cells #[.int .i64 (wrap64 ((wrap64 (16 * (wrap64 (Int.tmod a0 20)))) + (wrap64 (16 * (wrap64 (Int.tmod a2 20)))))), .int .i64 (wrap64 (16 * (wrap64 (Int.tmod a1 20))))] 25 (0, 0))) ∧ Aside0 (Below w.heap.size w w'))
        case atStart => exact ⟨(0), (by first | rfl | (simp; done) | (simp [*]; done)), H', ⟨Nat.le_refl _⟩, ⟨by (with_reducible repeat (first | apply Kd.R_alloc | apply Kd.R_drewN | apply Kd.R_drew)); exact HO_20.out⟩, ⟨by (with_reducible repeat (first | refine blk_drewN ?_ _ | refine blk_drew ?_ | refine blk_alloc ?_ _)); exact BK284.out⟩, ⟨by (with_reducible repeat (first | refine blk_drewN ?_ _ | refine blk_drew ?_ | refine blk_alloc ?_ _)); exact BK285.out⟩, ⟨by (with_reducible repeat (first | refine blk_drewN ?_ _ | refine blk_drew ?_ | refine blk_alloc ?_ _)); exact BK286.out⟩, ⟨by (with_reducible repeat (first | refine blk_drewN ?_ _ | refine blk_drew ?_ | refine blk_alloc ?_ _)); exact BK287.out⟩, ⟨by repeat (first | (with_reducible first | exact HB.out | apply below_alloc | apply pw_below_drewN | apply below_drew1 | refine below_set ?_ GE284.out | refine below_set ?_ GE285.out | refine below_set ?_ GE286.out | refine below_set ?_ GE287.out) | exact HB.out)⟩⟩
        case round =>
          clear H'
          try clear c1
          try clear c2
          try clear p2
          try clear c6
          try clear p6
          try clear c8
          try clear c12
          try clear c13
          try clear c14
          try clear c16
          try clear c17
          try clear c19
          try clear c26
          try clear c26b0
          try clear c26b1
          try clear c28
          try clear hcz15_0
          try clear hcz15_1
          try clear hcz18_0
          try clear hcz18_1
          try clear hcz20_0
          try clear hcz20_1
          try clear hcz21_0
          try clear hcz21_1
          try clear hfz15_0
          try clear hfz15_1
          try clear hfz18_0
          try clear hfz18_1
          try clear hfz20_0
          try clear hfz20_1
          try clear hfz21_0
          try clear hfz21_1
          try clear p2
          try clear p6
          obtain ⟨x92_2, rfl, HA, HK2, HO_20, BK284, BK285, BK286, BK287, HB⟩ := hrel
          cases gk with
          | zero => exact absurd HA.out (by simp [celluloidlaw17_SweepSquares.l0])
          | succ k2 =>
            have H := HA.out
            clear HA
            simp only [celluloidlaw17_SweepSquares.l0] at H
            by_cases c30 : x92_2 < (t291.length : Int)
            · rw [if_pos c30] at H
              have c30b0 : decide (x92_2 < (t291.length : Int)) = true := decide_eq_true c30
              clear c30
              by_cases c31 : (wrap64 (16 * (Int.tmod x92_2 32))) ≥ (wrap64 (16 * (wrap64 (Int.tmod a0 20))))
              · rw [if_pos c31] at H
                have c31b0 : decide ((wrap64 (16 * (wrap64 (Int.tmod a0 20)))) ≤ (wrap64 (16 * (Int.tmod x92_2 32)))) = true := decide_eq_true c31
                clear c31
                by_cases c32 : (wrap64 (16 * (Int.tmod x92_2 32))) < (wrap64 ((wrap64 (16 * (wrap64 (Int.tmod a0 20)))) + (wrap64 (16 * (wrap64 (Int.tmod a2 20))))))
                · rw [if_pos c32] at H
                  have c32b0 : decide ((wrap64 (16 * (Int.tmod x92_2 32))) < (wrap64 ((wrap64 (16 * (wrap64 (Int.tmod a0 20)))) + (wrap64 (16 * (wrap64 (Int.tmod a2 20))))))) = true := decide_eq_true c32
                  clear c32
                  by_cases c33 : (wrap64 (16 * (wrap64 (Int.tdiv x92_2 32)))) ≥ (wrap64 (16 * (wrap64 (Int.tmod a1 20))))
                  · rw [if_pos c33] at H
                    have c33b0 : decide ((wrap64 (16 * (wrap64 (Int.tmod a1 20)))) ≤ (wrap64 (16 * (wrap64 (Int.tdiv x92_2 32))))) = true := decide_eq_true c33
                    clear c33
                    by_cases c34 : (wrap64 (16 * (wrap64 (Int.tdiv x92_2 32)))) < (wrap64 ((wrap64 (16 * (wrap64 (Int.tmod a1 20)))) + (wrap64 (16 * (wrap64 (Int.tmod a3 20))))))
                    · rw [if_pos c34] at H
                      have c34b0 : decide ((wrap64 (16 * (wrap64 (Int.tdiv x92_2 32)))) < (wrap64 ((wrap64 (16 * (wrap64 (Int.tmod a1 20)))) + (wrap64 (16 * (wrap64 (Int.tmod a3 20))))))) = true := decide_eq_true c34
                      clear c34
                      by_cases c35 : 0 ≤ x92_2
                      · rw [if_pos c35] at H
                        have c35b0 : decide (0 ≤ x92_2) = true := decide_eq_true c35
                        clear c35
                        by_cases c36 : x92_2 < (t291.length : Int)
                        · rw [if_pos c36] at H
                          have c36b0 : decide (x92_2 < (t291.length : Int)) = true := decide_eq_true c36
                          clear c36
                          by_cases c37 : (rd t291 x92_2) = (wrap64 (1 + (wrap64 (Int.tmod a4 255))))
                          · rw [if_pos c37] at H
                            have c37b0 : ((rd t291 x92_2) == (wrap64 (1 + (wrap64 (Int.tmod a4 255))))) = true := beq_iff_eq.mpr c37
                            have c37b1 : ((rd t291 x92_2) != (wrap64 (1 + (wrap64 (Int.tmod a4 255))))) = false := bne_eq_false_iff_eq.mpr c37
                            clear c37
                            by_cases c38 : ((wrap64 (16 * (wrap64 (Int.tdiv x92_2 32)))) < (wrap64 ((wrap64 (16 * (wrap64 (Int.tmod a1 20)))) + (wrap64 (16 * (wrap64 (Int.tmod a3 20)))))))
                            · rw [if_pos c38] at H
                              have c38b0 : decide ((wrap64 (16 * (wrap64 (Int.tdiv x92_2 32)))) < (wrap64 ((wrap64 (16 * (wrap64 (Int.tmod a1 20)))) + (wrap64 (16 * (wrap64 (Int.tmod a3 20))))))) = true := decide_eq_true c38
                              clear c38
                              have H' := Aside0.mk H
                              clear H
                              have p295 : 0 ≤ (x92_2 : Int) := of_decide_eq_true (by first | (with_reducible assumption) | assumption)
                              have q295 : x92_2 < (t291.length : Int) := of_decide_eq_true (by first | (with_reducible assumption) | assumption)
                              obtain ⟨ad295, e295, hx295_0⟩ := Kd.at_int (Kd.R_reads' HO_20.out).2.2 x92_2 p295 q295
                              cases e295
                              replace p295 := eq_true p295
                              replace q295 := eq_true q295
                              go_wp2
                              go_roundg k2
                              case measure => have := HJ6.out; have := HK2.out; omega
                              case rel => exact ⟨(wrap64 (x92_2 + 1)), (by first | rfl | (simp; done) | (simp [*]; done)), H', ⟨by have := HJ6.out; have := HK2.out; omega⟩, ⟨by (with_reducible repeat (first | apply Kd.R_alloc | apply Kd.R_drewN | apply Kd.R_drew)); exact HO_20.out⟩, ⟨by (with_reducible repeat (first | refine blk_drewN ?_ _ | refine blk_drew ?_ | refine blk_alloc ?_ _)); exact BK284.out⟩, ⟨by (with_reducible repeat (first | refine blk_drewN ?_ _ | refine blk_drew ?_ | refine blk_alloc ?_ _)); exact BK285.out⟩, ⟨by (with_reducible repeat (first | refine blk_drewN ?_ _ | refine blk_drew ?_ | refine blk_alloc ?_ _)); exact BK286.out⟩, ⟨by (with_reducible repeat (first | refine blk_drewN ?_ _ | refine blk_drew ?_ | refine blk_alloc ?_ _)); exact BK287.out⟩, ⟨by repeat (first | (with_reducible first | exact HB.out | apply below_alloc | apply pw_below_drewN | apply below_drew1 | refine below_set ?_ GE284.out | refine below_set ?_ GE285.out | refine below_set ?_ GE286.out | refine below_set ?_ GE287.out) | exact HB.out)⟩⟩
                            · exact absurd (of_decide_eq_true c34b0) c38
                          · rw [if_neg c37] at H
                            have c37b0 : ((rd t291 x92_2) == (wrap64 (1 + (wrap64 (Int.tmod a4 255))))) = false := beq_eq_false_iff_ne.mpr c37
                            have c37b1 : ((rd t291 x92_2) != (wrap64 (1 + (wrap64 (Int.tmod a4 255))))) = true := bne_iff_ne.mpr c37
                            obtain rfl := Option.some.inj H
                            have p295 : 0 ≤ (x92_2 : Int) := of_decide_eq_true (by first | (with_reducible assumption) | assumption)
                            have q295 : x92_2 < (t291.length : Int) := of_decide_eq_true (by first | (with_reducible assumption) | assumption)
                            obtain ⟨ad295, e295, hx295_0⟩ := Kd.at_int (Kd.R_reads' HO_20.out).2.2 x92_2 p295 q295
                            cases e295
                            replace p295 := eq_true p295
                            replace q295 := eq_true q295
                            go_wp2
                            go_ret
                            exact ⟨by first | rfl | (simp [errW_none, errW_some] <;> rfl) | (simp [*, errW_none, errW_some] <;> rfl), by repeat (first | (with_reducible first | exact HB.out | apply below_alloc | apply pw_below_drewN | apply below_drew1 | refine below_set ?_ GE284.out | refine below_set ?_ GE285.out | refine below_set ?_ GE286.out | refine below_set ?_ GE287.out) | exact HB.out)⟩
                        · exact absurd (of_decide_eq_true c30b0) c36
                      · rw [if_neg c35] at H
                        exact absurd H (by simp)
                    · rw [if_neg c34] at H
                      have c34b0 : decide ((wrap64 (16 * (wrap64 (Int.tdiv x92_2 32)))) < (wrap64 ((wrap64 (16 * (wrap64 (Int.tmod a1 20)))) + (wrap64 (16 * (wrap64 (Int.tmod a3 20))))))) = false := decide_eq_false c34
                      clear c34
                      by_cases c40 : ((wrap64 (16 * (wrap64 (Int.tdiv x92_2 32)))) < (wrap64 ((wrap64 (16 * (wrap64 (Int.tmod a1 20)))) + (wrap64 (16 * (wrap64 (Int.tmod a3 20)))))))
                      · exact absurd c40 (of_decide_eq_false c34b0)
                      · rw [if_neg c40] at H
                        have c40b0 : decide ((wrap64 (16 * (wrap64 (Int.tdiv x92_2 32)))) < (wrap64 ((wrap64 (16 * (wrap64 (Int.tmod a1 20)))) + (wrap64 (16 * (wrap64 (Int.tmod a3 20))))))) = false := decide_eq_false c40
                        clear c40
                        by_cases c41 : 0 ≤ x92_2
                        · rw [if_pos c41] at H
                          have c41b0 : decide (0 ≤ x92_2) = true := decide_eq_true c41
                          clear c41
                          by_cases c42 : x92_2 < (t291.length : Int)
                          · rw [if_pos c42] at H
                            have c42b0 : decide (x92_2 < (t291.length : Int)) = true := decide_eq_true c42
                            clear c42
                            by_cases c43 : (rd t291 x92_2) = 0
                            · rw [if_pos c43] at H
                              have c43b0 : ((rd t291 x92_2) == 0) = true := beq_iff_eq.mpr c43
                              have c43b1 : ((rd t291 x92_2) != 0) = false := bne_eq_false_iff_eq.mpr c43
                              clear c43
                              have H' := Aside0.mk H
                              clear H
                              have p297 : 0 ≤ (x92_2 : Int) := of_decide_eq_true (by first | (with_reducible assumption) | assumption)
                              have q297 : x92_2 < (t291.length : Int) := of_decide_eq_true (by first | (with_reducible assumption) | assumption)
                              obtain ⟨ad297, e297, hx297_0⟩ := Kd.at_int (Kd.R_reads' HO_20.out).2.2 x92_2 p297 q297
                              cases e297
                              replace p297 := eq_true p297
                              replace q297 := eq_true q297
                              go_wp2
                              go_roundg k2
                              case measure => have := HJ6.out; have := HK2.out; omega
                              case rel => exact ⟨(wrap64 (x92_2 + 1)), (by first | rfl | (simp; done) | (simp [*]; done)), H', ⟨by have := HJ6.out; have := HK2.out; omega⟩, ⟨by (with_reducible repeat (first | apply Kd.R_alloc | apply Kd.R_drewN | apply Kd.R_drew)); exact HO_20.out⟩, ⟨by (with_reducible repeat (first | refine blk_drewN ?_ _ | refine blk_drew ?_ | refine blk_alloc ?_ _)); exact BK284.out⟩, ⟨by (with_reducible repeat (first | refine blk_drewN ?_ _ | refine blk_drew ?_ | refine blk_alloc ?_ _)); exact BK285.out⟩, ⟨by (with_reducible repeat (first | refine blk_drewN ?_ _ | refine blk_drew ?_ | refine blk_alloc ?_ _)); exact BK286.out⟩, ⟨by (with_reducible repeat (first | refine blk_drewN ?_ _ | refine blk_drew ?_ | refine blk_alloc ?_ _)); exact BK287.out⟩, ⟨by repeat (first | (with_reducible first | exact HB.out | apply below_alloc | apply pw_below_drewN | apply below_drew1 | refine below_set ?_ GE284.out | refine below_set ?_ GE285.out | refine below_set ?_ GE286.out | refine below_set ?_ GE287.out) | exact HB.out)⟩⟩
                            · rw [if_neg c43] at H
                              have c43b0 : ((rd t291 x92_2) == 0) = false := beq_eq_false_iff_ne.mpr c43
                              have c43b1 : ((rd t291 x92_2) != 0) = true := bne_iff_ne.mpr c43
                              obtain rfl := Option.some.inj H
                              have p297 : 0 ≤ (x92_2 : Int) := of_decide_eq_true (by first | (with_reducible assumption) | assumption)
                              have q297 : x92_2 < (t291.length : Int) := of_decide_eq_true (by first | (with_reducible assumption) | assumption)
                              obtain ⟨ad297, e297, hx297_0⟩ := Kd.at_int (Kd.R_reads' HO_20.out).2.2 x92_2 p297 q297
                              cases e297
                              replace p297 := eq_true p297
                              replace q297 := eq_true q297
                              go_wp2
                              go_ret
                              exact ⟨by first | rfl | (simp [errW_none, errW_some] <;> rfl) | (simp [*, errW_none, errW_some] <;> rfl), by repeat (first | (with_reducible first | exact HB.out | apply below_alloc | apply pw_below_drewN | apply below_drew1 | refine below_set ?_ GE284.out | refine below_set ?_ GE285.out | refine below_set ?_ GE286.out | refine below_set ?_ GE287.out) | exact HB.out)⟩
                          · exact absurd (of_decide_eq_true c30b0) c42
                        · rw [if_neg c41] at H
                          exact absurd H (by simp)
                  · rw [if_neg c33] at H
                    have c33b0 : decide ((wrap64 (16 * (wrap64 (Int.tmod a1 20)))) ≤ (wrap64 (16 * (wrap64 (Int.tdiv x92_2 32))))) = false := decide_eq_false c33
                    clear c33
                    by_cases c44 : 0 ≤ x92_2
                    · rw [if_pos c44] at H
                      have c44b0 : decide (0 ≤ x92_2) = true := decide_eq_true c44
                      clear c44
                      by_cases c45 : x92_2 < (t291.length : Int)
                      · rw [if_pos c45] at H
                        have c45b0 : decide (x92_2 < (t291.length : Int)) = true := decide_eq_true c45
                        clear c45
                        by_cases c46 : (rd t291 x92_2) = 0
                        · rw [if_pos c46] at H
                          have c46b0 : ((rd t291 x92_2) == 0) = true := beq_iff_eq.mpr c46
                          have c46b1 : ((rd t291 x92_2) != 0) = false := bne_eq_false_iff_eq.mpr c46
                          clear c46
                          have H' := Aside0.mk H
                          clear H
                          have p298 : 0 ≤ (x92_2 : Int) := of_decide_eq_true (by first | (with_reducible assumption) | assumption)
                          have q298 : x92_2 < (t291.length : Int) := of_decide_eq_true (by first | (with_reducible assumption) | assumption)
                          obtain ⟨ad298, e298, hx298_0⟩ := Kd.at_int (Kd.R_reads' HO_20.out).2.2 x92_2 p298 q298
                          cases e298
                          replace p298 := eq_true p298
                          replace q298 := eq_true q298
                          go_wp2
                          go_roundg k2
                          case measure => have := HJ6.out; have := HK2.out; omega
                          case rel => exact ⟨(wrap64 (x92_2 + 1)), (by first | rfl | (simp; done) | (simp [*]; done)), H', ⟨by have := HJ6.out; have := HK2.out; omega⟩, ⟨by (with_reducible repeat (first | apply Kd.R_alloc | apply Kd.R_drewN | apply Kd.R_drew)); exact HO_20.out⟩, ⟨by (with_reducible repeat (first | refine blk_drewN ?_ _ | refine blk_drew ?_ | refine blk_alloc ?_ _)); exact BK284.out⟩, ⟨by (with_reducible repeat (first | refine blk_drewN ?_ _ | refine blk_drew ?_ | refine blk_alloc ?_ _)); exact BK285.out⟩, ⟨by (with_reducible repeat (first | refine blk_drewN ?_ _ | refine blk_drew ?_ | refine blk_alloc ?_ _)); exact BK286.out⟩, ⟨by (with_reducible repeat (first | refine blk_drewN ?_ _ | refine blk_drew ?_ | refine blk_alloc ?_ _)); exact BK287.out⟩, ⟨by repeat (first | (with_reducible first | exact HB.out | apply below_alloc | apply pw_below_drewN | apply below_drew1 | refine below_set ?_ GE284.out | refine below_set ?_ GE285.out | refine below_set ?_ GE286.out | refine below_set ?_ GE287.out) | exact HB.out)⟩⟩
                        · rw [if_neg c46] at H
                          have c46b0 : ((rd t291 x92_2) == 0) = false := beq_eq_false_iff_ne.mpr c46
                          have c46b1 : ((rd t291 x92_2) != 0) = true := bne_iff_ne.mpr c46
                          obtain rfl := Option.some.inj H
                          have p298 : 0 ≤ (x92_2 : Int) := of_decide_eq_true (by first | (with_reducible assumption) | assumption)
                          have q298 : x92_2 < (t291.length : Int) := of_decide_eq_true (by first | (with_reducible assumption) | assumption)
                          obtain ⟨ad298, e298, hx298_0⟩ := Kd.at_int (Kd.R_reads' HO_20.out).2.2 x92_2 p298 q298
                          cases e298
                          replace p298 := eq_true p298
                          replace q298 := eq_true q298
                          go_wp2
                          go_ret
                          exact ⟨by first | rfl | (simp [errW_none, errW_some] <;> rfl) | (simp [*, errW_none, errW_some] <;> rfl), by repeat (first | (with_reducible first | exact HB.out | apply below_alloc | apply pw_below_drewN | apply below_drew1 | refine below_set ?_ GE284.out | refine below_set ?_ GE285.out | refine below_set ?_ GE286.out | refine below_set ?_ GE287.out) | exact HB.out)⟩
                      · exact absurd (of_decide_eq_true c30b0) c45
                    · rw [if_neg c44] at H
                      exact absurd H (by simp)
                · rw [if_neg c32] at H
                  have c32b0 : decide ((wrap64 (16 * (Int.tmod x92_2 32))) < (wrap64 ((wrap64 (16 * (wrap64 (Int.tmod a0 20)))) + (wrap64 (16 * (wrap64 (Int.tmod a2 20))))))) = false := decide_eq_false c32
                  clear c32
                  by_cases c47 : 0 ≤ x92_2
                  · rw [if_pos c47] at H
                    have c47b0 : decide (0 ≤ x92_2) = true := decide_eq_true c47
                    clear c47
                    by_cases c48 : x92_2 < (t291.length : Int)
                    · rw [if_pos c48] at H
                      have c48b0 : decide (x92_2 < (t291.length : Int)) = true := decide_eq_true c48
                      clear c48
                      by_cases c49 : (rd t291 x92_2) = 0
                      · rw [if_pos c49] at H
                        have c49b0 : ((rd t291 x92_2) == 0) = true := beq_iff_eq.mpr c49
                        have c49b1 : ((rd t291 x92_2) != 0) = false := bne_eq_false_iff_eq.mpr c49
                        clear c49
                        have H' := Aside0.mk H
                        clear H
                        have p299 : 0 ≤ (x92_2 : Int) := of_decide_eq_true (by first | (with_reducible assumption) | assumption)
                        have q299 : x92_2 < (t291.length : Int) := of_decide_eq_true (by first | (with_reducible assumption) | assumption)
                        obtain ⟨ad299, e299, hx299_0⟩ := Kd.at_int (Kd.R_reads' HO_20.out).2.2 x92_2 p299 q299
                        cases e299
                        replace p299 := eq_true p299
                        replace q299 := eq_true q299
                        go_wp2
                        go_roundg k2
                        case measure => have := HJ6.out; have := HK2.out; omega
                        case rel => exact ⟨(wrap64 (x92_2 + 1)), (by first | rfl | (simp; done) | (simp [*]; done)), H', ⟨by have := HJ6.out; have := HK2.out; omega⟩, ⟨by (with_reducible repeat (first | apply Kd.R_alloc | apply Kd.R_drewN | apply Kd.R_drew)); exact HO_20.out⟩, ⟨by (with_reducible repeat (first | refine blk_drewN ?_ _ | refine blk_drew ?_ | refine blk_alloc ?_ _)); exact BK284.out⟩, ⟨by (with_reducible repeat (first | refine blk_drewN ?_ _ | refine blk_drew ?_ | refine blk_alloc ?_ _)); exact BK285.out⟩, ⟨by (with_reducible repeat (first | refine blk_drewN ?_ _ | refine blk_drew ?_ | refine blk_alloc ?_ _)); exact BK286.out⟩, ⟨by (with_reducible repeat (first | refine blk_drewN ?_ _ | refine blk_drew ?_ | refine blk_alloc ?_ _)); exact BK287.out⟩, ⟨by repeat (first | (with_reducible first | exact HB.out | apply below_alloc | apply pw_below_drewN | apply below_drew1 | refine below_set ?_ GE284.out | refine below_set ?_ GE285.out | refine below_set ?_ GE286.out | refine below_set ?_ GE287.out) | exact HB.out)⟩⟩
                      · rw [if_neg c49] at H
                        have c49b0 : ((rd t291 x92_2) == 0) = false := beq_eq_false_iff_ne.mpr c49
                        have c49b1 : ((rd t291 x92_2) != 0) = true := bne_iff_ne.mpr c49
                        obtain rfl := Option.some.inj H
                        have p299 : 0 ≤ (x92_2 : Int) := of_decide_eq_true (by first | (with_reducible assumption) | assumption)
                        have q299 : x92_2 < (t291.length : Int) := of_decide_eq_true (by first | (with_reducible assumption) | assumption)
                        obtain ⟨ad299, e299, hx299_0⟩ := Kd.at_int (Kd.R_reads' HO_20.out).2.2 x92_2 p299 q299
                        cases e299
                        replace p299 := eq_true p299
                        replace q299 := eq_true q299
                        go_wp2
                        go_ret
                        exact ⟨by first | rfl | (simp [errW_none, errW_some] <;> rfl) | (simp [*, errW_none, errW_some] <;> rfl), by repeat (first | (with_reducible first | exact HB.out | apply below_alloc | apply pw_below_drewN | apply below_drew1 | refine below_set ?_ GE284.out | refine below_set ?_ GE285.out | refine below_set ?_ GE286.out | refine below_set ?_ GE287.out) | exact HB.out)⟩
                    · exact absurd (of_decide_eq_true c30b0) c48
                  · rw [if_neg c47] at H
                    exact absurd H (by simp)
              · rw [if_neg c31] at H
                have c31b0 : decide ((wrap64 (16 * (wrap64 (Int.tmod a0 20)))) ≤ (wrap64 (16 * (Int.tmod x92_2 32)))) = false := decide_eq_false c31
                clear c31
                by_cases c50 : 0 ≤ x92_2
                · rw [if_pos c50] at H
                  have c50b0 : decide (0 ≤ x92_2) = true := decide_eq_true c50
                  clear c50
                  by_cases c51 : x92_2 < (t291.length : Int)
                  · rw [if_pos c51] at H
                    have c51b0 : decide (x92_2 < (t291.length : Int)) = true := decide_eq_true c51
                    clear c51
                    by_cases c52 : (rd t291 x92_2) = 0
                    · rw [if_pos c52] at H
                      have c52b0 : ((rd t291 x92_2) == 0) = true := beq_iff_eq.mpr c52
                      have c52b1 : ((rd t291 x92_2) != 0) = false := bne_eq_false_iff_eq.mpr c52
                      clear c52
                      have H' := Aside0.mk H
                      clear H
                      have p300 : 0 ≤ (x92_2 : Int) := of_decide_eq_true (by first | (with_reducible assumption) | assumption)
                      have q300 : x92_2 < (t291.length : Int) := of_decide_eq_true (by first | (with_reducible assumption) | assumption)
                      obtain ⟨ad300, e300, hx300_0⟩ := Kd.at_int (Kd.R_reads' HO_20.out).2.2 x92_2 p300 q300
                      cases e300
                      replace p300 := eq_true p300
                      replace q300 := eq_true q300
                      go_wp2
                      go_roundg k2
                      case measure => have := HJ6.out; have := HK2.out; omega
                      case rel => exact ⟨(wrap64 (x92_2 + 1)), (by first | rfl | (simp; done) | (simp [*]; done)), H', ⟨by have := HJ6.out; have := HK2.out; omega⟩, ⟨by (with_reducible repeat (first | apply Kd.R_alloc | apply Kd.R_drewN | apply Kd.R_drew)); exact HO_20.out⟩, ⟨by (with_reducible repeat (first | refine blk_drewN ?_ _ | refine blk_drew ?_ | refine blk_alloc ?_ _)); exact BK284.out⟩, ⟨by (with_reducible repeat (first | refine blk_drewN ?_ _ | refine blk_drew ?_ | refine blk_alloc ?_ _)); exact BK285.out⟩, ⟨by (with_reducible repeat (first | refine blk_drewN ?_ _ | refine blk_drew ?_ | refine blk_alloc ?_ _)); exact BK286.out⟩, ⟨by (with_reducible repeat (first | refine blk_drewN ?_ _ | refine blk_drew ?_ | refine blk_alloc ?_ _)); exact BK287.out⟩, ⟨by repeat (first | (with_reducible first | exact HB.out | apply below_alloc | apply pw_below_drewN | apply below_drew1 | refine below_set ?_ GE284.out | refine below_set ?_ GE285.out | refine below_set ?_ GE286.out | refine below_set ?_ GE287.out) | exact HB.out)⟩⟩
                    · rw [if_neg c52] at H
                      have c52b0 : ((rd t291 x92_2) == 0) = false := beq_eq_false_iff_ne.mpr c52
                      have c52b1 : ((rd t291 x92_2) != 0) = true := bne_iff_ne.mpr c52
                      obtain rfl := Option.some.inj H
                      have p300 : 0 ≤ (x92_2 : Int) := of_decide_eq_true (by first | (with_reducible assumption) | assumption)
                      have q300 : x92_2 < (t291.length : Int) := of_decide_eq_true (by first | (with_reducible assumption) | assumption)
                      obtain ⟨ad300, e300, hx300_0⟩ := Kd.at_int (Kd.R_reads' HO_20.out).2.2 x92_2 p300 q300
                      cases e300
                      replace p300 := eq_true p300
                      replace q300 := eq_true q300
                      go_wp2
                      go_ret
                      exact ⟨by first | rfl | (simp [errW_none, errW_some] <;> rfl) | (simp [*, errW_none, errW_some] <;> rfl), by repeat (first | (with_reducible first | exact HB.out | apply below_alloc | apply pw_below_drewN | apply below_drew1 | refine below_set ?_ GE284.out | refine below_set ?_ GE285.out | refine below_set ?_ GE286.out | refine below_set ?_ GE287.out) | exact HB.out)⟩
                  · exact absurd (of_decide_eq_true c30b0) c51
                · rw [if_neg c50] at H
                  exact absurd H (by simp)
            · rw [if_neg c30] at H
              have c30b0 : decide (x92_2 < (t291.length : Int)) = false := decide_eq_false c30
              clear c30
              replace H := Option.bind_eq_some_iff.mp H
              obtain ⟨t301, A530, H⟩ := H
              replace H : (some t301) = some r := H
              have A53 := Aside0.mk A530
              clear A530
              obtain rfl := Option.some.inj H
              go_wp2_with (first | ((with_reducible refine gate_callee (f := 10) rfl ?_); refine goesL_ (some 140) rfl rfl Try.func10 (by kernel_rfl) rfl #[] rfl (by (try simp only [List.map_toArray, List.map_cons, List.map_nil]); first | done | rfl | (simp only [List.length_drop, List.length_take]; rfl)) ?_; (with_reducible refine (celluloidlaw17_awake.calls k2  t301 _ A53.out).mono ?_); rintro e w54 ⟨rfl, hb⟩; refine ⟨_, rfl, ?_⟩; have n0_ := Aside0.mk (Kd.R_below (by (with_reducible repeat (first | apply Kd.R_alloc | apply Kd.R_drewN | apply Kd.R_drew)); exact HO_20.out) hb); have n1_ := Aside0.mk (blk_below (g := gb284) (o := .cells #[.int .i64 (wrap64 (16 * (wrap64 (Int.tmod a0 20)))), .int .i64 (wrap64 (16 * (wrap64 (Int.tmod a1 20))))] 25 (0, 0)) (by (with_reducible repeat (first | refine blk_drewN ?_ _ | refine blk_drew ?_ | refine blk_alloc ?_ _)); exact BK284.out) hb); have n2_ := Aside0.mk (blk_below (g := gb285) (o := .cells #[.int .i64 (wrap64 (16 * (wrap64 (Int.tmod a0 20)))), .int .i64 (wrap64 ((wrap64 (16 * (wrap64 (Int.tmod a1 20)))) + (wrap64 (16 * (wrap64 (Int.tmod a3 20))))))] 25 (0, 0)) (by (with_reducible repeat (first | refine blk_drewN ?_ _ | refine blk_drew ?_ | refine blk_alloc ?_ _)); exact BK285.out) hb); have n3_ := Aside0.mk (blk_below (g := gb286) (o := .cells #[.int .i64 (wrap64 ((wrap64 (16 * (wrap64 (Int.tmod a0 20)))) + (wrap64 (16 * (wrap64 (Int.tmod a2 20)))))), .int .i64 (wrap64 ((wrap64 (16 * (wrap64 (Int.tmod a1 20)))) + (wrap64 (16 * (wrap64 (Int.tmod a3 20))))))] 25 (0, 0)) (by (with_reducible repeat (first | refine blk_drewN ?_ _ | refine blk_drew ?_ | refine blk_alloc ?_ _)); exact BK286.out) hb); have n4_ := Aside0.mk (blk_below (g := gb287) (o := .cells #[.int .i64 (wrap64 ((wrap64 (16 * (wrap64 (Int.tmod a0 20)))) + (wrap64 (16 * (wrap64 (Int.tmod a2 20)))))), .int .i64 (wrap64 (16 * (wrap64 (Int.tmod a1 20))))] 25 (0, 0)) (by (with_reducible repeat (first | refine blk_drewN ?_ _ | refine blk_drew ?_ | refine blk_alloc ?_ _)); exact BK287.out) hb); have n5_ := Aside0.mk (below_step (by repeat (first | (with_reducible first | exact HB.out | apply below_alloc | apply pw_below_drewN | apply below_drew1 | refine below_set ?_ GE284.out | refine below_set ?_ GE285.out | refine below_set ?_ GE286.out | refine below_set ?_ GE287.out) | exact HB.out)) hb); clear HO_20; clear BK284; clear BK285; clear BK286; clear BK287; clear HB; have HO_20 := n0_; have BK284 := n1_; have BK285 := n2_; have BK286 := n3_; have BK287 := n4_; have HB := n5_; clear n0_ n1_ n2_ n3_ n4_ n5_; (try clear hb); (try clear hb2); (try clear hk); (try clear hi)))
              go_ret
              exact ⟨by first | rfl | (simp [errW_none, errW_some] <;> rfl) | (simp [*, errW_none, errW_some] <;> rfl), by repeat (first | (with_reducible first | exact HB.out | apply below_alloc | apply pw_below_drewN | apply below_drew1 | refine below_set ?_ GE284.out | refine below_set ?_ GE285.out | refine below_set ?_ GE286.out | refine below_set ?_ GE287.out) | exact HB.out)⟩

/-- THE ONE PURE STATEMENT of celluloidlaw17_SweepSquares: yours. -/
def celluloidlaw17_SweepSquares.Pure : Prop := ∀ (a0 : Int) (a1 : Int) (a2 : Int) (a3 : Int) (a4 : Int), (Lit.int .u8 a0).wf = true → (Lit.int .u8 a1).wf = true → (Lit.int .u8 a2).wf = true → (Lit.int .u8 a3).wf = true → (Lit.int .u8 a4).wf = true → ∃ k, celluloidlaw17_SweepSquares.f k a0 a1 a2 a3 a4 = some true
theorem celluloidlaw17_SweepSquares.walk (P : celluloidlaw17_SweepSquares.Pure) (a0 : Int) (a1 : Int) (a2 : Int) (a3 : Int) (a4 : Int) (w : World) (w0 : (Lit.int .u8 a0).wf = true) (w1 : (Lit.int .u8 a1).wf = true) (w2 : (Lit.int .u8 a2).wf = true) (w3 : (Lit.int .u8 a3).wf = true) (w4 : (Lit.int .u8 a4).wf = true) :
    Calls Try.prog 8 #[.int .u8 a0, .int .u8 a1, .int .u8 a2, .int .u8 a3, .int .u8 a4] w fun e w' => e = .returned (.bool true) ∧ Below w.heap.size w w' := by
  obtain ⟨k, h⟩ := P a0 a1 a2 a3 a4 w0 w1 w2 w3 w4
  refine (celluloidlaw17_SweepSquares.calls k a0 a1 a2 a3 a4 true w h).mono ?_
  rintro e w' ⟨rfl, hd⟩
  exact ⟨rfl, hd⟩

-- NOT PRINTED: function 9 (celluloidlaw17_SweepShifts)

end Go.Proofs.Ytgmegmhioiljcaa.P
