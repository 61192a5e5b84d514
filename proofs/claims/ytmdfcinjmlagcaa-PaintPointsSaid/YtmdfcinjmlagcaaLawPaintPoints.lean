/- The row of the law PaintPoints, out of its pure statement and the printed walk: for every argument that its types allow. -/
import Derived.Test.YtmdfcinjmlagcaaRows
import Derived.Test.YtmdfcinjmlagcaaSayPaintPoints
import Derived.Test.YtmdfcinjmlagcaaPurePaintPoints
import Derived.Test.YtmdfcinjmlagcaaSized
import Derived.WalkKit
import Derived.ProofKit
import Derived.OpenShut
import Derived.ShutString
import Derived.ChangeOld
import Derived.Below
import Derived.SizedLaws
import Derived.Carry
namespace Go.Proofs.Ytmdfcinjmlagcaa.paintPoints
open Go.ChangeShapes Go.WideShapes Go.ChangeAt Go.RowKit
open Go.ChangeMaps (open_string shut_string)
open Go.Proofs.Ytmdfcinjmlagcaa.P Go.Proofs.YtmdfcinjmlagcaaW.PrintWords Go.Proofs.YtmdfcinjmlagcaaW.PrintLast Go.Proofs.YtmdfcinjmlagcaaW.PrintMore
set_option linter.unusedVariables false
set_option linter.unusedSimpArgs false
theorem own : ownKnob Try.prog.godebug = none := by kernel_rfl
theorem laidOut : laidOutB Try.prog = true := by kernel_rfl
set_option maxRecDepth 100000 in
set_option maxHeartbeats 4000000 in
theorem lifted (os : Os) (started : os.Started) (H : Type) (enc : TypeId × Value → H) :
    ReturnsInHanded {} Try.checked os 5 .any (Rows.paintPointsSpec.pre6 enc Try.prog Try.f5 Rows.paintPointsRow.domain false) (Rows.paintPointsSpec.post enc Try.prog Try.f5 false true false false) := by
  refine returnsInHanded_of_change_sized (C := Try.checked) own started (by kernel_rfl) Try.func5
    (ChangeSpec.witness6 (enc := enc) (C := Try.checked) false ⟨#[], #[.agg #[.int .i64 0, .int .i64 0, .int .i64 0, .int .i64 0, .int .i64 0, .int .i64 0, .int .i64 0, .int .i64 0, .int .i64 0, .int .i64 0, .int .i64 0, .int .i64 0, .slice none 0 0, .int .i64 0], .agg #[.int .i64 0, .int .i64 0, .int .i64 0, .int .i64 0, .int .i64 0, .int .i64 0], .agg #[.int .i64 0, .int .i64 0, .int .i64 0, .int .i64 0, .int .i64 0, .int .i64 0, .int .i64 0, .int .i64 0], .slice none 0 0, .agg #[.int .i64 0, .int .i64 0]], []⟩ 8 (by kernel_rfl) (by kernel_rfl) (by kernel_rfl) (by kernel_rfl)) ?_
  intro W base args ds gs before hval0 hW hcnd hsz0 _
  have hsz : (DataW.weightsEach Try.prog (Try.f5.params.toList ++ Rows.paintPointsSpec.plain.varTypes Try.prog) (ds ++ gs)).all (· ≤ reachBytes) = true := hsz0
  have hval : ∀ (j : Nat) t v, Try.f5.params[j]? = some t → args[j]? = some v → Value.okWide Try.prog W .any base t v := hval0
  have hW' := hW
  obtain ⟨p, q, hA0, hV, rfl, hfz, hnd⟩ := hW
  have hA : DataW.TrodAll enc Try.prog W 0 (fun _ => true) true Try.f5.params.toList args.toList ds p := hA0
  rw [Try.params5] at hA hval
  obtain ⟨v0, vs0, d0, ds0, p0, q0, hargs, rfl, rfl, h0, r0⟩ := trodAll_cons hA
  obtain ⟨v1, vs1, d1, ds1, p1, q1, rfl, rfl, rfl, h1, r1⟩ := trodAll_cons r0
  obtain ⟨v2, vs2, d2, ds2, p2, q2, rfl, rfl, rfl, h2, r2⟩ := trodAll_cons r1
  obtain ⟨v3, vs3, d3, ds3, p3, q3, rfl, rfl, rfl, h3, r3⟩ := trodAll_cons r2
  obtain ⟨v4, vs4, d4, ds4, p4, q4, rfl, rfl, rfl, h4, r4⟩ := trodAll_cons r3
  obtain ⟨rfl, rfl, rfl⟩ := trodAll_nil r4
  obtain rfl : args = #[v0, v1, v2, v3, v4] := by cases args; simp_all
  obtain ⟨rfl, rfl⟩ := trodVars_none hV
  have kk0 := h0
  have lt0 : ∀ x ∈ p0, x.block < W.heap.size := by obtain ⟨m, hm⟩ := kk0; exact DataW.trod_lt m _ _ _ hm
  obtain ⟨cs0, rfl, hs0⟩ := okWide_struct Try.underlying31 (hval 0 31 v0 rfl rfl)
  obtain ⟨fuel0, hf0⟩ := h0
  obtain ⟨x0, K0, w0⟩ := rdT31 H enc W _ _ _ _ _ _ hf0
  obtain ⟨A0_12, c0_12, he0, hc0_12, hr0_12⟩ := k31_open K0
  obtain rfl : cs0 = #[.int .i64 x0.f0, .int .i64 x0.f1.f0, .int .i64 x0.f1.f1, .int .i64 x0.f1.f2, .int .i64 x0.f1.f3, .int .i64 x0.f2.f0, .int .i64 x0.f2.f1, .int .i64 x0.f2.f2, .int .i64 x0.f2.f3, .int .i64 x0.f2.f4, .int .i64 x0.f2.f5, .int .i64 x0.f3, .slice A0_12 x0.f4.length c0_12, .int .i64 x0.f5] := by have := congrArg List.toArray he0; simpa [Value.cells] using this
  have kk1 := h1
  have lt1 : ∀ x ∈ p1, x.block < W.heap.size := by obtain ⟨m, hm⟩ := kk1; exact DataW.trod_lt m _ _ _ hm
  obtain ⟨cs1, rfl, hs1⟩ := okWide_struct Try.underlying28 (hval 1 28 v1 rfl rfl)
  obtain ⟨fuel1, hf1⟩ := h1
  obtain ⟨x1, K1, w1⟩ := rdT28 H enc W _ _ _ _ _ _ hf1
  have he1 := k28_open K1
  obtain rfl : cs1 = #[.int .i64 x1.f0, .int .i64 x1.f1, .int .i64 x1.f2, .int .i64 x1.f3, .int .i64 x1.f4, .int .i64 x1.f5] := by have := congrArg List.toArray he1; simpa [Value.cells] using this
  have kk2 := h2
  have lt2 : ∀ x ∈ p2, x.block < W.heap.size := by obtain ⟨m, hm⟩ := kk2; exact DataW.trod_lt m _ _ _ hm
  obtain ⟨cs2, rfl, hs2⟩ := okWide_struct Try.underlying34 (hval 2 34 v2 rfl rfl)
  obtain ⟨fuel2, hf2⟩ := h2
  obtain ⟨x2, K2, w2⟩ := rdT34 H enc W _ _ _ _ _ _ hf2
  have he2 := k34_open K2
  obtain rfl : cs2 = #[.int .i64 x2.f0.f0, .int .i64 x2.f0.f1, .int .i64 x2.f0.f2, .int .i64 x2.f0.f3, .int .i64 x2.f1.f0, .int .i64 x2.f1.f1, .int .i64 x2.f1.f2, .int .i64 x2.f1.f3] := by have := congrArg List.toArray he2; simpa [Value.cells] using this
  have kk3 := h3
  have lt3 : ∀ x ∈ p3, x.block < W.heap.size := by obtain ⟨m, hm⟩ := kk3; exact DataW.trod_lt m _ _ _ hm
  obtain ⟨A3, len3, cap3, rfl⟩ := okWide_slice Try.underlying35 (hval 3 35 v3 rfl rfl)
  have z3 := sized_any hsz (j := 3) (t := 35) rfl rfl Try.underlying35 (B := 48) (by kernel_rfl) h3
  obtain ⟨fuel3, hf3⟩ := h3
  obtain ⟨l3, ⟨Aa, cc, he3, hc3, hr3⟩, w3⟩ := rdT35 H enc W _ _ _ _ _ _ hf3
  obtain ⟨rfl, rfl, rfl⟩ : A3 = Aa ∧ len3 = l3.length ∧ cap3 = cc := by simpa [Value.cells] using he3
  have kk4 := h4
  have lt4 : ∀ x ∈ p4, x.block < W.heap.size := by obtain ⟨m, hm⟩ := kk4; exact DataW.trod_lt m _ _ _ hm
  obtain ⟨cs4, rfl, hs4⟩ := okWide_struct Try.underlying37 (hval 4 37 v4 rfl rfl)
  obtain ⟨fuel4, hf4⟩ := h4
  obtain ⟨x4, K4, w4⟩ := rdT37 H enc W _ _ _ _ _ _ hf4
  have he4 := k37_open K4
  obtain rfl : cs4 = #[.int .i64 x4.f0, .int .i64 x4.f1] := by have := congrArg List.toArray he4; simpa [Value.cells] using this
  clear hA0 hval0 hsz0 hsz
  obtain ⟨k, h⟩ := Pure.PaintPoints x0 x1 x2 l3 x4 w0 w1 w2 w3 z3 w4
  refine (celluloidlaw20_PaintPoints.calls k x0.f0 x0.f1.f0 x0.f1.f1 x0.f1.f2 x0.f1.f3 x0.f2.f0 x0.f2.f1 x0.f2.f2 x0.f2.f3 x0.f2.f4 x0.f2.f5 x0.f3 _ _ x0.f4 x0.f5 x1.f0 x1.f1 x1.f2 x1.f3 x1.f4 x1.f5 x2.f0.f0 x2.f0.f1 x2.f0.f2 x2.f0.f3 x2.f1.f0 x2.f1.f1 x2.f1.f2 x2.f1.f3 _ _ l3 x4.f0 x4.f1 true W hr0_12 hc0_12 hr3 hc3 h).mono fun e W' ⟨he, bel0⟩ => ?_
  have bel : Below W.heap.size W W' := bel0
  subst he
  exact ⟨_, rfl, _, _, _, [], _, [], hW', trodAll_mk1 (shut_bool Try.underlying4 _), (trodAll_cons_mk (Below.trod laidOut (by kernel_rfl) (of_decide_eq_true (by kernel_rfl)) kk0 bel lt0) (trodAll_cons_mk (Below.trod laidOut (by kernel_rfl) (of_decide_eq_true (by kernel_rfl)) kk1 bel lt1) (trodAll_cons_mk (Below.trod laidOut (by kernel_rfl) (of_decide_eq_true (by kernel_rfl)) kk2 bel lt2) (trodAll_cons_mk (Below.trod laidOut (by kernel_rfl) (of_decide_eq_true (by kernel_rfl)) kk3 bel lt3) (trodAll_cons_mk (Below.trod laidOut (by kernel_rfl) (of_decide_eq_true (by kernel_rfl)) kk4 bel lt4) trodAll_mk0))))), rfl, bel.frame _, fun h => by cases h⟩
theorem over : Rows.paintPointsRow.holds Try.pinned (OpenSpec.ofChange Rows.paintPointsSpec) :=
  OpenClaim.holds_of_wide 5 Try.f5 rfl rfl rfl rfl rfl rfl rfl ⟨rfl, rfl, rfl, rfl, rfl⟩ rfl rfl rfl rfl rfl (by kernel_rfl) Try.func5 (by kernel_rfl)
    (of_decide_eq_true (by kernel_rfl)) (by unfold Func.isWrapper; first | (rw [if_pos (by decide +kernel)]; kernel_rfl) | (rw [if_neg (by decide +kernel)]; exact ⟨rfl, rfl⟩))
    (fun os started H enc _ => lifted os started H enc)
theorem proved : Rows.PaintPointsSaid := over
#print axioms proved
end Go.Proofs.Ytmdfcinjmlagcaa.paintPoints
namespace Go.Proofs.Ytmdfcinjmlagcaa
/-- The row, under a short name, for the claim. -/
theorem paintPoints_holds : Rows.PaintPointsSaid := paintPoints.proved
end Go.Proofs.Ytmdfcinjmlagcaa
