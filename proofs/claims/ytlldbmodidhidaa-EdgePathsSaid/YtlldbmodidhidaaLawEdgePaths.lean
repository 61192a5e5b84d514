/- The row of the law EdgePaths, out of its pure statement and the printed walk: for every argument that its types allow. -/
import Derived.Test.YtlldbmodidhidaaRows
import Derived.Test.YtlldbmodidhidaaSayEdgePaths
import Derived.Test.YtlldbmodidhidaaPureEdgePaths
import Derived.WalkKit
import Derived.ProofKit
import Derived.OpenShut
import Derived.ShutString
import Derived.ChangeOld
import Derived.Below
import Derived.SizedLaws
import Derived.Carry
namespace Go.Proofs.Ytlldbmodidhidaa.edgePaths
open Go.ChangeShapes Go.WideShapes Go.ChangeAt Go.RowKit
open Go.ChangeMaps (open_string shut_string)
open Go.Proofs.Ytlldbmodidhidaa.P Go.Proofs.YtlldbmodidhidaaW.PrintWords Go.Proofs.YtlldbmodidhidaaW.PrintLast Go.Proofs.YtlldbmodidhidaaW.PrintMore
set_option linter.unusedVariables false
set_option linter.unusedSimpArgs false
theorem own : ownKnob Try.prog.godebug = none := by kernel_rfl
theorem laidOut : laidOutB Try.prog = true := by kernel_rfl
set_option maxRecDepth 100000 in
set_option maxHeartbeats 4000000 in
theorem lifted (os : Os) (started : os.Started) (H : Type) (enc : TypeId × Value → H) :
    ReturnsInHanded {} Try.checked os 3 .any (Rows.edgePathsSpec.pre6 enc Try.prog Try.f3 Rows.edgePathsRow.domain false) (Rows.edgePathsSpec.post enc Try.prog Try.f3 false true false false) := by
  refine returnsInHanded_of_change_sized (C := Try.checked) own started (by kernel_rfl) Try.func3
    (ChangeSpec.witness6 (enc := enc) (C := Try.checked) false ⟨#[], #[.agg #[.int .i64 0, .int .i64 0, .int .i64 0, .int .i64 0, .int .i64 0, .slice none 0 0, .slice none 0 0, .slice none 0 0]], []⟩ 8 (by kernel_rfl) (by kernel_rfl) (by kernel_rfl) (by kernel_rfl)) ?_
  intro W base args ds gs before hval0 hW hcnd hsz0 _
  have hval : ∀ (j : Nat) t v, Try.f3.params[j]? = some t → args[j]? = some v → Value.okWide Try.prog W .any base t v := hval0
  have hW' := hW
  obtain ⟨p, q, hA0, hV, rfl, hfz, hnd⟩ := hW
  have hA : DataW.TrodAll enc Try.prog W 0 (fun _ => true) true Try.f3.params.toList args.toList ds p := hA0
  rw [Try.params3] at hA hval
  obtain ⟨v0, vs0, d0, ds0, p0, q0, hargs, rfl, rfl, h0, r0⟩ := trodAll_cons hA
  obtain ⟨rfl, rfl, rfl⟩ := trodAll_nil r0
  obtain rfl : args = #[v0] := by cases args; simp_all
  obtain ⟨rfl, rfl⟩ := trodVars_none hV
  have kk0 := h0
  have lt0 : ∀ x ∈ p0, x.block < W.heap.size := by obtain ⟨m, hm⟩ := kk0; exact DataW.trod_lt m _ _ _ hm
  obtain ⟨cs0, rfl, hs0⟩ := okWide_struct Try.underlying28 (hval 0 28 v0 rfl rfl)
  obtain ⟨fuel0, hf0⟩ := h0
  obtain ⟨x0, K0, w0⟩ := rdT28 H enc W _ _ _ _ _ _ hf0
  obtain ⟨A0_5, c0_5, A0_6, c0_6, A0_7, c0_7, he0, hc0_5, hr0_5, hc0_6, hr0_6, hc0_7, hr0_7⟩ := k28_open K0
  obtain rfl : cs0 = #[.int .i64 x0.f0, .int .i64 x0.f1.f0, .int .i64 x0.f1.f1, .int .i64 x0.f1.f2, .int .i64 x0.f1.f3, .slice A0_5 x0.f2.length c0_5, .slice A0_6 x0.f3.length c0_6, .slice A0_7 x0.f4.length c0_7] := by have := congrArg List.toArray he0; simpa [Value.cells] using this
  clear hA0 hval0 hsz0
  obtain ⟨k, h⟩ := Pure.EdgePaths x0 w0
  refine (celluloidlaw15_EdgePaths.calls k x0.f0 x0.f1.f0 x0.f1.f1 x0.f1.f2 x0.f1.f3 _ _ x0.f2 _ _ x0.f3 _ _ x0.f4 true W hr0_5 hc0_5 hr0_6 hc0_6 hr0_7 hc0_7 h).mono fun e W' ⟨he, bel0⟩ => ?_
  have bel : Below W.heap.size W W' := bel0
  subst he
  exact ⟨_, rfl, _, _, _, [], _, [], hW', trodAll_mk1 (shut_bool Try.underlying4 _), (trodAll_cons_mk (Below.trod laidOut (by kernel_rfl) (of_decide_eq_true (by kernel_rfl)) kk0 bel lt0) trodAll_mk0), rfl, bel.frame _, fun h => by cases h⟩
theorem over : Rows.edgePathsRow.holds Try.pinned (OpenSpec.ofChange Rows.edgePathsSpec) :=
  OpenClaim.holds_of_wide 3 Try.f3 rfl rfl rfl rfl rfl rfl rfl ⟨rfl, rfl, rfl, rfl, rfl⟩ rfl rfl rfl rfl rfl (by kernel_rfl) Try.func3 (by kernel_rfl)
    (of_decide_eq_true (by kernel_rfl)) (by unfold Func.isWrapper; first | (rw [if_pos (by decide +kernel)]; kernel_rfl) | (rw [if_neg (by decide +kernel)]; exact ⟨rfl, rfl⟩))
    (fun os started H enc _ => lifted os started H enc)
theorem proved : Rows.EdgePathsSaid := over
#print axioms proved
end Go.Proofs.Ytlldbmodidhidaa.edgePaths
namespace Go.Proofs.Ytlldbmodidhidaa
/-- The row, under a short name, for the claim. -/
theorem edgePaths_holds : Rows.EdgePathsSaid := edgePaths.proved
end Go.Proofs.Ytlldbmodidhidaa
