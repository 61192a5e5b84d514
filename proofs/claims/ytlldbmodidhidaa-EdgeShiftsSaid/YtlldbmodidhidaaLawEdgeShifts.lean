/- The row of the law EdgeShifts, out of its pure statement and the printed walk: for every argument that its types allow. -/
import Derived.Test.YtlldbmodidhidaaRows
import Derived.Test.YtlldbmodidhidaaSayEdgeShifts
import Derived.Test.YtlldbmodidhidaaPureEdgeShifts
import Derived.WalkKit
import Derived.ProofKit
import Derived.OpenShut
import Derived.ShutString
import Derived.ChangeOld
import Derived.Below
import Derived.SizedLaws
import Derived.Carry
namespace Go.Proofs.Ytlldbmodidhidaa.edgeShifts
open Go.ChangeShapes Go.WideShapes Go.ChangeAt Go.RowKit
open Go.ChangeMaps (open_string shut_string)
open Go.Proofs.Ytlldbmodidhidaa.P Go.Proofs.YtlldbmodidhidaaW.PrintWords Go.Proofs.YtlldbmodidhidaaW.PrintLast Go.Proofs.YtlldbmodidhidaaW.PrintMore
set_option linter.unusedVariables false
set_option linter.unusedSimpArgs false
theorem own : ownKnob Try.prog.godebug = none := by kernel_rfl
theorem laidOut : laidOutB Try.prog = true := by kernel_rfl
set_option maxRecDepth 100000 in
set_option maxHeartbeats 4000000 in
theorem lifted (os : Os) (started : os.Started) (H : Type) (enc : TypeId × Value → H) :
    ReturnsInHanded {} Try.checked os 5 .any (Rows.edgeShiftsSpec.pre6 enc Try.prog Try.f5 Rows.edgeShiftsRow.domain false) (Rows.edgeShiftsSpec.post enc Try.prog Try.f5 false true false false) := by
  refine returnsInHanded_of_change_sized (C := Try.checked) own started (by kernel_rfl) Try.func5
    (ChangeSpec.witness6 (enc := enc) (C := Try.checked) false ⟨#[], #[.agg #[.int .i64 0, .int .i64 0, .int .i64 0, .int .i64 0, .int .i64 0, .slice none 0 0, .slice none 0 0, .slice none 0 0], .int .i16 0, .int .i16 0], []⟩ 8 (by kernel_rfl) (by kernel_rfl) (by kernel_rfl) (by kernel_rfl)) ?_
  intro W base args ds gs before hval0 hW hcnd hsz0 _
  have hval : ∀ (j : Nat) t v, Try.f5.params[j]? = some t → args[j]? = some v → Value.okWide Try.prog W .any base t v := hval0
  have hW' := hW
  obtain ⟨p, q, hA0, hV, rfl, hfz, hnd⟩ := hW
  have hA : DataW.TrodAll enc Try.prog W 0 (fun _ => true) true Try.f5.params.toList args.toList ds p := hA0
  rw [Try.params5] at hA hval
  obtain ⟨v0, vs0, d0, ds0, p0, q0, hargs, rfl, rfl, h0, r0⟩ := trodAll_cons hA
  obtain ⟨v1, vs1, d1, ds1, p1, q1, rfl, rfl, rfl, h1, r1⟩ := trodAll_cons r0
  obtain ⟨v2, vs2, d2, ds2, p2, q2, rfl, rfl, rfl, h2, r2⟩ := trodAll_cons r1
  obtain ⟨rfl, rfl, rfl⟩ := trodAll_nil r2
  obtain rfl : args = #[v0, v1, v2] := by cases args; simp_all
  obtain ⟨rfl, rfl⟩ := trodVars_none hV
  have kk0 := h0
  have lt0 : ∀ x ∈ p0, x.block < W.heap.size := by obtain ⟨m, hm⟩ := kk0; exact DataW.trod_lt m _ _ _ hm
  obtain ⟨cs0, rfl, hs0⟩ := okWide_struct Try.underlying28 (hval 0 28 v0 rfl rfl)
  obtain ⟨fuel0, hf0⟩ := h0
  obtain ⟨x0, K0, w0⟩ := rdT28 H enc W _ _ _ _ _ _ hf0
  obtain ⟨A0_5, c0_5, A0_6, c0_6, A0_7, c0_7, he0, hc0_5, hr0_5, hc0_6, hr0_6, hc0_7, hr0_7⟩ := k28_open K0
  obtain rfl : cs0 = #[.int .i64 x0.f0, .int .i64 x0.f1.f0, .int .i64 x0.f1.f1, .int .i64 x0.f1.f2, .int .i64 x0.f1.f3, .slice A0_5 x0.f2.length c0_5, .slice A0_6 x0.f3.length c0_6, .slice A0_7 x0.f4.length c0_7] := by have := congrArg List.toArray he0; simpa [Value.cells] using this
  obtain ⟨a1, rfl, rfl, rfl, w1⟩ := open_int Try.underlying52 (hval 1 52 v1 rfl rfl) h1
  obtain ⟨a2, rfl, rfl, rfl, w2⟩ := open_int Try.underlying52 (hval 2 52 v2 rfl rfl) h2
  clear hA0 hval0 hsz0
  obtain ⟨k, h⟩ := Pure.EdgeShifts x0 a1 a2 w0 w1 w2
  refine (celluloidlaw15_EdgeShifts.calls k x0.f0 x0.f1.f0 x0.f1.f1 x0.f1.f2 x0.f1.f3 (fun k_ => k_ < W.heap.size) _ _ x0.f2 _ _ x0.f3 (fun k_ => k_ < W.heap.size) _ _ x0.f4 a1 a2 true W (Kd.V_mk hc0_5 (Kd.C_F k65_heap hr0_5)) hr0_6 hc0_6 (Kd.V_mk hc0_7 (Kd.C_F k49_heap hr0_7)) h).mono fun e W' ⟨he, bel0⟩ => ?_
  have bel : Below W.heap.size W W' := bel0
  subst he
  exact ⟨_, rfl, _, _, _, [], _, [], hW', trodAll_mk1 (shut_bool Try.underlying4 _), (trodAll_cons_mk (Below.trod laidOut (by kernel_rfl) (of_decide_eq_true (by kernel_rfl)) kk0 bel lt0) (trodAll_cons_mk (shut_int Try.underlying52 w1) (trodAll_cons_mk (shut_int Try.underlying52 w2) trodAll_mk0))), rfl, bel.frame _, fun h => by cases h⟩
theorem over : Rows.edgeShiftsRow.holds Try.pinned (OpenSpec.ofChange Rows.edgeShiftsSpec) :=
  OpenClaim.holds_of_wide 5 Try.f5 rfl rfl rfl rfl rfl rfl rfl ⟨rfl, rfl, rfl, rfl, rfl⟩ rfl rfl rfl rfl rfl (by kernel_rfl) Try.func5 (by kernel_rfl)
    (of_decide_eq_true (by kernel_rfl)) (by unfold Func.isWrapper; first | (rw [if_pos (by decide +kernel)]; kernel_rfl) | (rw [if_neg (by decide +kernel)]; exact ⟨rfl, rfl⟩))
    (fun os started H enc _ => lifted os started H enc)
theorem proved : Rows.EdgeShiftsSaid := over
#print axioms proved
end Go.Proofs.Ytlldbmodidhidaa.edgeShifts
namespace Go.Proofs.Ytlldbmodidhidaa
/-- The row, under a short name, for the claim. -/
theorem edgeShifts_holds : Rows.EdgeShiftsSaid := edgeShifts.proved
end Go.Proofs.Ytlldbmodidhidaa
