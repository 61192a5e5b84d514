/- The kinds of the seat's arguments: what reads as data of these types is a value of the print's kinds, and its numbers are of their kinds. -/
import Derived.Test.YtgmegmhioiljcaaOpen
import Derived.Test.YtgmegmhioiljcaaPx0
namespace Go.Proofs.Ytgmegmhioiljcaa.P
open Go.RowKit Go.Proofs.YtgmegmhioiljcaaW.PrintWords Go.Proofs.YtgmegmhioiljcaaW.PrintLast Go.Proofs.YtgmegmhioiljcaaW.PrintMore
set_option linter.unusedVariables false

/-- The numbers of a struct of type 25 are of their kinds. -/
def wfS25 (x : S25) : Prop := ((Lit.int .i64 x.f0).wf = true) ∧ ((Lit.int .i64 x.f1).wf = true)
/-- The numbers of a struct of type 27 are of their kinds. -/
def wfS27 (x : S27) : Prop := (wfS25 x.f0) ∧ (wfS25 x.f1) ∧ ((Lit.int .i64 x.f2).wf = true) ∧ ((Lit.int .i64 x.f3).wf = true)
theorem rdT3 : Rd Try.prog 3 (Kd.int .i64) (fun a => (Lit.int .i64 a).wf = true) := rd_int Try.underlying3

theorem rdT25 : Rd Try.prog 25 k25 wfS25 :=
  rd_imp (rd_iso (fun p => ⟨p.1, p.2⟩) (fun _ => rfl) (rd_struct Try.underlying25 (by kernel_rfl) (rdf_cons 0 rfl rfl (c := 1) (by kernel_rfl) rdT3 (rdf_last 1 rfl rfl (by kernel_rfl) (c := 1) rfl rdT3)))) (fun a h => by
    obtain ⟨h0, h1⟩ := h
    exact ⟨h0, h1⟩)

theorem rdT27 : Rd Try.prog 27 k27 wfS27 :=
  rd_imp (rd_iso (fun p => ⟨p.1, p.2.1, p.2.2.1, p.2.2.2⟩) (fun _ => rfl) (rd_struct Try.underlying27 (by kernel_rfl) (rdf_cons 0 rfl rfl (c := 2) (by kernel_rfl) rdT25 (rdf_cons 1 rfl rfl (c := 2) (by kernel_rfl) rdT25 (rdf_cons 2 rfl rfl (c := 1) (by kernel_rfl) rdT3 (rdf_last 3 rfl rfl (by kernel_rfl) (c := 1) rfl rdT3)))))) (fun a h => by
    obtain ⟨h0, h1, h2, h3⟩ := h
    exact ⟨h0, h1, h2, h3⟩)

theorem rdT22 : Rd Try.prog 22 (Kd.slice 27 k27) (fun l => l.length ≤ maxLen ∧ ∀ y ∈ l, wfS27 y) := rd_slice Try.underlying22 (by kernel_rfl) rdT27

theorem rdT44 : Rd Try.prog 44 (Kd.int .u64) (fun a => (Lit.int .u64 a).wf = true) := rd_int Try.underlying44

end Go.Proofs.Ytgmegmhioiljcaa.P
