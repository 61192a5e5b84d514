/- The kinds of the seat's arguments: what reads as data of these types is a value of the print's kinds, and its numbers are of their kinds. -/
import Derived.Test.YtnofihkmgedbfaaOpen
import Derived.Test.YtnofihkmgedbfaaPx0
namespace Go.Proofs.Ytnofihkmgedbfaa.P
open Go.RowKit Go.Proofs.YtnofihkmgedbfaaW.PrintWords Go.Proofs.YtnofihkmgedbfaaW.PrintLast Go.Proofs.YtnofihkmgedbfaaW.PrintMore
set_option linter.unusedVariables false

/-- The numbers of a struct of type 23 are of their kinds. -/
def wfS23 (x : S23) : Prop := ((Lit.int .i64 x.f0).wf = true) ∧ ((Lit.int .i64 x.f1).wf = true)
/-- The numbers of a struct of type 25 are of their kinds. -/
def wfS25 (x : S25) : Prop := (wfS23 x.f0) ∧ (wfS23 x.f1) ∧ ((Lit.int .i64 x.f2).wf = true) ∧ ((Lit.int .i64 x.f3).wf = true)
/-- The numbers of a struct of type 43 are of their kinds. -/
def wfS43 (x : S43) : Prop := ((Lit.int .i64 x.f0).wf = true) ∧ ((Lit.int .i64 x.f1).wf = true) ∧ ((Lit.int .i64 x.f2).wf = true) ∧ ((Lit.int .i64 x.f3).wf = true) ∧ ((Lit.int .i64 x.f4).wf = true) ∧ ((Lit.int .i64 x.f5).wf = true)
theorem rdT3 : Rd Try.prog 3 (Kd.int .i64) (fun a => (Lit.int .i64 a).wf = true) := rd_int Try.underlying3

theorem rdT23 : Rd Try.prog 23 k23 wfS23 :=
  rd_imp (rd_iso (fun p => ⟨p.1, p.2⟩) (fun _ => rfl) (rd_struct Try.underlying23 (by kernel_rfl) (rdf_cons 0 rfl rfl (c := 1) (by kernel_rfl) rdT3 (rdf_last 1 rfl rfl (by kernel_rfl) (c := 1) rfl rdT3)))) (fun a h => by
    obtain ⟨h0, h1⟩ := h
    exact ⟨h0, h1⟩)

theorem rdT25 : Rd Try.prog 25 k25 wfS25 :=
  rd_imp (rd_iso (fun p => ⟨p.1, p.2.1, p.2.2.1, p.2.2.2⟩) (fun _ => rfl) (rd_struct Try.underlying25 (by kernel_rfl) (rdf_cons 0 rfl rfl (c := 2) (by kernel_rfl) rdT23 (rdf_cons 1 rfl rfl (c := 2) (by kernel_rfl) rdT23 (rdf_cons 2 rfl rfl (c := 1) (by kernel_rfl) rdT3 (rdf_last 3 rfl rfl (by kernel_rfl) (c := 1) rfl rdT3)))))) (fun a h => by
    obtain ⟨h0, h1, h2, h3⟩ := h
    exact ⟨h0, h1, h2, h3⟩)

theorem rdT34 : Rd Try.prog 34 (Kd.slice 25 k25) (fun l => l.length ≤ maxLen ∧ ∀ y ∈ l, wfS25 y) := rd_slice Try.underlying34 (by kernel_rfl) rdT25

theorem rdT43 : Rd Try.prog 43 k43 wfS43 :=
  rd_imp (rd_iso (fun p => ⟨p.1, p.2.1, p.2.2.1, p.2.2.2.1, p.2.2.2.2.1, p.2.2.2.2.2⟩) (fun _ => rfl) (rd_struct Try.underlying43 (by kernel_rfl) (rdf_cons 0 rfl rfl (c := 1) (by kernel_rfl) rdT3 (rdf_cons 1 rfl rfl (c := 1) (by kernel_rfl) rdT3 (rdf_cons 2 rfl rfl (c := 1) (by kernel_rfl) rdT3 (rdf_cons 3 rfl rfl (c := 1) (by kernel_rfl) rdT3 (rdf_cons 4 rfl rfl (c := 1) (by kernel_rfl) rdT3 (rdf_last 5 rfl rfl (by kernel_rfl) (c := 1) rfl rdT3)))))))) (fun a h => by
    obtain ⟨h0, h1, h2, h3, h4, h5⟩ := h
    exact ⟨h0, h1, h2, h3, h4, h5⟩)

theorem rdT46 : Rd Try.prog 46 (Kd.int .u16) (fun a => (Lit.int .u16 a).wf = true) := rd_int Try.underlying46

theorem rdT48 : Rd Try.prog 48 (Kd.int .i16) (fun a => (Lit.int .i16 a).wf = true) := rd_int Try.underlying48

end Go.Proofs.Ytnofihkmgedbfaa.P
