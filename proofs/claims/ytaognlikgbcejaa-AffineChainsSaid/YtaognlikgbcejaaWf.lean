/- The kinds of the seat's arguments: what reads as data of these types is a value of the print's kinds, and its numbers are of their kinds. -/
import Derived.Test.YtaognlikgbcejaaOpen
import Derived.Test.YtaognlikgbcejaaPx0
namespace Go.Proofs.Ytaognlikgbcejaa.P
open Go.RowKit Go.Proofs.YtaognlikgbcejaaW.PrintWords Go.Proofs.YtaognlikgbcejaaW.PrintLast Go.Proofs.YtaognlikgbcejaaW.PrintMore
set_option linter.unusedVariables false

/-- The numbers of a struct of type 23 are of their kinds. -/
def wfS23 (x : S23) : Prop := ((Lit.int .i64 x.f0).wf = true) ∧ ((Lit.int .i64 x.f1).wf = true) ∧ ((Lit.int .i64 x.f2).wf = true) ∧ ((Lit.int .i64 x.f3).wf = true) ∧ ((Lit.int .i64 x.f4).wf = true) ∧ ((Lit.int .i64 x.f5).wf = true)
/-- The numbers of a struct of type 25 are of their kinds. -/
def wfS25 (x : S25) : Prop := ((Lit.int .i64 x.f0).wf = true) ∧ ((Lit.int .i64 x.f1).wf = true)
/-- The numbers of a struct of type 39 are of their kinds. -/
def wfS39 (x : S39) : Prop := ((Lit.int .i64 x.f0).wf = true) ∧ ((Lit.int .i64 x.f1).wf = true) ∧ ((Lit.int .i64 x.f2).wf = true) ∧ ((Lit.int .i64 x.f3).wf = true)
/-- The numbers of a struct of type 41 are of their kinds. -/
def wfS41 (x : S41) : Prop := (wfS39 x.f0) ∧ (wfS39 x.f1)
/-- The numbers of a struct of type 43 are of their kinds. -/
def wfS43 (x : S43) : Prop := ((Lit.int .i64 x.f0).wf = true) ∧ ((Lit.int .i64 x.f1).wf = true) ∧ ((Lit.int .i64 x.f2).wf = true) ∧ ((Lit.int .i64 x.f3).wf = true)
/-- The numbers of a struct of type 49 are of their kinds. -/
def wfS49 (x : S49) : Prop := ((Lit.int .i8 x.f0).wf = true) ∧ ((Lit.int .i8 x.f1).wf = true) ∧ ((Lit.int .i8 x.f2).wf = true) ∧ ((Lit.int .i8 x.f3).wf = true) ∧ ((Lit.int .i8 x.f4).wf = true) ∧ ((Lit.int .i8 x.f5).wf = true)
theorem rdT3 : Rd Try.prog 3 (Kd.int .i64) (fun a => (Lit.int .i64 a).wf = true) := rd_int Try.underlying3

theorem rdT23 : Rd Try.prog 23 k23 wfS23 :=
  rd_imp (rd_iso (fun p => ⟨p.1, p.2.1, p.2.2.1, p.2.2.2.1, p.2.2.2.2.1, p.2.2.2.2.2⟩) (fun _ => rfl) (rd_struct Try.underlying23 (by kernel_rfl) (rdf_cons 0 rfl rfl (c := 1) (by kernel_rfl) rdT3 (rdf_cons 1 rfl rfl (c := 1) (by kernel_rfl) rdT3 (rdf_cons 2 rfl rfl (c := 1) (by kernel_rfl) rdT3 (rdf_cons 3 rfl rfl (c := 1) (by kernel_rfl) rdT3 (rdf_cons 4 rfl rfl (c := 1) (by kernel_rfl) rdT3 (rdf_last 5 rfl rfl (by kernel_rfl) (c := 1) rfl rdT3)))))))) (fun a h => by
    obtain ⟨h0, h1, h2, h3, h4, h5⟩ := h
    exact ⟨h0, h1, h2, h3, h4, h5⟩)

theorem rdT25 : Rd Try.prog 25 k25 wfS25 :=
  rd_imp (rd_iso (fun p => ⟨p.1, p.2⟩) (fun _ => rfl) (rd_struct Try.underlying25 (by kernel_rfl) (rdf_cons 0 rfl rfl (c := 1) (by kernel_rfl) rdT3 (rdf_last 1 rfl rfl (by kernel_rfl) (c := 1) rfl rdT3)))) (fun a h => by
    obtain ⟨h0, h1⟩ := h
    exact ⟨h0, h1⟩)

theorem rdT21 : Rd Try.prog 21 (Kd.int .i32) (fun a => (Lit.int .i32 a).wf = true) := rd_int Try.underlying21

theorem rdT39 : Rd Try.prog 39 k39 wfS39 :=
  rd_imp (rd_iso (fun p => ⟨p.1, p.2.1, p.2.2.1, p.2.2.2⟩) (fun _ => rfl) (rd_array (sz := 1) Try.underlying39 (by kernel_rfl) (by kernel_rfl) (rdf_cons 0 rfl rfl (c := 1) (by kernel_rfl) rdT3 (rdf_cons 1 rfl rfl (c := 1) (by kernel_rfl) rdT3 (rdf_cons 2 rfl rfl (c := 1) (by kernel_rfl) rdT3 (rdf_last 3 rfl rfl (by kernel_rfl) (c := 1) rfl rdT3)))))) (fun a h => by
    obtain ⟨h0, h1, h2, h3⟩ := h
    exact ⟨h0, h1, h2, h3⟩)

theorem rdT41 : Rd Try.prog 41 k41 wfS41 :=
  rd_imp (rd_iso (fun p => ⟨p.1, p.2⟩) (fun _ => rfl) (rd_struct Try.underlying41 (by kernel_rfl) (rdf_cons 0 rfl rfl (c := 4) (by kernel_rfl) rdT39 (rdf_last 1 rfl rfl (by kernel_rfl) (c := 4) rfl rdT39)))) (fun a h => by
    obtain ⟨h0, h1⟩ := h
    exact ⟨h0, h1⟩)

theorem rdT43 : Rd Try.prog 43 k43 wfS43 :=
  rd_imp (rd_iso (fun p => ⟨p.1, p.2.1, p.2.2.1, p.2.2.2⟩) (fun _ => rfl) (rd_struct Try.underlying43 (by kernel_rfl) (rdf_cons 0 rfl rfl (c := 1) (by kernel_rfl) rdT3 (rdf_cons 1 rfl rfl (c := 1) (by kernel_rfl) rdT3 (rdf_cons 2 rfl rfl (c := 1) (by kernel_rfl) rdT3 (rdf_last 3 rfl rfl (by kernel_rfl) (c := 1) rfl rdT3)))))) (fun a h => by
    obtain ⟨h0, h1, h2, h3⟩ := h
    exact ⟨h0, h1, h2, h3⟩)

theorem rdT48 : Rd Try.prog 48 (Kd.int .i8) (fun a => (Lit.int .i8 a).wf = true) := rd_int Try.underlying48

theorem rdT49 : Rd Try.prog 49 k49 wfS49 :=
  rd_imp (rd_iso (fun p => ⟨p.1, p.2.1, p.2.2.1, p.2.2.2.1, p.2.2.2.2.1, p.2.2.2.2.2⟩) (fun _ => rfl) (rd_array (sz := 1) Try.underlying49 (by kernel_rfl) (by kernel_rfl) (rdf_cons 0 rfl rfl (c := 1) (by kernel_rfl) rdT48 (rdf_cons 1 rfl rfl (c := 1) (by kernel_rfl) rdT48 (rdf_cons 2 rfl rfl (c := 1) (by kernel_rfl) rdT48 (rdf_cons 3 rfl rfl (c := 1) (by kernel_rfl) rdT48 (rdf_cons 4 rfl rfl (c := 1) (by kernel_rfl) rdT48 (rdf_last 5 rfl rfl (by kernel_rfl) (c := 1) rfl rdT48)))))))) (fun a h => by
    obtain ⟨h0, h1, h2, h3, h4, h5⟩ := h
    exact ⟨h0, h1, h2, h3, h4, h5⟩)

end Go.Proofs.Ytaognlikgbcejaa.P
