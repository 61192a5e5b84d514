/- The kinds of the seat's arguments: what reads as data of these types is a value of the print's kinds, and its numbers are of their kinds. -/
import Derived.Test.YtmdfcinjmlagcaaOpen
import Derived.Test.YtmdfcinjmlagcaaPx0
namespace Go.Proofs.Ytmdfcinjmlagcaa.P
open Go.RowKit Go.Proofs.YtmdfcinjmlagcaaW.PrintWords Go.Proofs.YtmdfcinjmlagcaaW.PrintLast Go.Proofs.YtmdfcinjmlagcaaW.PrintMore
set_option linter.unusedVariables false

/-- The numbers of a struct of type 23 are of their kinds. -/
def wfS23 (x : S23) : Prop := ((Lit.int .i64 x.f0).wf = true) ∧ ((Lit.int .i64 x.f1).wf = true) ∧ ((Lit.int .i64 x.f2).wf = true) ∧ ((Lit.int .i64 x.f3).wf = true)
/-- The numbers of a struct of type 28 are of their kinds. -/
def wfS28 (x : S28) : Prop := ((Lit.int .i64 x.f0).wf = true) ∧ ((Lit.int .i64 x.f1).wf = true) ∧ ((Lit.int .i64 x.f2).wf = true) ∧ ((Lit.int .i64 x.f3).wf = true) ∧ ((Lit.int .i64 x.f4).wf = true) ∧ ((Lit.int .i64 x.f5).wf = true)
/-- The numbers of a struct of type 80 are of their kinds. -/
def wfS80 (x : S80) : Prop := ((Lit.int .i64 x.f0).wf = true) ∧ (wfS23 x.f1)
/-- The numbers of a struct of type 31 are of their kinds. -/
def wfS31 (x : S31) : Prop := ((Lit.int .i64 x.f0).wf = true) ∧ (wfS23 x.f1) ∧ (wfS28 x.f2) ∧ ((Lit.int .i64 x.f3).wf = true) ∧ (x.f4.length ≤ maxLen ∧ ∀ y ∈ x.f4, wfS80 y) ∧ ((Lit.int .i64 x.f5).wf = true)
/-- The numbers of a struct of type 32 are of their kinds. -/
def wfS32 (x : S32) : Prop := ((Lit.int .i64 x.f0).wf = true) ∧ ((Lit.int .i64 x.f1).wf = true) ∧ ((Lit.int .i64 x.f2).wf = true) ∧ ((Lit.int .i64 x.f3).wf = true)
/-- The numbers of a struct of type 34 are of their kinds. -/
def wfS34 (x : S34) : Prop := (wfS32 x.f0) ∧ (wfS32 x.f1)
/-- The numbers of a struct of type 43 are of their kinds. -/
def wfS43 (x : S43) : Prop := ((Lit.int .i64 x.f0).wf = true) ∧ ((Lit.int .i64 x.f1).wf = true) ∧ ((Lit.int .i64 x.f2).wf = true) ∧ (x.f3.length ≤ maxLen ∧ ∀ y ∈ x.f3, wfS23 y)
/-- The numbers of a struct of type 37 are of their kinds. -/
def wfS37 (x : S37) : Prop := ((Lit.int .i64 x.f0).wf = true) ∧ ((Lit.int .i64 x.f1).wf = true)
theorem rdT3 : Rd Try.prog 3 (Kd.int .i64) (fun a => (Lit.int .i64 a).wf = true) := rd_int Try.underlying3

theorem rdT23 : Rd Try.prog 23 k23 wfS23 :=
  rd_imp (rd_iso (fun p => ⟨p.1, p.2.1, p.2.2.1, p.2.2.2⟩) (fun _ => rfl) (rd_struct Try.underlying23 (by kernel_rfl) (rdf_cons 0 rfl rfl (c := 1) (by kernel_rfl) rdT3 (rdf_cons 1 rfl rfl (c := 1) (by kernel_rfl) rdT3 (rdf_cons 2 rfl rfl (c := 1) (by kernel_rfl) rdT3 (rdf_last 3 rfl rfl (by kernel_rfl) (c := 1) rfl rdT3)))))) (fun a h => by
    obtain ⟨h0, h1, h2, h3⟩ := h
    exact ⟨h0, h1, h2, h3⟩)

theorem rdT28 : Rd Try.prog 28 k28 wfS28 :=
  rd_imp (rd_iso (fun p => ⟨p.1, p.2.1, p.2.2.1, p.2.2.2.1, p.2.2.2.2.1, p.2.2.2.2.2⟩) (fun _ => rfl) (rd_struct Try.underlying28 (by kernel_rfl) (rdf_cons 0 rfl rfl (c := 1) (by kernel_rfl) rdT3 (rdf_cons 1 rfl rfl (c := 1) (by kernel_rfl) rdT3 (rdf_cons 2 rfl rfl (c := 1) (by kernel_rfl) rdT3 (rdf_cons 3 rfl rfl (c := 1) (by kernel_rfl) rdT3 (rdf_cons 4 rfl rfl (c := 1) (by kernel_rfl) rdT3 (rdf_last 5 rfl rfl (by kernel_rfl) (c := 1) rfl rdT3)))))))) (fun a h => by
    obtain ⟨h0, h1, h2, h3, h4, h5⟩ := h
    exact ⟨h0, h1, h2, h3, h4, h5⟩)

theorem rdT80 : Rd Try.prog 80 k80 wfS80 :=
  rd_imp (rd_iso (fun p => ⟨p.1, p.2⟩) (fun _ => rfl) (rd_struct Try.underlying80 (by kernel_rfl) (rdf_cons 0 rfl rfl (c := 1) (by kernel_rfl) rdT3 (rdf_last 1 rfl rfl (by kernel_rfl) (c := 4) rfl rdT23)))) (fun a h => by
    obtain ⟨h0, h1⟩ := h
    exact ⟨h0, h1⟩)

theorem rdT29 : Rd Try.prog 29 (Kd.slice 80 k80) (fun l => l.length ≤ maxLen ∧ ∀ y ∈ l, wfS80 y) := rd_slice Try.underlying29 (by kernel_rfl) rdT80

theorem rdT31 : Rd Try.prog 31 k31 wfS31 :=
  rd_imp (rd_iso (fun p => ⟨p.1, p.2.1, p.2.2.1, p.2.2.2.1, p.2.2.2.2.1, p.2.2.2.2.2⟩) (fun _ => rfl) (rd_struct Try.underlying31 (by kernel_rfl) (rdf_cons 0 rfl rfl (c := 1) (by kernel_rfl) rdT3 (rdf_cons 1 rfl rfl (c := 4) (by kernel_rfl) rdT23 (rdf_cons 2 rfl rfl (c := 6) (by kernel_rfl) rdT28 (rdf_cons 3 rfl rfl (c := 1) (by kernel_rfl) rdT3 (rdf_cons 4 rfl rfl (c := 1) (by kernel_rfl) rdT29 (rdf_last 5 rfl rfl (by kernel_rfl) (c := 1) rfl rdT3)))))))) (fun a h => by
    obtain ⟨h0, h1, h2, h3, h4, h5⟩ := h
    exact ⟨h0, h1, h2, h3, h4, h5⟩)

theorem rdT32 : Rd Try.prog 32 k32 wfS32 :=
  rd_imp (rd_iso (fun p => ⟨p.1, p.2.1, p.2.2.1, p.2.2.2⟩) (fun _ => rfl) (rd_array (sz := 1) Try.underlying32 (by kernel_rfl) (by kernel_rfl) (rdf_cons 0 rfl rfl (c := 1) (by kernel_rfl) rdT3 (rdf_cons 1 rfl rfl (c := 1) (by kernel_rfl) rdT3 (rdf_cons 2 rfl rfl (c := 1) (by kernel_rfl) rdT3 (rdf_last 3 rfl rfl (by kernel_rfl) (c := 1) rfl rdT3)))))) (fun a h => by
    obtain ⟨h0, h1, h2, h3⟩ := h
    exact ⟨h0, h1, h2, h3⟩)

theorem rdT34 : Rd Try.prog 34 k34 wfS34 :=
  rd_imp (rd_iso (fun p => ⟨p.1, p.2⟩) (fun _ => rfl) (rd_struct Try.underlying34 (by kernel_rfl) (rdf_cons 0 rfl rfl (c := 4) (by kernel_rfl) rdT32 (rdf_last 1 rfl rfl (by kernel_rfl) (c := 4) rfl rdT32)))) (fun a h => by
    obtain ⟨h0, h1⟩ := h
    exact ⟨h0, h1⟩)

theorem rdT41 : Rd Try.prog 41 (Kd.slice 23 k23) (fun l => l.length ≤ maxLen ∧ ∀ y ∈ l, wfS23 y) := rd_slice Try.underlying41 (by kernel_rfl) rdT23

theorem rdT43 : Rd Try.prog 43 k43 wfS43 :=
  rd_imp (rd_iso (fun p => ⟨p.1, p.2.1, p.2.2.1, p.2.2.2⟩) (fun _ => rfl) (rd_struct Try.underlying43 (by kernel_rfl) (rdf_cons 0 rfl rfl (c := 1) (by kernel_rfl) rdT3 (rdf_cons 1 rfl rfl (c := 1) (by kernel_rfl) rdT3 (rdf_cons 2 rfl rfl (c := 1) (by kernel_rfl) rdT3 (rdf_last 3 rfl rfl (by kernel_rfl) (c := 1) rfl rdT41)))))) (fun a h => by
    obtain ⟨h0, h1, h2, h3⟩ := h
    exact ⟨h0, h1, h2, h3⟩)

theorem rdT35 : Rd Try.prog 35 (Kd.slice 43 k43) (fun l => l.length ≤ maxLen ∧ ∀ y ∈ l, wfS43 y) := rd_slice Try.underlying35 (by kernel_rfl) rdT43

theorem rdT37 : Rd Try.prog 37 k37 wfS37 :=
  rd_imp (rd_iso (fun p => ⟨p.1, p.2⟩) (fun _ => rfl) (rd_struct Try.underlying37 (by kernel_rfl) (rdf_cons 0 rfl rfl (c := 1) (by kernel_rfl) rdT3 (rdf_last 1 rfl rfl (by kernel_rfl) (c := 1) rfl rdT3)))) (fun a h => by
    obtain ⟨h0, h1⟩ := h
    exact ⟨h0, h1⟩)

theorem rdT5 : Rd Try.prog 5 (Kd.int .u8) (fun a => (Lit.int .u8 a).wf = true) := rd_int Try.underlying5

theorem rdT53 : Rd Try.prog 53 (Kd.int .i8) (fun a => (Lit.int .i8 a).wf = true) := rd_int Try.underlying53

end Go.Proofs.Ytmdfcinjmlagcaa.P
