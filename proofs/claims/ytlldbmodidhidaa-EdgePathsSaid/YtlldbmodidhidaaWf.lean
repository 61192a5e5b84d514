/- The kinds of the seat's arguments: what reads as data of these types is a value of the print's kinds, and its numbers are of their kinds. -/
import Derived.Test.YtlldbmodidhidaaOpen
import Derived.Test.YtlldbmodidhidaaPx0
namespace Go.Proofs.Ytlldbmodidhidaa.P
open Go.RowKit Go.Proofs.YtlldbmodidhidaaW.PrintWords Go.Proofs.YtlldbmodidhidaaW.PrintLast Go.Proofs.YtlldbmodidhidaaW.PrintMore
set_option linter.unusedVariables false

/-- The numbers of a struct of type 23 are of their kinds. -/
def wfS23 (x : S23) : Prop := ((Lit.int .i64 x.f0).wf = true) ∧ ((Lit.int .i64 x.f1).wf = true) ∧ ((Lit.int .i64 x.f2).wf = true) ∧ ((Lit.int .i64 x.f3).wf = true)
/-- The numbers of a struct of type 60 are of their kinds. -/
def wfS60 (x : S60) : Prop := ((Lit.int .i64 x.f0).wf = true) ∧ ((Lit.int .i64 x.f1).wf = true) ∧ ((Lit.int .i64 x.f2).wf = true) ∧ ((Lit.int .i64 x.f3).wf = true)
/-- The numbers of a struct of type 62 are of their kinds. -/
def wfS62 (x : S62) : Prop := ((Lit.int .i64 x.f0).wf = true) ∧ ((Lit.int .i64 x.f1).wf = true) ∧ ((Lit.int .i64 x.f2).wf = true) ∧ ((Lit.int .i64 x.f3).wf = true) ∧ ((Lit.int .i64 x.f4).wf = true) ∧ ((Lit.int .i64 x.f5).wf = true)
/-- The numbers of a struct of type 86 are of their kinds. -/
def wfS86 (x : S86) : Prop := ((Lit.int .i64 x.f0).wf = true) ∧ (wfS60 x.f1)
/-- The numbers of a struct of type 65 are of their kinds. -/
def wfS65 (x : S65) : Prop := ((Lit.int .i64 x.f0).wf = true) ∧ (wfS60 x.f1) ∧ (wfS62 x.f2) ∧ ((Lit.int .i64 x.f3).wf = true) ∧ (x.f4.length ≤ maxLen ∧ ∀ y ∈ x.f4, wfS86 y) ∧ ((Lit.int .i64 x.f5).wf = true)
/-- The numbers of a struct of type 79 are of their kinds. -/
def wfS79 (x : S79) : Prop := ((Lit.int .i64 x.f0).wf = true) ∧ (wfS60 x.f1)
/-- The numbers of a struct of type 49 are of their kinds. -/
def wfS49 (x : S49) : Prop := ((Lit.int .i64 x.f0).wf = true) ∧ ((Lit.int .i64 x.f1).wf = true) ∧ ((Lit.int .i64 x.f2).wf = true) ∧ ((Lit.int .i64 x.f3).wf = true) ∧ ((Lit.int .i64 x.f4).wf = true) ∧ ((Lit.int .i64 x.f5).wf = true) ∧ ((Lit.int .i64 x.f6).wf = true) ∧ ((Lit.int .i64 x.f7).wf = true) ∧ (x.f8.length ≤ maxLen ∧ ∀ y ∈ x.f8, wfS65 y) ∧ (x.f9.length ≤ maxLen ∧ ∀ y ∈ x.f9, wfS79 y)
/-- The numbers of a struct of type 28 are of their kinds. -/
def wfS28 (x : S28) : Prop := ((Lit.int .i64 x.f0).wf = true) ∧ (wfS23 x.f1) ∧ (x.f2.length ≤ maxLen ∧ ∀ y ∈ x.f2, wfS65 y) ∧ (x.f3.length ≤ maxLen ∧ ∀ y ∈ x.f3, wfS79 y) ∧ (x.f4.length ≤ maxLen ∧ ∀ y ∈ x.f4, wfS49 y)
/-- The numbers of a struct of type 47 are of their kinds. -/
def wfS47 (x : S47) : Prop := ((Lit.int .i64 x.f0).wf = true) ∧ ((Lit.int .i64 x.f1).wf = true)
/-- The numbers of a struct of type 51 are of their kinds. -/
def wfS51 (x : S51) : Prop := (wfS47 x.f0) ∧ (wfS47 x.f1) ∧ (wfS47 x.f2) ∧ ((Lit.int .i64 x.f4).wf = true) ∧ ((Lit.int .i64 x.f5).wf = true) ∧ ((Lit.int .i64 x.f6).wf = true)
theorem rdT3 : Rd Try.prog 3 (Kd.int .i64) (fun a => (Lit.int .i64 a).wf = true) := rd_int Try.underlying3

theorem rdT23 : Rd Try.prog 23 k23 wfS23 :=
  rd_imp (rd_iso (fun p => ⟨p.1, p.2.1, p.2.2.1, p.2.2.2⟩) (fun _ => rfl) (rd_struct Try.underlying23 (by kernel_rfl) (rdf_cons 0 rfl rfl (c := 1) (by kernel_rfl) rdT3 (rdf_cons 1 rfl rfl (c := 1) (by kernel_rfl) rdT3 (rdf_cons 2 rfl rfl (c := 1) (by kernel_rfl) rdT3 (rdf_last 3 rfl rfl (by kernel_rfl) (c := 1) rfl rdT3)))))) (fun a h => by
    obtain ⟨h0, h1, h2, h3⟩ := h
    exact ⟨h0, h1, h2, h3⟩)

theorem rdT60 : Rd Try.prog 60 k60 wfS60 :=
  rd_imp (rd_iso (fun p => ⟨p.1, p.2.1, p.2.2.1, p.2.2.2⟩) (fun _ => rfl) (rd_struct Try.underlying60 (by kernel_rfl) (rdf_cons 0 rfl rfl (c := 1) (by kernel_rfl) rdT3 (rdf_cons 1 rfl rfl (c := 1) (by kernel_rfl) rdT3 (rdf_cons 2 rfl rfl (c := 1) (by kernel_rfl) rdT3 (rdf_last 3 rfl rfl (by kernel_rfl) (c := 1) rfl rdT3)))))) (fun a h => by
    obtain ⟨h0, h1, h2, h3⟩ := h
    exact ⟨h0, h1, h2, h3⟩)

theorem rdT62 : Rd Try.prog 62 k62 wfS62 :=
  rd_imp (rd_iso (fun p => ⟨p.1, p.2.1, p.2.2.1, p.2.2.2.1, p.2.2.2.2.1, p.2.2.2.2.2⟩) (fun _ => rfl) (rd_struct Try.underlying62 (by kernel_rfl) (rdf_cons 0 rfl rfl (c := 1) (by kernel_rfl) rdT3 (rdf_cons 1 rfl rfl (c := 1) (by kernel_rfl) rdT3 (rdf_cons 2 rfl rfl (c := 1) (by kernel_rfl) rdT3 (rdf_cons 3 rfl rfl (c := 1) (by kernel_rfl) rdT3 (rdf_cons 4 rfl rfl (c := 1) (by kernel_rfl) rdT3 (rdf_last 5 rfl rfl (by kernel_rfl) (c := 1) rfl rdT3)))))))) (fun a h => by
    obtain ⟨h0, h1, h2, h3, h4, h5⟩ := h
    exact ⟨h0, h1, h2, h3, h4, h5⟩)

theorem rdT86 : Rd Try.prog 86 k86 wfS86 :=
  rd_imp (rd_iso (fun p => ⟨p.1, p.2⟩) (fun _ => rfl) (rd_struct Try.underlying86 (by kernel_rfl) (rdf_cons 0 rfl rfl (c := 1) (by kernel_rfl) rdT3 (rdf_last 1 rfl rfl (by kernel_rfl) (c := 4) rfl rdT60)))) (fun a h => by
    obtain ⟨h0, h1⟩ := h
    exact ⟨h0, h1⟩)

theorem rdT63 : Rd Try.prog 63 (Kd.slice 86 k86) (fun l => l.length ≤ maxLen ∧ ∀ y ∈ l, wfS86 y) := rd_slice Try.underlying63 (by kernel_rfl) rdT86

theorem rdT65 : Rd Try.prog 65 k65 wfS65 :=
  rd_imp (rd_iso (fun p => ⟨p.1, p.2.1, p.2.2.1, p.2.2.2.1, p.2.2.2.2.1, p.2.2.2.2.2⟩) (fun _ => rfl) (rd_struct Try.underlying65 (by kernel_rfl) (rdf_cons 0 rfl rfl (c := 1) (by kernel_rfl) rdT3 (rdf_cons 1 rfl rfl (c := 4) (by kernel_rfl) rdT60 (rdf_cons 2 rfl rfl (c := 6) (by kernel_rfl) rdT62 (rdf_cons 3 rfl rfl (c := 1) (by kernel_rfl) rdT3 (rdf_cons 4 rfl rfl (c := 1) (by kernel_rfl) rdT63 (rdf_last 5 rfl rfl (by kernel_rfl) (c := 1) rfl rdT3)))))))) (fun a h => by
    obtain ⟨h0, h1, h2, h3, h4, h5⟩ := h
    exact ⟨h0, h1, h2, h3, h4, h5⟩)

theorem rdT24 : Rd Try.prog 24 (Kd.slice 65 k65) (fun l => l.length ≤ maxLen ∧ ∀ y ∈ l, wfS65 y) := rd_slice Try.underlying24 (by kernel_rfl) rdT65

theorem rdT79 : Rd Try.prog 79 k79 wfS79 :=
  rd_imp (rd_iso (fun p => ⟨p.1, p.2⟩) (fun _ => rfl) (rd_struct Try.underlying79 (by kernel_rfl) (rdf_cons 0 rfl rfl (c := 1) (by kernel_rfl) rdT3 (rdf_last 1 rfl rfl (by kernel_rfl) (c := 4) rfl rdT60)))) (fun a h => by
    obtain ⟨h0, h1⟩ := h
    exact ⟨h0, h1⟩)

theorem rdT25 : Rd Try.prog 25 (Kd.slice 79 k79) (fun l => l.length ≤ maxLen ∧ ∀ y ∈ l, wfS79 y) := rd_slice Try.underlying25 (by kernel_rfl) rdT79

theorem rdT49 : Rd Try.prog 49 k49 wfS49 :=
  rd_imp (rd_iso (fun p => ⟨p.1, p.2.1, p.2.2.1, p.2.2.2.1, p.2.2.2.2.1, p.2.2.2.2.2.1, p.2.2.2.2.2.2.1, p.2.2.2.2.2.2.2.1, p.2.2.2.2.2.2.2.2.1, p.2.2.2.2.2.2.2.2.2⟩) (fun _ => rfl) (rd_struct Try.underlying49 (by kernel_rfl) (rdf_cons 0 rfl rfl (c := 1) (by kernel_rfl) rdT3 (rdf_cons 1 rfl rfl (c := 1) (by kernel_rfl) rdT3 (rdf_cons 2 rfl rfl (c := 1) (by kernel_rfl) rdT3 (rdf_cons 3 rfl rfl (c := 1) (by kernel_rfl) rdT3 (rdf_cons 4 rfl rfl (c := 1) (by kernel_rfl) rdT3 (rdf_cons 5 rfl rfl (c := 1) (by kernel_rfl) rdT3 (rdf_cons 6 rfl rfl (c := 1) (by kernel_rfl) rdT3 (rdf_cons 7 rfl rfl (c := 1) (by kernel_rfl) rdT3 (rdf_cons 8 rfl rfl (c := 1) (by kernel_rfl) rdT24 (rdf_last 9 rfl rfl (by kernel_rfl) (c := 1) rfl rdT25)))))))))))) (fun a h => by
    obtain ⟨h0, h1, h2, h3, h4, h5, h6, h7, h8, h9⟩ := h
    exact ⟨h0, h1, h2, h3, h4, h5, h6, h7, h8, h9⟩)

theorem rdT26 : Rd Try.prog 26 (Kd.slice 49 k49) (fun l => l.length ≤ maxLen ∧ ∀ y ∈ l, wfS49 y) := rd_slice Try.underlying26 (by kernel_rfl) rdT49

theorem rdT28 : Rd Try.prog 28 k28 wfS28 :=
  rd_imp (rd_iso (fun p => ⟨p.1, p.2.1, p.2.2.1, p.2.2.2.1, p.2.2.2.2⟩) (fun _ => rfl) (rd_struct Try.underlying28 (by kernel_rfl) (rdf_cons 0 rfl rfl (c := 1) (by kernel_rfl) rdT3 (rdf_cons 1 rfl rfl (c := 4) (by kernel_rfl) rdT23 (rdf_cons 2 rfl rfl (c := 1) (by kernel_rfl) rdT24 (rdf_cons 3 rfl rfl (c := 1) (by kernel_rfl) rdT25 (rdf_last 4 rfl rfl (by kernel_rfl) (c := 1) rfl rdT26))))))) (fun a h => by
    obtain ⟨h0, h1, h2, h3, h4⟩ := h
    exact ⟨h0, h1, h2, h3, h4⟩)

theorem rdT47 : Rd Try.prog 47 k47 wfS47 :=
  rd_imp (rd_iso (fun p => ⟨p.1, p.2⟩) (fun _ => rfl) (rd_struct Try.underlying47 (by kernel_rfl) (rdf_cons 0 rfl rfl (c := 1) (by kernel_rfl) rdT3 (rdf_last 1 rfl rfl (by kernel_rfl) (c := 1) rfl rdT3)))) (fun a h => by
    obtain ⟨h0, h1⟩ := h
    exact ⟨h0, h1⟩)

theorem rdT4 : Rd Try.prog 4 Kd.bool (fun _ => True) := rd_bool Try.underlying4

theorem rdT51 : Rd Try.prog 51 k51 wfS51 :=
  rd_imp (rd_iso (fun p => ⟨p.1, p.2.1, p.2.2.1, p.2.2.2.1, p.2.2.2.2.1, p.2.2.2.2.2.1, p.2.2.2.2.2.2⟩) (fun _ => rfl) (rd_struct Try.underlying51 (by kernel_rfl) (rdf_cons 0 rfl rfl (c := 2) (by kernel_rfl) rdT47 (rdf_cons 1 rfl rfl (c := 2) (by kernel_rfl) rdT47 (rdf_cons 2 rfl rfl (c := 2) (by kernel_rfl) rdT47 (rdf_cons 3 rfl rfl (c := 1) (by kernel_rfl) rdT4 (rdf_cons 4 rfl rfl (c := 1) (by kernel_rfl) rdT3 (rdf_cons 5 rfl rfl (c := 1) (by kernel_rfl) rdT3 (rdf_last 6 rfl rfl (by kernel_rfl) (c := 1) rfl rdT3))))))))) (fun a h => by
    obtain ⟨h0, h1, h2, h3, h4, h5, h6⟩ := h
    exact ⟨h0, h1, h2, h4, h5, h6⟩)

end Go.Proofs.Ytlldbmodidhidaa.P
