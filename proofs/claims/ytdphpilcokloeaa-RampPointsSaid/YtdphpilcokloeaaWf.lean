/- The kinds of the seat's arguments: what reads as data of these types is a value of the print's kinds, and its numbers are of their kinds. -/
import Derived.Test.YtdphpilcokloeaaOpen
import Derived.Test.YtdphpilcokloeaaPx0
namespace Go.Proofs.Ytdphpilcokloeaa.P
open Go.RowKit Go.Proofs.YtdphpilcokloeaaW.PrintWords Go.Proofs.YtdphpilcokloeaaW.PrintLast Go.Proofs.YtdphpilcokloeaaW.PrintMore
set_option linter.unusedVariables false

/-- The numbers of a struct of type 27 are of their kinds. -/
def wfS27 (x : S27) : Prop := ((Lit.int .i64 x.f0).wf = true) ∧ ((Lit.int .i64 x.f1).wf = true) ∧ ((Lit.int .i64 x.f2).wf = true) ∧ ((Lit.int .i64 x.f3).wf = true)
/-- The numbers of a struct of type 32 are of their kinds. -/
def wfS32 (x : S32) : Prop := ((Lit.int .i64 x.f0).wf = true) ∧ (wfS27 x.f1)
/-- The numbers of a struct of type 36 are of their kinds. -/
def wfS36 (x : S36) : Prop := ((Lit.int .i64 x.f0).wf = true) ∧ ((Lit.int .i64 x.f1).wf = true)
/-- The numbers of a struct of type 41 are of their kinds. -/
def wfS41 (x : S41) : Prop := ((Lit.int .i64 x.f0).wf = true) ∧ ((Lit.int .i64 x.f1).wf = true) ∧ ((Lit.int .i64 x.f2).wf = true) ∧ ((Lit.int .i64 x.f3).wf = true) ∧ ((Lit.int .i64 x.f4).wf = true) ∧ ((Lit.int .i64 x.f5).wf = true)
/-- The numbers of a struct of type 43 are of their kinds. -/
def wfS43 (x : S43) : Prop := ((Lit.int .i64 x.f0).wf = true) ∧ (wfS27 x.f1) ∧ (wfS41 x.f2) ∧ ((Lit.int .i64 x.f3).wf = true) ∧ (x.f4.length ≤ maxLen ∧ ∀ y ∈ x.f4, wfS32 y) ∧ ((Lit.int .i64 x.f5).wf = true)
theorem rdT3 : Rd Try.prog 3 (Kd.int .i64) (fun a => (Lit.int .i64 a).wf = true) := rd_int Try.underlying3

theorem rdT27 : Rd Try.prog 27 k27 wfS27 :=
  rd_imp (rd_iso (fun p => ⟨p.1, p.2.1, p.2.2.1, p.2.2.2⟩) (fun _ => rfl) (rd_struct Try.underlying27 (by kernel_rfl) (rdf_cons 0 rfl rfl (c := 1) (by kernel_rfl) rdT3 (rdf_cons 1 rfl rfl (c := 1) (by kernel_rfl) rdT3 (rdf_cons 2 rfl rfl (c := 1) (by kernel_rfl) rdT3 (rdf_last 3 rfl rfl (by kernel_rfl) (c := 1) rfl rdT3)))))) (fun a h => by
    obtain ⟨h0, h1, h2, h3⟩ := h
    exact ⟨h0, h1, h2, h3⟩)

theorem rdT32 : Rd Try.prog 32 k32 wfS32 :=
  rd_imp (rd_iso (fun p => ⟨p.1, p.2⟩) (fun _ => rfl) (rd_struct Try.underlying32 (by kernel_rfl) (rdf_cons 0 rfl rfl (c := 1) (by kernel_rfl) rdT3 (rdf_last 1 rfl rfl (by kernel_rfl) (c := 4) rfl rdT27)))) (fun a h => by
    obtain ⟨h0, h1⟩ := h
    exact ⟨h0, h1⟩)

theorem rdT25 : Rd Try.prog 25 (Kd.slice 32 k32) (fun l => l.length ≤ maxLen ∧ ∀ y ∈ l, wfS32 y) := rd_slice Try.underlying25 (by kernel_rfl) rdT32

theorem rdT36 : Rd Try.prog 36 k36 wfS36 :=
  rd_imp (rd_iso (fun p => ⟨p.1, p.2⟩) (fun _ => rfl) (rd_struct Try.underlying36 (by kernel_rfl) (rdf_cons 0 rfl rfl (c := 1) (by kernel_rfl) rdT3 (rdf_last 1 rfl rfl (by kernel_rfl) (c := 1) rfl rdT3)))) (fun a h => by
    obtain ⟨h0, h1⟩ := h
    exact ⟨h0, h1⟩)

theorem rdT41 : Rd Try.prog 41 k41 wfS41 :=
  rd_imp (rd_iso (fun p => ⟨p.1, p.2.1, p.2.2.1, p.2.2.2.1, p.2.2.2.2.1, p.2.2.2.2.2⟩) (fun _ => rfl) (rd_struct Try.underlying41 (by kernel_rfl) (rdf_cons 0 rfl rfl (c := 1) (by kernel_rfl) rdT3 (rdf_cons 1 rfl rfl (c := 1) (by kernel_rfl) rdT3 (rdf_cons 2 rfl rfl (c := 1) (by kernel_rfl) rdT3 (rdf_cons 3 rfl rfl (c := 1) (by kernel_rfl) rdT3 (rdf_cons 4 rfl rfl (c := 1) (by kernel_rfl) rdT3 (rdf_last 5 rfl rfl (by kernel_rfl) (c := 1) rfl rdT3)))))))) (fun a h => by
    obtain ⟨h0, h1, h2, h3, h4, h5⟩ := h
    exact ⟨h0, h1, h2, h3, h4, h5⟩)

theorem rdT43 : Rd Try.prog 43 k43 wfS43 :=
  rd_imp (rd_iso (fun p => ⟨p.1, p.2.1, p.2.2.1, p.2.2.2.1, p.2.2.2.2.1, p.2.2.2.2.2⟩) (fun _ => rfl) (rd_struct Try.underlying43 (by kernel_rfl) (rdf_cons 0 rfl rfl (c := 1) (by kernel_rfl) rdT3 (rdf_cons 1 rfl rfl (c := 4) (by kernel_rfl) rdT27 (rdf_cons 2 rfl rfl (c := 6) (by kernel_rfl) rdT41 (rdf_cons 3 rfl rfl (c := 1) (by kernel_rfl) rdT3 (rdf_cons 4 rfl rfl (c := 1) (by kernel_rfl) rdT25 (rdf_last 5 rfl rfl (by kernel_rfl) (c := 1) rfl rdT3)))))))) (fun a h => by
    obtain ⟨h0, h1, h2, h3, h4, h5⟩ := h
    exact ⟨h0, h1, h2, h3, h4, h5⟩)

theorem rdT5 : Rd Try.prog 5 (Kd.int .u8) (fun a => (Lit.int .u8 a).wf = true) := rd_int Try.underlying5

theorem rdT47 : Rd Try.prog 47 (Kd.slice 5 (Kd.int .u8)) (fun l => l.length ≤ maxLen ∧ ∀ y ∈ l, (Lit.int .u8 y).wf = true) := rd_slice Try.underlying47 (by kernel_rfl) rdT5

theorem rdT4 : Rd Try.prog 4 Kd.bool (fun _ => True) := rd_bool Try.underlying4

end Go.Proofs.Ytdphpilcokloeaa.P
