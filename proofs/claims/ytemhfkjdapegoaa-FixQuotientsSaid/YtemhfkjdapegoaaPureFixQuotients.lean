/- The floor, and the rounding, of any quotient are what the document says, or told to be none: for all whole numbers of 64 bits. -/
import Derived.Test.YtemhfkjdapegoaaFixAwake
import Derived.Test.YtemhfkjdapegoaaRefC
import Derived.Test.YtemhfkjdapegoaaPx6
namespace Go.Proofs.Ytemhfkjdapegoaa.Pure
open Go.RowKit Go.Proofs.Ytemhfkjdapegoaa.P Go.Proofs.YtemhfkjdapegoaaW.PrintWords Go.Proofs.YtemhfkjdapegoaaW.PrintLast

theorem FixQuotients : celluloidlaw01_FixQuotients.Pure := by
  intro a b wa wb
  have ha := wf64 wa; have hb := wf64 wb
  obtain ⟨k, hk⟩ : ∃ k : Nat, 4294967296 < k := ⟨4294967297, by omega⟩
  refine ⟨k, ?_⟩
  unfold celluloidlaw01_FixQuotients.f
  rw [floor_eq ha hb k (by omega), Option.bind_some, ref_muldiv ha (by unfold I64; omega) hb k (by omega), Option.bind_some, round_eq ha hb k (by omega), Option.bind_some, ref_round ha hb k (by omega), Option.bind_some, awake_eq k hk, Option.bind_some]
  rw [if_pos rfl, if_pos (by simp), if_pos rfl, if_pos (by simp)]

end Go.Proofs.Ytemhfkjdapegoaa.Pure
