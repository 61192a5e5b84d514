/- The sum and the product of any numbers are what the document says, or told to be none: for all whole numbers of 64 bits. -/
import Derived.Test.YtemhfkjdapegoaaFixAwake
import Derived.Test.YtemhfkjdapegoaaRefC
import Derived.Test.YtemhfkjdapegoaaPx7
namespace Go.Proofs.Ytemhfkjdapegoaa.Pure
open Go.RowKit Go.Proofs.Ytemhfkjdapegoaa.P Go.Proofs.YtemhfkjdapegoaaW.PrintWords Go.Proofs.YtemhfkjdapegoaaW.PrintLast

theorem FixSums : celluloidlaw01_FixSums.Pure := by
  intro a b wa wb
  have ha := wf64 wa; have hb := wf64 wb
  obtain ⟨k, hk⟩ : ∃ k : Nat, 4294967296 < k := ⟨4294967297, by omega⟩
  refine ⟨k, ?_⟩
  unfold celluloidlaw01_FixSums.f
  rw [add_eq ha hb, Option.bind_some, ref_add ha hb k (by omega), Option.bind_some, mul_eq ha hb, Option.bind_some, ref_mul ha hb k (by omega), Option.bind_some, awake_eq k hk, Option.bind_some]
  rw [if_pos rfl, if_pos (by simp), if_pos rfl, if_pos (by simp)]

end Go.Proofs.Ytemhfkjdapegoaa.Pure
