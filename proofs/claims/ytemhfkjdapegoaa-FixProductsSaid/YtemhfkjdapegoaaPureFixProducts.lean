/- The floor of any product by any number is what the document says, or told to be none: for all whole numbers of 64 bits. -/
import Derived.Test.YtemhfkjdapegoaaFixAwake
import Derived.Test.YtemhfkjdapegoaaRefC
import Derived.Test.YtemhfkjdapegoaaPx6
namespace Go.Proofs.Ytemhfkjdapegoaa.Pure
open Go.RowKit Go.Proofs.Ytemhfkjdapegoaa.P Go.Proofs.YtemhfkjdapegoaaW.PrintWords Go.Proofs.YtemhfkjdapegoaaW.PrintLast

theorem FixProducts : celluloidlaw01_FixProducts.Pure := by
  intro a b c wa wb wc
  have ha := wf64 wa; have hb := wf64 wb; have hc := wf64 wc
  obtain ⟨k, hk⟩ : ∃ k : Nat, 4294967296 < k := ⟨4294967297, by omega⟩
  refine ⟨k, ?_⟩
  unfold celluloidlaw01_FixProducts.f
  rw [mulDiv_eq ha hb hc k (by omega), Option.bind_some, ref_muldiv ha hb hc k (by omega), Option.bind_some, awake_eq k hk, Option.bind_some]
  rw [if_pos rfl, if_pos (by simp)]

end Go.Proofs.Ytemhfkjdapegoaa.Pure
