/- Any two products stand as the document says: for all whole numbers of 64 bits. -/
import Derived.Test.YtemhfkjdapegoaaFixAwake
import Derived.Test.YtemhfkjdapegoaaRefC
import Derived.Test.YtemhfkjdapegoaaPx8
namespace Go.Proofs.Ytemhfkjdapegoaa.Pure
open Go.RowKit Go.Proofs.Ytemhfkjdapegoaa.P Go.Proofs.YtemhfkjdapegoaaW.PrintWords Go.Proofs.YtemhfkjdapegoaaW.PrintLast

theorem FixOrder : celluloidlaw01_FixOrder.Pure := by
  intro a b c d wa wb wc wd
  have ha := wf64 wa; have hb := wf64 wb; have hc := wf64 wc; have hd := wf64 wd
  obtain ⟨k, hk⟩ : ∃ k : Nat, 4294967296 < k := ⟨4294967297, by omega⟩
  refine ⟨k, ?_⟩
  unfold celluloidlaw01_FixOrder.f
  rw [compare_eq ha hb hc hd, Option.bind_some, ref_compare ha hb hc hd k (by omega), Option.bind_some, awake_eq k hk, Option.bind_some]
  rw [if_pos rfl]

end Go.Proofs.Ytemhfkjdapegoaa.Pure
