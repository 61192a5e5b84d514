/- Products do not hang on their order; a product turned by one sign is turned: for all whole numbers of 64 and of 32 bits. -/
import Derived.Test.YtemhfkjdapegoaaFixAwake
import Derived.Test.YtemhfkjdapegoaaFixC
import Derived.Test.YtemhfkjdapegoaaPx8
namespace Go.Proofs.Ytemhfkjdapegoaa.Pure
open Go.RowKit Go.Proofs.Ytemhfkjdapegoaa.P Go.Proofs.YtemhfkjdapegoaaW.PrintWords Go.Proofs.YtemhfkjdapegoaaW.PrintLast

theorem FixTurns : celluloidlaw01_FixTurns.Pure := by
  intro a b c d wa wb wc wd
  have ha := wf64 wa; have hb := wf64 wb; have hc := wf32 wc; have hd := wf32 wd
  have hc' : I64 c := by unfold I64; omega
  have hd' : I64 d := by unfold I64; omega
  obtain ⟨k, hk⟩ : ∃ k : Nat, 4294967297 < k := ⟨4294967298, by omega⟩
  refine ⟨k, ?_⟩
  obtain ⟨k, rfl⟩ : ∃ m, k = m + 1 := ⟨k - 1, by omega⟩
  have hb2 := mul_bound (a := c) (b := d) (L := 2147483648) (M := 2147483648) (by omega) (by omega)
  have hcd : I64 (c * d) := by unfold I64; omega
  have last : celluloidlaw01_FixTurns.j0 (k + 1) c d false = celluloidlaw01_awake.f k := by
    simp only [celluloidlaw01_FixTurns.j0]
    rw [if_neg (by simp), w64_id (n := c) (by omega) (by omega), w64_id (n := d) (by omega) (by omega), mul_eq hc' hd', Option.bind_some, num_yes hcd]
    unfold I64 at hcd
    rw [if_pos rfl, w64_id (n := c * d) (by omega) (by omega), if_pos rfl, compare_eq hc' hd' (by unfold I64; omega) (by unfold I64; omega), Option.bind_some, Int.mul_one,
      if_pos (by unfold cmpS; rw [if_neg (by omega), if_neg (by omega)])]
    simp
  unfold celluloidlaw01_FixTurns.f
  rw [mul_eq ha hb, Option.bind_some, mul_eq hb ha, Option.bind_some, Int.mul_comm b a, if_pos rfl, if_neg (by simp), compare_eq ha hb hb ha, Option.bind_some, Int.mul_comm b a,
    if_pos (by unfold cmpS; rw [if_neg (by omega), if_neg (by omega)]), w64_id (n := c) (by omega) (by omega), w64_id (n := d) (by omega) (by omega),
    compare_eq ha hb hc' hd', Option.bind_some, compare_eq hc' hd' ha hb, Option.bind_some]
  have e : (cmpS (a * b) (c * d) != wrap64 (-(cmpS (c * d) (a * b)))) = false := by
    unfold cmpS
    generalize a * b = P
    generalize c * d = Q
    rw [bne_eq_false_iff_eq]
    by_cases h1 : P < Q
    · rw [if_pos h1, if_neg (by omega), if_pos h1]; unfold wrap64; omega
    · by_cases h2 : Q < P
      · rw [if_neg h1, if_pos h2, if_pos h2]; unfold wrap64; omega
      · rw [if_neg h1, if_neg h2, if_neg h2, if_neg h1]; unfold wrap64; omega
  rw [e, last, awake_eq k (by omega)]

end Go.Proofs.Ytemhfkjdapegoaa.Pure
