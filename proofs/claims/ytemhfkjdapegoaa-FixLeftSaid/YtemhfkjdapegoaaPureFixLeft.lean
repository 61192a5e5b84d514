/- A floor times its divisor, and what is left over, are the number: for all whole numbers of 64 bits. -/
import Derived.Test.YtemhfkjdapegoaaFixAwake
import Derived.Test.YtemhfkjdapegoaaPx7
namespace Go.Proofs.Ytemhfkjdapegoaa.Pure
open Go.RowKit Go.Proofs.Ytemhfkjdapegoaa.P Go.Proofs.YtemhfkjdapegoaaW.PrintWords Go.Proofs.YtemhfkjdapegoaaW.PrintLast

theorem FixLeft : celluloidlaw01_FixLeft.Pure := by
  intro a b wa wb
  have ha := wf64 wa; have hb := wf64 wb
  obtain ⟨k, hk⟩ : ∃ k : Nat, 4294967296 < k := ⟨4294967297, by omega⟩
  refine ⟨k, ?_⟩
  unfold celluloidlaw01_FixLeft.f
  rw [floor_eq ha hb k (by omega), awake_eq k hk]
  simp only [Option.bind_some]
  unfold md
  rw [Int.mul_one]
  by_cases h0 : b = 0
  · rw [if_pos h0, if_neg (by simp), if_pos h0]
  · rw [if_neg h0]
    by_cases hf : I64 (fl a b)
    · rw [num_yes hf, if_pos rfl]
      obtain ⟨m, e, e1, e2⟩ := fl_spec a h0
      have hov : wrap64 (a - wrap64 (fl a b * b)) = m := by
        have hm : -9223372036854775808 < m ∧ m ≤ 9223372036854775807 := by
          unfold I64 at hb
          rcases Int.lt_or_gt_of_ne h0 with h | h
          · have := e2 h; omega
          · have := e1 h; omega
        generalize fl a b * b = z at *
        unfold wrap64; omega
      simp only at hov ⊢
      rw [hov]
      rcases Int.lt_or_gt_of_ne h0 with h | h
      · have := e2 h
        rw [if_neg (by omega), if_pos h, if_pos (by omega), if_pos (by omega)]
      · have := e1 h
        rw [if_pos h, if_pos (by omega), if_pos (by omega)]
    · rw [num_no hf, if_neg (by simp), if_neg h0]
      obtain ⟨r1, r2⟩ := fl_over ha hb h0 hf
      rw [if_pos r1, if_pos r2]

end Go.Proofs.Ytemhfkjdapegoaa.Pure
