/- A quotient that is rounded is within one half of it: for all whole numbers of 64 bits, and divisors of 32. -/
import Derived.Test.YtemhfkjdapegoaaFixAwake
import Derived.Test.YtemhfkjdapegoaaPx7
namespace Go.Proofs.Ytemhfkjdapegoaa.Pure
open Go.RowKit Go.Proofs.Ytemhfkjdapegoaa.P Go.Proofs.YtemhfkjdapegoaaW.PrintWords Go.Proofs.YtemhfkjdapegoaaW.PrintLast

theorem FixNear : celluloidlaw01_FixNear.Pure := by
  intro a b wa wb
  have ha := wf64 wa; have hb32 := wf32 wb
  have hb : I64 b := by unfold I64; omega
  obtain ⟨k, hk⟩ : ∃ k : Nat, 4294967296 < k := ⟨4294967297, by omega⟩
  refine ⟨k, ?_⟩
  unfold celluloidlaw01_FixNear.f
  rw [w64_id (n := b) (by omega) (by omega), round_eq ha hb k (by omega), awake_eq k hk]
  simp only [Option.bind_some]
  unfold rd2
  by_cases h0 : b = 0
  · rw [if_pos h0, if_neg (by simp), if_pos h0]
  · rw [if_neg h0]
    obtain ⟨m, e, e1, e2, e3⟩ := rnd_left (a := a) h0
    by_cases hf : I64 (rnd a b)
    · rw [num_yes hf, if_pos rfl]
      have hov : ∃ l, a - rnd a b * b = l ∧ (0 < b → -b ≤ 2 * l ∧ 2 * l < b) ∧ (b < 0 → 2 * l ≤ -b ∧ b < 2 * l) := by
        rw [e3]
        by_cases h : b.natAbs ≤ 2 * m.natAbs
        · rw [if_pos h]
          refine ⟨m - b, by rw [Int.add_mul, Int.one_mul]; omega, fun hp => ?_, fun hp => ?_⟩
          · have := e1 hp; omega
          · have := e2 hp; omega
        · rw [if_neg h]
          refine ⟨m, by omega, fun hp => ?_, fun hp => ?_⟩
          · have := e1 hp; omega
          · have := e2 hp; omega
      obtain ⟨l, l1, l2, l3⟩ := hov
      have hl : -2147483648 ≤ l ∧ l ≤ 2147483648 := by
        rcases Int.lt_or_gt_of_ne h0 with h | h
        · have := l3 h; omega
        · have := l2 h; omega
      have hov : wrap64 (a - wrap64 (rnd a b * b)) = l := by
        generalize rnd a b * b = z at *
        unfold wrap64; omega
      simp only at hov ⊢
      rw [hov, w64_id (n := 2 * l) (by omega) (by omega), w64_id (n := -b) (by omega) (by omega)]
      rcases Int.lt_or_gt_of_ne h0 with h | h
      · have := l3 h
        rw [if_neg (by omega), if_pos h, if_pos (by omega), if_pos (by omega)]
      · have := l2 h
        rw [if_pos h, if_pos (by omega), if_pos (by omega)]
    · rw [num_no hf, if_neg (by simp), if_neg h0]
      -- the rounded quotient is no number: b is -1, a the least number
      have hfl : a = -9223372036854775808 ∧ b = -1 := by
        by_cases hq : I64 (fl a b)
        · have h1 : fl a b = 9223372036854775807 ∧ b.natAbs ≤ 2 * m.natAbs := by
            rw [e3] at hf
            unfold I64 at hf hq
            split at hf <;> omega
          obtain ⟨h1, h2⟩ := h1
          rw [h1] at e
          unfold I64 at ha
          rcases Int.lt_or_gt_of_ne h0 with h | h
          · have := e2 h; omega
          · have := e1 h; omega
        · exact fl_over ha hb h0 hq
      obtain ⟨r1, r2⟩ := hfl
      rw [if_pos r2, if_pos r1]

end Go.Proofs.Ytemhfkjdapegoaa.Pure
