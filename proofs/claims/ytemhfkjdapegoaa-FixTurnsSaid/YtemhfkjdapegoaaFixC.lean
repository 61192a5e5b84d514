/- What the program's product of 64 bits, and its comparison of two products, come to. -/
import Derived.Test.YtemhfkjdapegoaaFixB
import Derived.Test.YtemhfkjdapegoaaPx7
namespace Go.Proofs.Ytemhfkjdapegoaa.P
open Go.RowKit Go.Proofs.YtemhfkjdapegoaaW.PrintWords Go.Proofs.YtemhfkjdapegoaaW.PrintLast Go.Proofs.YtemhfkjdapegoaaW.PrintMore

theorem narrow_eq (P : Int) : fix_wide_narrow.f (P / 18446744073709551616) (P % 18446744073709551616) = some (num P) := by
  unfold fix_wide_narrow.f
  by_cases h : I64 P
  · rw [num_yes h]
    unfold I64 at h
    have e : wrap64 (P % 18446744073709551616) = P := by unfold wrap64; omega
    rw [e, if_pos (by omega)]
  · rw [num_no h, if_neg]
    unfold I64 at h
    unfold wrap64; omega

theorem mul_eq {a b : Int} (ha : I64 a) (hb : I64 b) : fix_Mul.f a b = some (num (a * b)) := by
  unfold fix_Mul.f
  rw [times_eq ha hb]
  simp only [Option.bind_some]
  rw [narrow_eq]
  rfl

/-- How two numbers stand. -/
def cmpS (x y : Int) : Int := if x < y then -1 else if y < x then 1 else 0

theorem below_eq (P Q : Int) : fix_wide_below.f (P / 18446744073709551616) (P % 18446744073709551616) (Q / 18446744073709551616) (Q % 18446744073709551616) = some (decide (P < Q)) := by
  unfold fix_wide_below.f
  by_cases h1 : P / 18446744073709551616 < Q / 18446744073709551616
  · rw [if_pos h1, decide_eq_true (by omega)]
  · rw [if_neg h1]
    by_cases h2 : P / 18446744073709551616 = Q / 18446744073709551616
    · rw [if_pos h2]; congr 1; rw [decide_eq_decide]; omega
    · rw [if_neg h2, decide_eq_false (by omega)]

theorem compare_eq {a b c d : Int} (ha : I64 a) (hb : I64 b) (hc : I64 c) (hd : I64 d) : fix_Compare.f a b c d = some (cmpS (a * b) (c * d)) := by
  unfold fix_Compare.f cmpS
  rw [times_eq ha hb, times_eq hc hd]
  simp only [Option.bind_some]
  rw [below_eq, below_eq]
  simp only [Option.bind_some, decide_eq_true_eq]
  by_cases h1 : a * b < c * d
  · rw [if_pos h1, if_pos h1]
  · rw [if_neg h1, if_neg h1]
    by_cases h2 : c * d < a * b
    · rw [if_pos h2, if_pos h2]
    · rw [if_neg h2, if_neg h2]
end Go.Proofs.Ytemhfkjdapegoaa.P
