/- The root of any number is what the document says, its square is not above it, and the next one's is: for all whole numbers of 64 bits. -/
import Derived.Test.YtemhfkjdapegoaaFixAwake
import Derived.Test.YtemhfkjdapegoaaRefC
import Derived.Test.YtemhfkjdapegoaaPx8
namespace Go.Proofs.Ytemhfkjdapegoaa.Pure
open Go.RowKit Go.Proofs.Ytemhfkjdapegoaa.P Go.Proofs.YtemhfkjdapegoaaW.PrintWords Go.Proofs.YtemhfkjdapegoaaW.PrintLast

theorem FixRoots : celluloidlaw01_FixRoots.Pure := by
  intro n wn
  have hn := wf64 wn
  obtain ⟨k, hk⟩ : ∃ k : Nat, 4294967296 < k := ⟨4294967297, by omega⟩
  refine ⟨k, ?_⟩
  unfold celluloidlaw01_FixRoots.f
  have hn1 := hn.2
  have hn0 := hn.1
  rw [root_eq n hn1 k hk, Option.bind_some, ref_root n hn1 k (by omega), Option.bind_some, awake_eq k hk, Option.bind_some, if_pos rfl]
  by_cases h : n < 0
  · rw [if_pos h, show n.toNat = 0 by omega, if_pos (by rfl)]
  · rw [if_neg h]
    obtain ⟨m, rfl⟩ := Int.eq_ofNat_of_zero_le (show 0 ≤ n by omega)
    rw [Int.toNat_natCast]
    obtain ⟨h1, h2⟩ := isq_spec m
    have h3 : isq m ≤ 3037000499 := isq_le (by omega)
    obtain ⟨r, hr⟩ : ∃ r, r = isq m := ⟨_, rfl⟩
    rw [← hr] at h1 h2 h3 ⊢
    have h4 : ((r : Int)) * r = ((r * r : Nat) : Int) := by simp
    have h5 : ((r : Int) + 1) * ((r : Int) + 1) = (((r + 1) * (r + 1) : Nat) : Int) := by simp
    rw [h4, w64_id (n := ((r * r : Nat) : Int)) (by omega) (by omega), if_pos (by omega), w64_id (n := (r : Int) + 1) (by omega) (by omega),
      compare_eq (by unfold I64; omega) (by unfold I64; omega) hn (by unfold I64; omega), Option.bind_some, h5, Int.mul_one]
    rw [if_pos (by unfold cmpS; rw [if_neg (by omega), if_pos (by omega)]; omega)]

end Go.Proofs.Ytemhfkjdapegoaa.Pure
