/- The fixed answer of the stage's statements: true. -/
import Derived.Test.YtemhfkjdapegoaaFixB
import Derived.Test.YtemhfkjdapegoaaFixD
import Derived.Test.YtemhfkjdapegoaaPx6
namespace Go.Proofs.Ytemhfkjdapegoaa.P
open Go.RowKit Go.Proofs.YtemhfkjdapegoaaW.PrintWords Go.Proofs.YtemhfkjdapegoaaW.PrintLast Go.Proofs.YtemhfkjdapegoaaW.PrintMore

theorem awake_eq (k : Nat) (hk : 4294967296 < k) : celluloidlaw01_awake.f k = some true := by
  unfold celluloidlaw01_awake.f
  rw [floor_eq (by decide) (by decide) k (by omega), Option.bind_some, round_eq (by decide) (by decide) k (by omega), Option.bind_some, mulDiv_eq (by decide) (by decide) (by decide) k (by omega), Option.bind_some]
  have e1 : md (-7) 1 2 = (-4, true) := by decide
  have e2 : rd2 (-7) 2 = (-3, true) := by decide
  have e3 : md 4611686018427387904 4 8 = (2305843009213693952, true) := by decide
  have e4 : isq (99 : Int).toNat = 9 := isq_unique (by decide) (by decide)
  rw [e1, e2, e3, root_eq 99 (by omega) k hk, e4]
  rfl
end Go.Proofs.Ytemhfkjdapegoaa.P
