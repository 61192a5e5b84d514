/- min and max of five and six; a row's block, whatever its length. (A seat that does not reach math/bits.Sub64; its text is renamed to <Name>Sub.) -/
import Derived.Test.YtlldbmodidhidaaProg
import Derived.WalkKit
import Derived.KernelRfl
namespace Go.Proofs.Ytlldbmodidhidaa.P
theorem max_five (ats : Array TypeId) (ty : TypeId) (a b c d e : Value) : Builtin.max_ ats ty #[a, b, c, d, e] = (Builtin.max2 a b >>= fun s => Builtin.max2 s c >>= fun s => Builtin.max2 s d >>= fun s => Builtin.max2 s e >>= fun s => pure s) := by simp only [Builtin.max_, List.foldlM_cons, List.foldlM_nil]
theorem min_five (ats : Array TypeId) (ty : TypeId) (a b c d e : Value) : Builtin.min_ ats ty #[a, b, c, d, e] = (Builtin.min2 a b >>= fun s => Builtin.min2 s c >>= fun s => Builtin.min2 s d >>= fun s => Builtin.min2 s e >>= fun s => pure s) := by simp only [Builtin.min_, List.foldlM_cons, List.foldlM_nil]
theorem max_six (ats : Array TypeId) (ty : TypeId) (a b c d e f : Value) : Builtin.max_ ats ty #[a, b, c, d, e, f] = (Builtin.max2 a b >>= fun s => Builtin.max2 s c >>= fun s => Builtin.max2 s d >>= fun s => Builtin.max2 s e >>= fun s => Builtin.max2 s f >>= fun s => pure s) := by simp only [Builtin.max_, List.foldlM_cons, List.foldlM_nil]
theorem min_six (ats : Array TypeId) (ty : TypeId) (a b c d e f : Value) : Builtin.min_ ats ty #[a, b, c, d, e, f] = (Builtin.min2 a b >>= fun s => Builtin.min2 s c >>= fun s => Builtin.min2 s d >>= fun s => Builtin.min2 s e >>= fun s => Builtin.min2 s f >>= fun s => pure s) := by simp only [Builtin.min_, List.foldlM_cons, List.foldlM_nil]

theorem ownBlock_len (A : Option Addr) (c n m : Nat) : (Value.slice A n c).ownBlock = (Value.slice A m c).ownBlock := by cases A <;> rfl

end Go.Proofs.Ytlldbmodidhidaa.P
