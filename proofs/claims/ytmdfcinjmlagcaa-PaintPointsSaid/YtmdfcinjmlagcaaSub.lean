/- math/bits.Sub64, which has no body in the translation: what the model answers, as two plain functions, and the law of the call that the walks use. -/
import Derived.Test.YtmdfcinjmlagcaaProg
import Derived.Shelf.Spec.BitsCarry
import Derived.WalkKit
import Derived.KernelRfl
namespace Go.Proofs.Ytmdfcinjmlagcaa.P

/-- The difference, and the borrow. -/
def sub64d (x y b : Int) : Int := ((x.toNat + 18446744073709551616 - y.toNat - b.toNat) % 18446744073709551616 : Nat)
def sub64b (x y b : Int) : Int := ((if x.toNat < y.toNat + b.toNat then 1 else 0 : Nat) : Int)

theorem sub64_small (b : Int) (h : b = 0 ∨ b = 1) (x y : Int) (w : World) :
    (sub64Entry #[.int .u64 x, .int .u64 y, .int .u64 b]).run Try.prog w = .ok (.tuple #[.int .u64 (sub64d x y b), .int .u64 (sub64b x y b)]) w := by
  rcases h with rfl | rfl <;> rfl

theorem sub64_call (b : Int) (h : b = 0 ∨ b = 1) (x y : Int) (w : World) :
    (callFunc 86 #[.int .u64 x, .int .u64 y, .int .u64 b]).run Try.prog w = .ok (.value (.tuple #[.int .u64 (sub64d x y b), .int .u64 (sub64b x y b)])) w := by
  rw [run_callFunc_extern Try.func86 (by kernel_rfl) (by kernel_rfl) (by kernel_rfl) (e := sub64Entry) (by kernel_rfl), sub64_small b h]
  rfl

theorem sub64b_or (x y b : Int) : sub64b x y b = 0 ∨ sub64b x y b = 1 := by
  unfold sub64b; split <;> simp

@[go_sem] theorem sub64_run0 (x y : Int) (w : World) :
    (callFunc 86 #[.int .u64 x, .int .u64 y, .int .u64 0]).run Try.prog w = .ok (.value (.tuple #[.int .u64 (sub64d x y 0), .int .u64 (sub64b x y 0)])) w :=
  sub64_call 0 (.inl rfl) x y w

@[go_sem] theorem sub64_run1 (x y p q r : Int) (w : World) :
    (callFunc 86 #[.int .u64 x, .int .u64 y, .int .u64 (sub64b p q r)]).run Try.prog w = .ok (.value (.tuple #[.int .u64 (sub64d x y (sub64b p q r)), .int .u64 (sub64b x y (sub64b p q r))])) w :=
  sub64_call _ (sub64b_or p q r) x y w

theorem max_five (ats : Array TypeId) (ty : TypeId) (a b c d e : Value) : Builtin.max_ ats ty #[a, b, c, d, e] = (Builtin.max2 a b >>= fun s => Builtin.max2 s c >>= fun s => Builtin.max2 s d >>= fun s => Builtin.max2 s e >>= fun s => pure s) := by simp only [Builtin.max_, List.foldlM_cons, List.foldlM_nil]
theorem min_five (ats : Array TypeId) (ty : TypeId) (a b c d e : Value) : Builtin.min_ ats ty #[a, b, c, d, e] = (Builtin.min2 a b >>= fun s => Builtin.min2 s c >>= fun s => Builtin.min2 s d >>= fun s => Builtin.min2 s e >>= fun s => pure s) := by simp only [Builtin.min_, List.foldlM_cons, List.foldlM_nil]
theorem max_six (ats : Array TypeId) (ty : TypeId) (a b c d e f : Value) : Builtin.max_ ats ty #[a, b, c, d, e, f] = (Builtin.max2 a b >>= fun s => Builtin.max2 s c >>= fun s => Builtin.max2 s d >>= fun s => Builtin.max2 s e >>= fun s => Builtin.max2 s f >>= fun s => pure s) := by simp only [Builtin.max_, List.foldlM_cons, List.foldlM_nil]
theorem min_six (ats : Array TypeId) (ty : TypeId) (a b c d e f : Value) : Builtin.min_ ats ty #[a, b, c, d, e, f] = (Builtin.min2 a b >>= fun s => Builtin.min2 s c >>= fun s => Builtin.min2 s d >>= fun s => Builtin.min2 s e >>= fun s => Builtin.min2 s f >>= fun s => pure s) := by simp only [Builtin.min_, List.foldlM_cons, List.foldlM_nil]

theorem ownBlock_len (A : Option Addr) (c n m : Nat) : (Value.slice A n c).ownBlock = (Value.slice A m c).ownBlock := by cases A <;> rfl

end Go.Proofs.Ytmdfcinjmlagcaa.P
