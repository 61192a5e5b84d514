/- Words for a region that draws its order and holds several calls that write (cw.py): its operations in one order that is told, what may come up at any time told ahead of what may not. -/
import Derived.Test.YtlldbmodidhidaaCw
import Derived.Test.YtlldbmodidhidaaShort
namespace Go.Proofs.Ytlldbmodidhidaa.P
open Go.RowKit Go.Proofs.YtlldbmodidhidaaW.PrintWords Go.Proofs.YtlldbmodidhidaaW.PrintLast Go.Proofs.YtlldbmodidhidaaW.PrintMore
section
variable {P : Program} {ops : Array Oper} {Q : Exit → Act → World → Prop} {w0 w : World} {fuel i : Nat} {oi : Oper} {v : Value} {l : Array Bool} {a a' : Act} {N : Option Tmp}
/-- The operations that are left, in their order (O). -/
structure rW (P : Program) (ops : Array Oper) (Q : Exit → Act → World → Prop) (w0 : World) (O : List Nat) (fuel : Nat) (l : Array Bool) (a : Act) (w : World) : Prop where out : wpAnyLast P .any ops Q (fun W => Bw w0 W) [] fuel l a w
theorem rS {id : Nat} {T : Bool × List (List Nat × List Nat)} (n : Nat) (O : List Nat) (hm : P.follows .mixedOrders = true) (hn : ops.size = n) (hT : rtab .any ops = T)
    (h : Aside0 (rtab .any ops = T) → rW P ops Q w.drew O n (Array.replicate n false) a w.drew) : (Code.region id ops true).wp P Q a w :=
  start_ (S := fun W => Bw w.drew W) _ hm hn rfl (inferInstanceAs (Bw w.drew w.drew)) (fun _ => (h ⟨hT⟩).out)
theorem rP {O : List Nat} {T : Bool × List (List Nat × List Nat)} (hT : rtab .any ops = T) (hi : ops[i]? = some oi) (hN : oi.dst = N) (hc : anyT T l.toList (l.setIfInBounds i true).toList i = true)
    (hQ : ∀ c a w, Q (.panic c) (a.put oi.dst v) w → Q (.panic c) a w) (hy : Yields P ops oi v a) (ha : a.put N v = a')
    (h : rW P ops Q w0 O fuel (l.setIfInBounds i true) a' w) : rW P ops Q w0 (i :: O) (fuel + 1) l a w := ⟨pure_ _ hi hN (any_of hT hc) hQ hy ha h.out⟩
theorem rT {O : List Nat} {T : Bool × List (List Nat × List Nat)} (hT : rtab .any ops = T) (hi : ops[i]? = some oi) (hN : oi.dst = N) (hc : takeT T [] l.toList (l.setIfInBounds i true).toList i = true)
    (hQ : ∀ c a w, Q (.panic c) (a.put oi.dst v) w → Q (.panic c) a w) (hy : YieldsIf P ops (fun W => Bw w0 W) oi v a) (hS : Bw w0 w) (ha : a.put N v = a')
    (h : rW P ops Q w0 O fuel (l.setIfInBounds i true) a' w) : rW P ops Q w0 (i :: O) (fuel + 1) l a w := ⟨take_ _ hi hN (take_of hT hc) hQ hy hS ha h.out⟩
theorem rO {O : List Nat} {T : Bool × List (List Nat × List Nat)} (hT : rtab .any ops = T) (hi : ops[i]? = some oi) (hc : (readyT T.2 l.toList == [i] && l.toList.set i true == (l.setIfInBounds i true).toList) = true)
    (hw : Region.wanted oi (yielded ops a.tmps) = true)
    (h : ∀ K : Act → World → Prop, Shut (∀ a' w', Bw w0 w' → rW P ops Q w0 O fuel (l.setIfInBounds i true) a' w' → K a' w') → Oper.wp P oi a w K Q) :
    rW P ops Q w0 (i :: O) (fuel + 1) l a w :=
  ⟨one_ _ hi rfl (one_of hT hc) (by simp) (fun K hK => by rw [if_pos hw]; exact h K (fun a1 w1 hS hW => Shut.out hK a1 w1 hS (fun _ => hW.out)))⟩
theorem rD {T : Bool × List (List Nat × List Nat)} (hT : rtab .any ops = T) (hc : (readyT T.2 l.toList == []) = true) (h : Q .normal a w) : rW P ops Q w0 [] fuel l a w := ⟨done_ (done_of hT hc) h⟩
end
/-- A great goal is put aside while what is known is split. -/
theorem zG {g : Prop} (h : ∀ G : Prop, G = g → G) : g := h g rfl
/-- What a world below which nothing has changed reads. -/
theorem rH {W w' : World} (h : Bw W w') : (∀ b o, b < W.heap.size → w'.cell? ⟨b, o, none⟩ = W.cell? ⟨b, o, none⟩) ∧ (∀ b o, b < W.heap.size → w'.frozen? ⟨b, o, none⟩ = W.frozen? ⟨b, o, none⟩) :=
  ⟨fun b o q => h.out.cell (p := ⟨b, o, none⟩) q, fun b o q => h.out.frozen (p := ⟨b, o, none⟩) q⟩
end Go.Proofs.Ytlldbmodidhidaa.P
