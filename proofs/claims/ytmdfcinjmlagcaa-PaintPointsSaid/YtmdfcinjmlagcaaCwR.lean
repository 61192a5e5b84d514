/- Words for a region that draws its order and holds several calls that write (cw.py): its operations in one order that is told, what may come up at any time told ahead of what may not. -/
import Derived.Test.YtmdfcinjmlagcaaCw
import Derived.Test.YtmdfcinjmlagcaaShort
namespace Go.Proofs.Ytmdfcinjmlagcaa.P
open Go.RowKit Go.Proofs.YtmdfcinjmlagcaaW.PrintWords Go.Proofs.YtmdfcinjmlagcaaW.PrintLast Go.Proofs.YtmdfcinjmlagcaaW.PrintMore
section
variable {P : Program} {ops : Array Oper} {Q : Exit → Act → World → Prop} {w0 w : World} {fuel i : Nat} {oi : Oper} {v : Value} {l : Array Bool} {a a' : Act} {N : Option Tmp} {ds : List Nat}
/-- The operations that are left, in their order (O). -/
structure rW (P : Program) (ops : Array Oper) (Q : Exit → Act → World → Prop) (ds : List Nat) (w0 : World) (O : List Nat) (fuel : Nat) (l : Array Bool) (a : Act) (w : World) : Prop where out : wpAnyLast P .any ops Q (fun W => Bw w0 W) ds fuel l a w
theorem rS {id : Nat} {T : Bool × List (List Nat × List Nat)} (n : Nat) (O ds : List Nat) (hm : P.follows .mixedOrders = true) (hn : ops.size = n) (hT : rtab .any ops = T)
    (h : Aside0 (rtab .any ops = T) → rW P ops Q ds w.drew O n (Array.replicate n false) a w.drew) : (Code.region id ops true).wp P Q a w :=
  start_ (S := fun W => Bw w.drew W) _ hm hn rfl (inferInstanceAs (Bw w.drew w.drew)) (fun _ => (h ⟨hT⟩).out)
theorem rP {O : List Nat} {T : Bool × List (List Nat × List Nat)} (hT : rtab .any ops = T) (hi : ops[i]? = some oi) (hN : oi.dst = N) (hc : anyT T l.toList (l.setIfInBounds i true).toList i = true)
    (hQ : ∀ c a w, Q (.panic c) (a.put oi.dst v) w → Q (.panic c) a w) (hy : Yields P ops oi v a) (ha : a.put N v = a')
    (h : rW P ops Q ds w0 O fuel (l.setIfInBounds i true) a' w) : rW P ops Q ds w0 (i :: O) (fuel + 1) l a w := ⟨pure_ _ hi hN (any_of hT hc) hQ hy ha h.out⟩
theorem rT {O : List Nat} {T : Bool × List (List Nat × List Nat)} (hT : rtab .any ops = T) (hi : ops[i]? = some oi) (hN : oi.dst = N) (hc : takeT T ds l.toList (l.setIfInBounds i true).toList i = true)
    (hQ : ∀ c a w, Q (.panic c) (a.put oi.dst v) w → Q (.panic c) a w) (hy : YieldsIf P ops (fun W => Bw w0 W) oi v a) (hS : Bw w0 w) (ha : a.put N v = a')
    (h : rW P ops Q ds w0 O fuel (l.setIfInBounds i true) a' w) : rW P ops Q ds w0 (i :: O) (fuel + 1) l a w := ⟨take_ _ hi hN (take_of hT hc) hQ hy hS ha h.out⟩
theorem rO {O : List Nat} {T : Bool × List (List Nat × List Nat)} (hT : rtab .any ops = T) (hi : ops[i]? = some oi) (hc : (readyT T.2 l.toList == [i] && l.toList.set i true == (l.setIfInBounds i true).toList) = true)
    (hd : i ∉ ds) (hw : Region.wanted oi (yielded ops a.tmps) = true)
    (h : ∀ K : Act → World → Prop, Shut (∀ a' w', Bw w0 w' → rW P ops Q ds w0 O fuel (l.setIfInBounds i true) a' w' → K a' w') → Oper.wp P oi a w K Q) :
    rW P ops Q ds w0 (i :: O) (fuel + 1) l a w :=
  ⟨one_ _ hi rfl (one_of hT hc) hd (fun K hK => by rw [if_pos hw]; exact h K (fun a1 w1 hS hW => Shut.out hK a1 w1 hS (fun _ => hW.out)))⟩
theorem rL {O : List Nat} {T : Bool × List (List Nat × List Nat)} (hT : rtab .any ops = T) (hi : ops[i]? = some oi) (hc : (readyT T.2 l.toList == [i] && l.toList.set i true == (l.setIfInBounds i true).toList) = true)
    (hd : i ∈ ds) (hw : Region.wanted oi (yielded ops a.tmps) = true)
    (h : ∀ K : Act → World → Prop, Shut (∀ a' w', rW P ops Q ds w0 O fuel (l.setIfInBounds i true) a' w' → K a' w') → Oper.wp P oi a w K Q) :
    rW P ops Q ds w0 (i :: O) (fuel + 1) l a w :=
  ⟨last_ _ hi rfl (one_of hT hc) hd (fun K hK => by rw [if_pos hw]; exact h K (fun a1 w1 hW => Shut.out hK a1 w1 hW.out))⟩
theorem rD {T : Bool × List (List Nat × List Nat)} (hT : rtab .any ops = T) (hc : (readyT T.2 l.toList == []) = true) (h : Q .normal a w) : rW P ops Q ds w0 [] fuel l a w := ⟨done_ (done_of hT hc) h⟩
end
/-- A great goal is put aside while what is known is split. -/
theorem zG {g : Prop} (h : ∀ G : Prop, G = g → G) : g := h g rfl
/-- A list of four that is known. -/
theorem zr4 (a b c d t : Int) : rd [a, b, c, d] 0 = a ∧ rd [a, b, c, d] 1 = b ∧ rd [a, b, c, d] 2 = c ∧ rd [a, b, c, d] 3 = d ∧ [a, b, c, d].set (0 : Int).toNat t = [t, b, c, d] ∧ [a, b, c, d].set (1 : Int).toNat t = [a, t, c, d] ∧ [a, b, c, d].set (2 : Int).toNat t = [a, b, t, d] ∧ [a, b, c, d].set (3 : Int).toNat t = [a, b, c, t] := ⟨rfl, rfl, rfl, rfl, rfl, rfl, rfl, rfl⟩
/-- What lay in memory reads behind a call as before, drawn ahead of it. -/
theorem zkd {W w1 : World} (hb : Below W.drew.heap.size W.drew w1) : Bs W.drew w1 ∧ (∀ b o, b < W.heap.size → w1.cell? ⟨b, o, none⟩ = W.cell? ⟨b, o, none⟩) ∧ (∀ b o, b < W.heap.size → w1.frozen? ⟨b, o, none⟩ = W.frozen? ⟨b, o, none⟩) := zk hb
theorem zkn {W w1 : World} {n : Nat} (hb : Below (W.drewN n).heap.size (W.drewN n) w1) : Bs (W.drewN n) w1 ∧ (∀ b o, b < W.heap.size → w1.cell? ⟨b, o, none⟩ = W.cell? ⟨b, o, none⟩) ∧ (∀ b o, b < W.heap.size → w1.frozen? ⟨b, o, none⟩ = W.frozen? ⟨b, o, none⟩) := zk hb
/-- A struct's cell and a value that are answered. -/
theorem zct {P : Program} {fn : Func} {p u : Tmp} {ty : TypeId} {tmps : Array Value} {w : World} {v : Value} {cs : Array Value} (h : fn.results = #[.cell p ty, .tmp u]) (hv : v = .tuple #[.agg cs, tmps.getD u undef]) (g : Nat) (t : TypeId) (fr : Nat × Nat) (d : TypeDesc)
    (hp : tmps.getD p undef = .pointer (some ⟨g, 0, none⟩)) (hg : w.heap[g]? = some (.cells cs t fr)) (hu : P.underlying ty = some d) (hd : (match d with | .struct _ | .array _ _ => true | _ => false) = true) (hi : (P.info? ty).map (·.size) = some cs.size) :
    (results fn tmps).run P w = .ok v w := hv ▸ results_ct h tmps w g t cs fr d hp hg hu hd hi
/-- A truth against a sign, told apart. -/
theorem zbx {α : Type} {x : Bool} {t : Int} {a b : Option α} {r : α} (h : (if (x != decide (t ≥ 0)) = true then a else b) = some r) : (x = true ∧ decide (0 ≤ t) = false ∧ a = some r) ∨ (x = false ∧ decide (0 ≤ t) = true ∧ a = some r) ∨ (x = true ∧ decide (0 ≤ t) = true ∧ b = some r) ∨ (x = false ∧ decide (0 ≤ t) = false ∧ b = some r) := by
  change (if (x != decide (0 ≤ t)) = true then a else b) = some r at h
  cases x <;> cases e : decide (0 ≤ t) <;> rw [e] at h
  · exact .inr (.inr (.inr ⟨rfl, rfl, h⟩))
  · exact .inr (.inl ⟨rfl, rfl, h⟩)
  · exact .inl ⟨rfl, rfl, h⟩
  · exact .inr (.inr (.inl ⟨rfl, rfl, h⟩))
/-- A test of a variable against a numeral: told apart. -/
theorem zlt {α : Type} {x y : Int} {a b : Option α} {r : α} (h : (if x = y then a else b) = some r) : (x = y ∧ a = some r) ∨ ((x == y) = false ∧ b = some r) := by
  by_cases c : x = y
  · rw [if_pos c] at h; exact .inl ⟨c, h⟩
  · rw [if_neg c] at h; exact .inr ⟨beq_eq_false_iff_ne.mpr c, h⟩
/-- What a world below which nothing has changed reads. -/
theorem rH {W w' : World} (h : Bw W.drew w') : (∀ b o, b < W.heap.size → w'.cell? ⟨b, o, none⟩ = W.cell? ⟨b, o, none⟩) ∧ (∀ b o, b < W.heap.size → w'.frozen? ⟨b, o, none⟩ = W.frozen? ⟨b, o, none⟩) :=
  ⟨fun b o q => h.out.cell (p := ⟨b, o, none⟩) q, fun b o q => h.out.frozen (p := ⟨b, o, none⟩) q⟩
end Go.Proofs.Ytmdfcinjmlagcaa.P
