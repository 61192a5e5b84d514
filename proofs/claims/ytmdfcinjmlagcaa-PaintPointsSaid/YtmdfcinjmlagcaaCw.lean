/- Words for walks that are split first and walked all at once (cw.py). -/
import Derived.Test.YtmdfcinjmlagcaaPx0
import Derived.StillTailTactics
namespace Go.Proofs.Ytmdfcinjmlagcaa.P
open Go.RowKit Go.Proofs.YtmdfcinjmlagcaaW.PrintWords Go.Proofs.YtmdfcinjmlagcaaW.PrintLast Go.Proofs.YtmdfcinjmlagcaaW.PrintMore
theorem zb {α β : Type} {o : Option α} {f : α → Option β} {b : β} (h : o.bind f = some b) : ∃ a, Aside0 (o = some a) ∧ f a = some b := by
  obtain ⟨a, h1, h2⟩ := Option.bind_eq_some_iff.mp h
  exact ⟨a, ⟨h1⟩, h2⟩
theorem zt {α : Type} {t : Bool} {a b : Option α} {r : α} (h : (if t = true then a else b) = some r) : (t = true ∧ a = some r) ∨ (t = false ∧ b = some r) := by
  cases t
  · exact .inr ⟨rfl, by simpa using h⟩
  · exact .inl ⟨rfl, by simpa using h⟩
theorem ze {α : Type} {x y : Int} {a b : Option α} {r : α} (h : (if x = y then a else b) = some r) : ((x == y) = true ∧ (x != y) = false ∧ a = some r) ∨ ((x == y) = false ∧ (x != y) = true ∧ b = some r) := by
  by_cases c : x = y
  · rw [if_pos c] at h; exact .inl ⟨beq_iff_eq.mpr c, bne_eq_false_iff_eq.mpr c, h⟩
  · rw [if_neg c] at h; exact .inr ⟨beq_eq_false_iff_ne.mpr c, bne_iff_ne.mpr c, h⟩
theorem zeq {α : Type} {x y : Int} {a b : Option α} {r : α} (h : (if x = y then a else b) = some r) : ((x == y) = true ∧ (x != y) = false ∧ a = some r) ∨ ((x == y) = false ∧ (x != y) = true ∧ ¬ x = y ∧ b = some r) := by
  by_cases c : x = y
  · rw [if_pos c] at h; exact .inl ⟨beq_iff_eq.mpr c, bne_eq_false_iff_eq.mpr c, h⟩
  · rw [if_neg c] at h; exact .inr ⟨beq_eq_false_iff_ne.mpr c, bne_iff_ne.mpr c, c, h⟩
theorem zc {α : Type} {c : Prop} [Decidable c] {a b : Option α} {r : α} (h : (if c then a else b) = some r) : (decide c = true ∧ a = some r) ∨ (decide c = false ∧ b = some r) := by
  by_cases q : c
  · rw [if_pos q] at h; exact .inl ⟨decide_eq_true q, h⟩
  · rw [if_neg q] at h; exact .inr ⟨decide_eq_false q, h⟩
theorem zl {α : Type} {x y : Int} {a b : Option α} {r : α} (h : (if x < y then a else b) = some r) : (decide (x < y) = true ∧ a = some r) ∨ (decide (x < y) = false ∧ b = some r) := zc h
theorem zm {α : Type} {x y : Int} {a b : Option α} {r : α} (h : (if x ≤ y then a else b) = some r) : (decide (x ≤ y) = true ∧ a = some r) ∨ (decide (x ≤ y) = false ∧ b = some r) := zc h
theorem z1 {α : Type} {a b : Option α} {r : α} (h : (if true = true then a else b) = some r) : a = some r := by rwa [if_pos rfl] at h
theorem z0 {α : Type} {a b : Option α} {r : α} (h : (if false = true then a else b) = some r) : b = some r := by rwa [if_neg (by decide)] at h
theorem zx {α : Type} {t : Bool} {a b : Option α} {r : α} (h : (if (!t) = true then a else b) = some r) : (t = true ∧ b = some r) ∨ (t = false ∧ a = some r) := by
  cases t
  · exact .inr ⟨rfl, by simpa using h⟩
  · exact .inl ⟨rfl, by simpa using h⟩
theorem zd {α : Type} {x y : Int} {a b : Option α} {r : α} (h : (if decide (x < y) = true then a else b) = some r) : (decide (x < y) = true ∧ a = some r) ∨ (decide (x < y) = false ∧ b = some r) := zt h
theorem zg {α : Type} {x y : Int} {a b : Option α} {r : α} (h : (if (x == y) = true then a else b) = some r) : ((x == y) = true ∧ (x != y) = false ∧ a = some r) ∨ ((x == y) = false ∧ (x != y) = true ∧ b = some r) := by
  rcases zt h with ⟨c, h⟩ | ⟨c, h⟩
  · exact .inl ⟨c, by simp only [bne, c]; rfl, h⟩
  · exact .inr ⟨c, by simp only [bne, c]; rfl, h⟩
theorem zs {α β : Type} {o : α} {f : α → Option β} {b : β} (h : (some o).bind f = some b) : f o = some b := h
/-- A test that is decided already. -/
theorem zez {α : Type} {x y z : Int} {a b : Option α} {r : α} (h : (if x = z then a else b) = some r) (c : (x == y) = true) (d : (y == z) = false) : b = some r := by
  have e := beq_iff_eq.mp c
  subst e
  rwa [if_neg (beq_eq_false_iff_ne.mp d)] at h
theorem zep {α : Type} {x y : Int} {a b : Option α} {r : α} (h : (if x = y then a else b) = some r) (c : (x == y) = true) : a = some r := by rwa [if_pos (beq_iff_eq.mp c)] at h
theorem zen {α : Type} {x y : Int} {a b : Option α} {r : α} (h : (if x = y then a else b) = some r) (c : (x == y) = false) : b = some r := by rwa [if_neg (beq_eq_false_iff_ne.mp c)] at h
theorem zcp {α : Type} {p : Prop} {i : Decidable p} {a b : Option α} {r : α} (h : (@ite _ p i a b) = some r) (c : decide p = true) : a = some r := by rwa [if_pos (of_decide_eq_true c)] at h
theorem zcn {α : Type} {p : Prop} {i : Decidable p} {a b : Option α} {r : α} (h : (@ite _ p i a b) = some r) (c : decide p = false) : b = some r := by rwa [if_neg (of_decide_eq_false c)] at h
theorem zbp {α : Type} {t : Bool} {a b : Option α} {r : α} (h : (if t = true then a else b) = some r) (c : t = true) : a = some r := by rwa [if_pos c] at h
theorem zbn {α : Type} {t : Bool} {a b : Option α} {r : α} (h : (if t = true then a else b) = some r) (c : t = false) : b = some r := by rw [c] at h; exact z0 h
theorem zn {α : Type} {r : α} (h : none = some r) : False := by cases h
theorem za {p : Prop} (h : p) : Aside0 p := ⟨h⟩
/-- The worlds of a call, one behind the other: W is what w has become, and below w's own blocks nothing has changed; found by instances. -/
class Bw (w W : World) : Prop where out : Below w.heap.size w W
class Bs (W : outParam World) (w' : World) : Prop where out : Below W.heap.size W w'
instance (w : World) : Bw w w := ⟨Below.refl _ _⟩
instance {w W : World} {o : Obj} [h : Bw w W] : Bw w (W.alloc o) := ⟨below_alloc h.out o⟩
instance {w W : World} {n : Nat} [h : Bw w W] : Bw w (W.drewN n) := ⟨pw_below_drewN h.out n⟩
instance {w W : World} [h : Bw w W] : Bw w W.drew := ⟨below_drew1 h.out⟩
instance {w W w' : World} [k : Bs W w'] [h : Bw w W] : Bw w w' := ⟨below_then h.out h.out.size k.out⟩
instance (priority := low) {w W : World} [h : Bw w W] : Bw w.drew W := ⟨⟨h.out.os, h.out.tape, h.out.output, h.out.size, h.out.block⟩⟩
instance (priority := low) {w W : World} {k : Nat} [h : Bw w W] : Bw (w.drewN k) W := ⟨⟨h.out.os, h.out.tape, h.out.output, h.out.size, h.out.block⟩⟩
/-- A block that is not w's. -/
class Ge (w : World) (g : Nat) : Prop where out : w.heap.size ≤ g
instance {w W : World} [h : Bw w W] : Ge w W.heap.size := ⟨h.out.size⟩
instance {w W : World} {k : Nat} [h : Bw w W] : Ge w (W.heap.size + k) := ⟨Nat.le_trans h.out.size (Nat.le_add_right _ _)⟩
instance {w : World} {g k : Nat} [h : Ge w g] : Ge w (g + k) := ⟨Nat.le_trans h.out (Nat.le_add_right _ _)⟩
instance {w W : World} {g i : Nat} {v : Value} [h : Bw w W] [k : Ge w g] : Bw w (W.setCell ⟨g, i, none⟩ v) := ⟨below_set h.out k.out⟩
/-- What lay in memory reads behind a call as before. -/
theorem zk {W w1 : World} (hb : Below W.heap.size W w1) : Bs W w1 ∧ (∀ b o, b < W.heap.size → w1.cell? ⟨b, o, none⟩ = W.cell? ⟨b, o, none⟩) ∧ (∀ b o, b < W.heap.size → w1.frozen? ⟨b, o, none⟩ = W.frozen? ⟨b, o, none⟩) :=
  ⟨⟨hb⟩, fun b o h => hb.cell (p := ⟨b, o, none⟩) h, fun b o h => hb.frozen (p := ⟨b, o, none⟩) h⟩
/-- How many blocks W has beyond w's, at least. -/
class Lw (w W : World) (n : outParam Nat) : Prop where out : w.heap.size + n ≤ W.heap.size
instance (w : World) : Lw w w 0 := ⟨Nat.le_refl _⟩
instance {w W : World} {n : Nat} {o : Obj} [h : Lw w W n] : Lw w (W.alloc o) (n + 1) := ⟨by have := h.out; rw [World.size_alloc]; omega⟩
instance {w W : World} {n m : Nat} [h : Lw w W n] : Lw w (W.drewN m) n := ⟨h.out⟩
instance {w W : World} {n : Nat} [h : Lw w W n] : Lw w W.drew n := ⟨h.out⟩
instance {w W w' : World} {n : Nat} [k : Bs W w'] [h : Lw w W n] : Lw w w' n := ⟨Nat.le_trans h.out k.out.size⟩
instance {w W : World} {n : Nat} {p : Addr} {v : Value} [h : Lw w W n] : Lw w (W.setCell p v) n := ⟨by have := h.out; simpa [World.setCell] using this⟩
def zL (a b : Nat) : Nat → Prop
  | 0 => True
  | n + 1 => (a + n < b ∧ a + n < b + 1 ∧ a + n < b + 1 + 1 ∧ a + n ≤ b ∧ a + n ≤ b + 1) ∧ zL a b n
theorem zL_of (a b : Nat) : ∀ n, a + n ≤ b → zL a b n
  | 0, _ => trivial
  | n + 1, h => ⟨by omega, zL_of a b n (by omega)⟩
theorem zy (w W : World) {n : Nat} [h : Lw w W n] : zL w.heap.size W.heap.size n := zL_of _ _ n h.out
theorem zC {α : Type} {d : Kd α} {w W : World} {A : Option Addr} {n : Nat} {xs : List α} (h : Aside0 (Kd.C d w A n xs)) [b : Bw w W] : Kd.C d W A n xs := Kd.C_below h.out b.out
/-- A block that is known whole, at a loop's head. -/
theorem zo {w : World} {g : Nat} {t : TypeId} {cs : Array Value} (h : w.heap[g]? = some (.cells cs t (0, 0))) : (∀ i, w.cell? ⟨g, i, none⟩ = cs[i]?) ∧ (∀ i, w.frozen? ⟨g, i, none⟩ = false) ∧ g < w.heap.size := ⟨blk_cell h, blk_frozen h, blk_lt h⟩
theorem zq {P : Program} {n : Nat} {ops : Array Oper} {Q : Exit → Act → World → Prop} {a : Act} {w : World} (h : Code.wp P (.region n ops true) Q a w) : Code.wp P (.region n ops true) Q a w := h
theorem znew {w : World} {g : Nat} {o : Obj} (h : g = w.heap.size) : (w.alloc o).heap[g]? = some o := by rw [h]; exact blk_new w o
theorem znil {α : Type} {d : Kd α} {w : World} : Kd.C d w none 0 [] := Kd.C_nil d w
theorem zput {w : World} {g : Nat} {t : TypeId} {cs cs' : Array Value} {i : Nat} {u : Value} (h : w.heap[g]? = some (.cells cs t (0, 0))) (e : cs.setIfInBounds i u = cs') : (w.setCell ⟨g, i, none⟩ u).heap[g]? = some (.cells cs' t (0, 0)) := e ▸ blk_set h i u
theorem zfar {w : World} {g b i : Nat} {t : TypeId} {cs : Array Value} {u : Value} (hp : g ≠ b) (h : w.heap[g]? = some (.cells cs t (0, 0))) : (w.setCell ⟨b, i, none⟩ u).heap[g]? = some (.cells cs t (0, 0)) := blk_far h hp u
theorem zlit {k : IntKind} {w : World} {g t n : Nat} {xs : List Int} {cs : Array Value} (hb : w.heap[g]? = some (.cells cs t (0, 0))) (hc : (nums k xs).toArray = cs) (hn : xs.length = n) (hm : n ≤ 9223372036854775807) : Kd.C (Kd.int k) w (some ⟨g, 0, none⟩) n xs := by
  subst hc
  refine ⟨hn, hm, fun _ => ⟨_, rfl, fun j p hp => ⟨[.int k p], rfl, rfl, fun i u hu => ?_⟩⟩⟩
  cases i with
  | succ i => simp at hu
  | zero =>
    have e : Value.int k p = u := by simpa using hu
    subst e
    rw [add_plain, blk_cell hb]
    show (nums k xs).toArray[j * 1 + 0]? = _
    simp [nums, hp]
theorem zlit1 {k : IntKind} {w : World} {g t : Nat} {a : Int} (h : w.heap[g]? = some (.cells #[.int k a] t (0, 0))) : Kd.C (Kd.int k) w (some ⟨g, 0, none⟩) 1 [a] := zlit h rfl rfl (by decide)
theorem zlit2 {k : IntKind} {w : World} {g t : Nat} {a b : Int} (h : w.heap[g]? = some (.cells #[.int k a, .int k b] t (0, 0))) : Kd.C (Kd.int k) w (some ⟨g, 0, none⟩) 2 [a, b] := zlit h rfl rfl (by decide)
theorem zlit3 {k : IntKind} {w : World} {g t : Nat} {a b c : Int} (h : w.heap[g]? = some (.cells #[.int k a, .int k b, .int k c] t (0, 0))) : Kd.C (Kd.int k) w (some ⟨g, 0, none⟩) 3 [a, b, c] := zlit h rfl rfl (by decide)
theorem zlit4 {k : IntKind} {w : World} {g t : Nat} {a b c d : Int} (h : w.heap[g]? = some (.cells #[.int k a, .int k b, .int k c, .int k d] t (0, 0))) : Kd.C (Kd.int k) w (some ⟨g, 0, none⟩) 4 [a, b, c, d] := zlit h rfl rfl (by decide)
theorem zlit5 {k : IntKind} {w : World} {g t : Nat} {a b c d e : Int} (h : w.heap[g]? = some (.cells #[.int k a, .int k b, .int k c, .int k d, .int k e] t (0, 0))) : Kd.C (Kd.int k) w (some ⟨g, 0, none⟩) 5 [a, b, c, d, e] := zlit h rfl rfl (by decide)
theorem zlit6 {k : IntKind} {w : World} {g t : Nat} {a b c d e f : Int} (h : w.heap[g]? = some (.cells #[.int k a, .int k b, .int k c, .int k d, .int k e, .int k f] t (0, 0))) : Kd.C (Kd.int k) w (some ⟨g, 0, none⟩) 6 [a, b, c, d, e, f] := zlit h rfl rfl (by decide)
theorem zatint {w W : World} {A : Option Addr} {n : Nat} {k : IntKind} {xs : List Int} (h : Aside0 (Kd.C (Kd.int k) w A n xs)) [hb : Bw w W] (i : Int) {P : Prop} (h0 : decide (0 ≤ i) = true) (h1 : decide (i < n) = true) (K : ∀ ad, A = some ad → (0 ≤ i) = True → (i < n) = True → W.cell? (ad.add i.toNat) = some (.int k (rd xs i)) → P) : P := by
  obtain ⟨ad, e, x0⟩ := Kd.at_int h.out i (of_decide_eq_true h0) (of_decide_eq_true h1)
  exact K ad e (eq_true (of_decide_eq_true h0)) (eq_true (of_decide_eq_true h1)) ((hb.out.cell (World.block_lt_of_cell? w _ x0)).trans x0)
theorem zV {w : World} {a : Addr} {v : Value} (x : w.cell? a = some v) (V : World) [h : Bw w V] : V.cell? a = some v := (h.out.cell (World.block_lt_of_cell? w _ x)).trans x
theorem zat23 {w W : World} {A : Option Addr} {n : Nat} {xs : List S23} (h : Aside0 (Kd.C k23 w A n xs)) [Bw w W] (i : Int) {P : Prop} (h0 : decide (0 ≤ i) = true) (h1 : decide (i < n) = true) (k : ∀ ad, A = some ad → (0 ≤ i) = True → (i < n) = True → ((∀ (V : World) [Bw w V], V.cell? (ad.add (i.toNat * 4)) = some (.int .i64 (rd_T23 xs i).f0)) ∧ (∀ (V : World) [Bw w V], V.cell? ⟨(ad.add (i.toNat * 4)).block, (ad.add (i.toNat * 4)).off + 1, none⟩ = some (.int .i64 (rd_T23 xs i).f1)) ∧ (∀ (V : World) [Bw w V], V.cell? ⟨(ad.add (i.toNat * 4)).block, (ad.add (i.toNat * 4)).off + 2, none⟩ = some (.int .i64 (rd_T23 xs i).f2)) ∧ (∀ (V : World) [Bw w V], V.cell? ⟨(ad.add (i.toNat * 4)).block, (ad.add (i.toNat * 4)).off + 3, none⟩ = some (.int .i64 (rd_T23 xs i).f3))) → P) : P := by
  obtain ⟨ad, e, x0, x1, x2, x3⟩ := at_T23 h.out i (of_decide_eq_true h0) (of_decide_eq_true h1)
  exact k ad e (eq_true (of_decide_eq_true h0)) (eq_true (of_decide_eq_true h1)) ⟨zV x0, zV x1, zV x2, zV x3⟩
theorem zat43 {w W : World} {A : Option Addr} {n : Nat} {xs : List S43} (h : Aside0 (Kd.C k43 w A n xs)) [Bw w W] (i : Int) {P : Prop} (h0 : decide (0 ≤ i) = true) (h1 : decide (i < n) = true) (k : ∀ ad, A = some ad → (0 ≤ i) = True → (i < n) = True → ∀ A3 c3, ((∀ (V : World) [Bw w V], V.cell? (ad.add (i.toNat * 4)) = some (.int .i64 (rd_T43 xs i).f0)) ∧ (∀ (V : World) [Bw w V], V.cell? ⟨(ad.add (i.toNat * 4)).block, (ad.add (i.toNat * 4)).off + 1, none⟩ = some (.int .i64 (rd_T43 xs i).f1)) ∧ (∀ (V : World) [Bw w V], V.cell? ⟨(ad.add (i.toNat * 4)).block, (ad.add (i.toNat * 4)).off + 2, none⟩ = some (.int .i64 (rd_T43 xs i).f2)) ∧ (∀ (V : World) [Bw w V], V.cell? ⟨(ad.add (i.toNat * 4)).block, (ad.add (i.toNat * 4)).off + 3, none⟩ = some (.slice A3 (rd_T43 xs i).f3.length c3))) → Aside0 ((rd_T43 xs i).f3.length ≤ c3) → Aside0 (k23.C w A3 (rd_T43 xs i).f3.length (rd_T43 xs i).f3) → P) : P := by
  obtain ⟨ad, A3, c3, e, x0, x1, x2, x3, y0, y1⟩ := at_T43 h.out i (of_decide_eq_true h0) (of_decide_eq_true h1)
  exact k ad e (eq_true (of_decide_eq_true h0)) (eq_true (of_decide_eq_true h1)) A3 c3 ⟨zV x0, zV x1, zV x2, zV x3⟩ ⟨y0⟩ ⟨y1⟩
theorem zat48 {w W : World} {A : Option Addr} {n : Nat} {xs : List S48} (h : Aside0 (Kd.C k48 w A n xs)) [Bw w W] (i : Int) {P : Prop} (h0 : decide (0 ≤ i) = true) (h1 : decide (i < n) = true) (k : ∀ ad, A = some ad → (0 ≤ i) = True → (i < n) = True → ∀ A3 c3, ((∀ (V : World) [Bw w V], V.cell? (ad.add (i.toNat * 4)) = some (.int .i64 (rd_T48 xs i).f0)) ∧ (∀ (V : World) [Bw w V], V.cell? ⟨(ad.add (i.toNat * 4)).block, (ad.add (i.toNat * 4)).off + 1, none⟩ = some (.int .i64 (rd_T48 xs i).f1)) ∧ (∀ (V : World) [Bw w V], V.cell? ⟨(ad.add (i.toNat * 4)).block, (ad.add (i.toNat * 4)).off + 2, none⟩ = some (.int .i64 (rd_T48 xs i).f2)) ∧ (∀ (V : World) [Bw w V], V.cell? ⟨(ad.add (i.toNat * 4)).block, (ad.add (i.toNat * 4)).off + 3, none⟩ = some (.slice A3 (rd_T48 xs i).f3.length c3))) → Aside0 ((rd_T48 xs i).f3.length ≤ c3) → Aside0 (k23.C w A3 (rd_T48 xs i).f3.length (rd_T48 xs i).f3) → P) : P := by
  obtain ⟨ad, A3, c3, e, x0, x1, x2, x3, y0, y1⟩ := at_T48 h.out i (of_decide_eq_true h0) (of_decide_eq_true h1)
  exact k ad e (eq_true (of_decide_eq_true h0)) (eq_true (of_decide_eq_true h1)) A3 c3 ⟨zV x0, zV x1, zV x2, zV x3⟩ ⟨y0⟩ ⟨y1⟩
theorem zat80 {w W : World} {A : Option Addr} {n : Nat} {xs : List S80} (h : Aside0 (Kd.C k80 w A n xs)) [Bw w W] (i : Int) {P : Prop} (h0 : decide (0 ≤ i) = true) (h1 : decide (i < n) = true) (k : ∀ ad, A = some ad → (0 ≤ i) = True → (i < n) = True → ((∀ (V : World) [Bw w V], V.cell? (ad.add (i.toNat * 5)) = some (.int .i64 (rd_T80 xs i).f0)) ∧ (∀ (V : World) [Bw w V], V.cell? ⟨(ad.add (i.toNat * 5)).block, (ad.add (i.toNat * 5)).off + 1, none⟩ = some (.int .i64 (rd_T80 xs i).f1.f0)) ∧ (∀ (V : World) [Bw w V], V.cell? ⟨(ad.add (i.toNat * 5)).block, (ad.add (i.toNat * 5)).off + 2, none⟩ = some (.int .i64 (rd_T80 xs i).f1.f1)) ∧ (∀ (V : World) [Bw w V], V.cell? ⟨(ad.add (i.toNat * 5)).block, (ad.add (i.toNat * 5)).off + 3, none⟩ = some (.int .i64 (rd_T80 xs i).f1.f2)) ∧ (∀ (V : World) [Bw w V], V.cell? ⟨(ad.add (i.toNat * 5)).block, (ad.add (i.toNat * 5)).off + 4, none⟩ = some (.int .i64 (rd_T80 xs i).f1.f3))) → P) : P := by
  obtain ⟨ad, e, x0, x1, x2, x3, x4⟩ := at_T80 h.out i (of_decide_eq_true h0) (of_decide_eq_true h1)
  exact k ad e (eq_true (of_decide_eq_true h0)) (eq_true (of_decide_eq_true h1)) ⟨zV x0, zV x1, zV x2, zV x3, zV x4⟩
theorem zat28 {w W : World} {A : Option Addr} {n : Nat} {xs : List S28} (h : Aside0 (Kd.C k28 w A n xs)) [Bw w W] (i : Int) {P : Prop} (h0 : decide (0 ≤ i) = true) (h1 : decide (i < n) = true) (k : ∀ ad, A = some ad → (0 ≤ i) = True → (i < n) = True → ((∀ (V : World) [Bw w V], V.cell? (ad.add (i.toNat * 6)) = some (.int .i64 (rd_T28 xs i).f0)) ∧ (∀ (V : World) [Bw w V], V.cell? ⟨(ad.add (i.toNat * 6)).block, (ad.add (i.toNat * 6)).off + 1, none⟩ = some (.int .i64 (rd_T28 xs i).f1)) ∧ (∀ (V : World) [Bw w V], V.cell? ⟨(ad.add (i.toNat * 6)).block, (ad.add (i.toNat * 6)).off + 2, none⟩ = some (.int .i64 (rd_T28 xs i).f2)) ∧ (∀ (V : World) [Bw w V], V.cell? ⟨(ad.add (i.toNat * 6)).block, (ad.add (i.toNat * 6)).off + 3, none⟩ = some (.int .i64 (rd_T28 xs i).f3)) ∧ (∀ (V : World) [Bw w V], V.cell? ⟨(ad.add (i.toNat * 6)).block, (ad.add (i.toNat * 6)).off + 4, none⟩ = some (.int .i64 (rd_T28 xs i).f4)) ∧ (∀ (V : World) [Bw w V], V.cell? ⟨(ad.add (i.toNat * 6)).block, (ad.add (i.toNat * 6)).off + 5, none⟩ = some (.int .i64 (rd_T28 xs i).f5))) → P) : P := by
  obtain ⟨ad, e, x0, x1, x2, x3, x4, x5⟩ := at_T28 h.out i (of_decide_eq_true h0) (of_decide_eq_true h1)
  exact k ad e (eq_true (of_decide_eq_true h0)) (eq_true (of_decide_eq_true h1)) ⟨zV x0, zV x1, zV x2, zV x3, zV x4, zV x5⟩
theorem zat31 {w W : World} {A : Option Addr} {n : Nat} {xs : List S31} (h : Aside0 (Kd.C k31 w A n xs)) [Bw w W] (i : Int) {P : Prop} (h0 : decide (0 ≤ i) = true) (h1 : decide (i < n) = true) (k : ∀ ad, A = some ad → (0 ≤ i) = True → (i < n) = True → ∀ A12 c12, ((∀ (V : World) [Bw w V], V.cell? (ad.add (i.toNat * 14)) = some (.int .i64 (rd_T31 xs i).f0)) ∧ (∀ (V : World) [Bw w V], V.cell? ⟨(ad.add (i.toNat * 14)).block, (ad.add (i.toNat * 14)).off + 1, none⟩ = some (.int .i64 (rd_T31 xs i).f1.f0)) ∧ (∀ (V : World) [Bw w V], V.cell? ⟨(ad.add (i.toNat * 14)).block, (ad.add (i.toNat * 14)).off + 2, none⟩ = some (.int .i64 (rd_T31 xs i).f1.f1)) ∧ (∀ (V : World) [Bw w V], V.cell? ⟨(ad.add (i.toNat * 14)).block, (ad.add (i.toNat * 14)).off + 3, none⟩ = some (.int .i64 (rd_T31 xs i).f1.f2)) ∧ (∀ (V : World) [Bw w V], V.cell? ⟨(ad.add (i.toNat * 14)).block, (ad.add (i.toNat * 14)).off + 4, none⟩ = some (.int .i64 (rd_T31 xs i).f1.f3)) ∧ (∀ (V : World) [Bw w V], V.cell? ⟨(ad.add (i.toNat * 14)).block, (ad.add (i.toNat * 14)).off + 5, none⟩ = some (.int .i64 (rd_T31 xs i).f2.f0)) ∧ (∀ (V : World) [Bw w V], V.cell? ⟨(ad.add (i.toNat * 14)).block, (ad.add (i.toNat * 14)).off + 6, none⟩ = some (.int .i64 (rd_T31 xs i).f2.f1)) ∧ (∀ (V : World) [Bw w V], V.cell? ⟨(ad.add (i.toNat * 14)).block, (ad.add (i.toNat * 14)).off + 7, none⟩ = some (.int .i64 (rd_T31 xs i).f2.f2)) ∧ (∀ (V : World) [Bw w V], V.cell? ⟨(ad.add (i.toNat * 14)).block, (ad.add (i.toNat * 14)).off + 8, none⟩ = some (.int .i64 (rd_T31 xs i).f2.f3)) ∧ (∀ (V : World) [Bw w V], V.cell? ⟨(ad.add (i.toNat * 14)).block, (ad.add (i.toNat * 14)).off + 9, none⟩ = some (.int .i64 (rd_T31 xs i).f2.f4)) ∧ (∀ (V : World) [Bw w V], V.cell? ⟨(ad.add (i.toNat * 14)).block, (ad.add (i.toNat * 14)).off + 10, none⟩ = some (.int .i64 (rd_T31 xs i).f2.f5)) ∧ (∀ (V : World) [Bw w V], V.cell? ⟨(ad.add (i.toNat * 14)).block, (ad.add (i.toNat * 14)).off + 11, none⟩ = some (.int .i64 (rd_T31 xs i).f3)) ∧ (∀ (V : World) [Bw w V], V.cell? ⟨(ad.add (i.toNat * 14)).block, (ad.add (i.toNat * 14)).off + 12, none⟩ = some (.slice A12 (rd_T31 xs i).f4.length c12)) ∧ (∀ (V : World) [Bw w V], V.cell? ⟨(ad.add (i.toNat * 14)).block, (ad.add (i.toNat * 14)).off + 13, none⟩ = some (.int .i64 (rd_T31 xs i).f5))) → Aside0 ((rd_T31 xs i).f4.length ≤ c12) → Aside0 (k80.C w A12 (rd_T31 xs i).f4.length (rd_T31 xs i).f4) → P) : P := by
  obtain ⟨ad, A12, c12, e, x0, x1, x2, x3, x4, x5, x6, x7, x8, x9, x10, x11, x12, x13, y0, y1⟩ := at_T31 h.out i (of_decide_eq_true h0) (of_decide_eq_true h1)
  exact k ad e (eq_true (of_decide_eq_true h0)) (eq_true (of_decide_eq_true h1)) A12 c12 ⟨zV x0, zV x1, zV x2, zV x3, zV x4, zV x5, zV x6, zV x7, zV x8, zV x9, zV x10, zV x11, zV x12, zV x13⟩ ⟨y0⟩ ⟨y1⟩
theorem zat32 {w W : World} {A : Option Addr} {n : Nat} {xs : List S32} (h : Aside0 (Kd.C k32 w A n xs)) [Bw w W] (i : Int) {P : Prop} (h0 : decide (0 ≤ i) = true) (h1 : decide (i < n) = true) (k : ∀ ad, A = some ad → (0 ≤ i) = True → (i < n) = True → ((∀ (V : World) [Bw w V], V.cell? (ad.add (i.toNat * 4)) = some (.int .i64 (rd_T32 xs i).f0)) ∧ (∀ (V : World) [Bw w V], V.cell? ⟨(ad.add (i.toNat * 4)).block, (ad.add (i.toNat * 4)).off + 1, none⟩ = some (.int .i64 (rd_T32 xs i).f1)) ∧ (∀ (V : World) [Bw w V], V.cell? ⟨(ad.add (i.toNat * 4)).block, (ad.add (i.toNat * 4)).off + 2, none⟩ = some (.int .i64 (rd_T32 xs i).f2)) ∧ (∀ (V : World) [Bw w V], V.cell? ⟨(ad.add (i.toNat * 4)).block, (ad.add (i.toNat * 4)).off + 3, none⟩ = some (.int .i64 (rd_T32 xs i).f3))) → P) : P := by
  obtain ⟨ad, e, x0, x1, x2, x3⟩ := at_T32 h.out i (of_decide_eq_true h0) (of_decide_eq_true h1)
  exact k ad e (eq_true (of_decide_eq_true h0)) (eq_true (of_decide_eq_true h1)) ⟨zV x0, zV x1, zV x2, zV x3⟩
theorem zat34 {w W : World} {A : Option Addr} {n : Nat} {xs : List S34} (h : Aside0 (Kd.C k34 w A n xs)) [Bw w W] (i : Int) {P : Prop} (h0 : decide (0 ≤ i) = true) (h1 : decide (i < n) = true) (k : ∀ ad, A = some ad → (0 ≤ i) = True → (i < n) = True → ((∀ (V : World) [Bw w V], V.cell? (ad.add (i.toNat * 8)) = some (.int .i64 (rd_T34 xs i).f0.f0)) ∧ (∀ (V : World) [Bw w V], V.cell? ⟨(ad.add (i.toNat * 8)).block, (ad.add (i.toNat * 8)).off + 1, none⟩ = some (.int .i64 (rd_T34 xs i).f0.f1)) ∧ (∀ (V : World) [Bw w V], V.cell? ⟨(ad.add (i.toNat * 8)).block, (ad.add (i.toNat * 8)).off + 2, none⟩ = some (.int .i64 (rd_T34 xs i).f0.f2)) ∧ (∀ (V : World) [Bw w V], V.cell? ⟨(ad.add (i.toNat * 8)).block, (ad.add (i.toNat * 8)).off + 3, none⟩ = some (.int .i64 (rd_T34 xs i).f0.f3)) ∧ (∀ (V : World) [Bw w V], V.cell? ⟨(ad.add (i.toNat * 8)).block, (ad.add (i.toNat * 8)).off + 4, none⟩ = some (.int .i64 (rd_T34 xs i).f1.f0)) ∧ (∀ (V : World) [Bw w V], V.cell? ⟨(ad.add (i.toNat * 8)).block, (ad.add (i.toNat * 8)).off + 5, none⟩ = some (.int .i64 (rd_T34 xs i).f1.f1)) ∧ (∀ (V : World) [Bw w V], V.cell? ⟨(ad.add (i.toNat * 8)).block, (ad.add (i.toNat * 8)).off + 6, none⟩ = some (.int .i64 (rd_T34 xs i).f1.f2)) ∧ (∀ (V : World) [Bw w V], V.cell? ⟨(ad.add (i.toNat * 8)).block, (ad.add (i.toNat * 8)).off + 7, none⟩ = some (.int .i64 (rd_T34 xs i).f1.f3))) → P) : P := by
  obtain ⟨ad, e, x0, x1, x2, x3, x4, x5, x6, x7⟩ := at_T34 h.out i (of_decide_eq_true h0) (of_decide_eq_true h1)
  exact k ad e (eq_true (of_decide_eq_true h0)) (eq_true (of_decide_eq_true h1)) ⟨zV x0, zV x1, zV x2, zV x3, zV x4, zV x5, zV x6, zV x7⟩
theorem zat37 {w W : World} {A : Option Addr} {n : Nat} {xs : List S37} (h : Aside0 (Kd.C k37 w A n xs)) [Bw w W] (i : Int) {P : Prop} (h0 : decide (0 ≤ i) = true) (h1 : decide (i < n) = true) (k : ∀ ad, A = some ad → (0 ≤ i) = True → (i < n) = True → ((∀ (V : World) [Bw w V], V.cell? (ad.add (i.toNat * 2)) = some (.int .i64 (rd_T37 xs i).f0)) ∧ (∀ (V : World) [Bw w V], V.cell? ⟨(ad.add (i.toNat * 2)).block, (ad.add (i.toNat * 2)).off + 1, none⟩ = some (.int .i64 (rd_T37 xs i).f1))) → P) : P := by
  obtain ⟨ad, e, x0, x1⟩ := at_T37 h.out i (of_decide_eq_true h0) (of_decide_eq_true h1)
  exact k ad e (eq_true (of_decide_eq_true h0)) (eq_true (of_decide_eq_true h1)) ⟨zV x0, zV x1⟩
end Go.Proofs.Ytmdfcinjmlagcaa.P
