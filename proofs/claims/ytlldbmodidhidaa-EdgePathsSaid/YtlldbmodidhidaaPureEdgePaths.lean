/- Any shape has the path that the document says, or is refused. (prune.py) -/
import Derived.Test.YtlldbmodidhidaaCx0
import Derived.Test.YtlldbmodidhidaaCx1
import Derived.Test.YtlldbmodidhidaaCx2
import Derived.Test.YtlldbmodidhidaaCx4
import Derived.Test.YtlldbmodidhidaaCx5
import Derived.Test.YtlldbmodidhidaaCx6
import Derived.Test.YtlldbmodidhidaaCx7
import Derived.Test.YtlldbmodidhidaaCx8
import Derived.Test.YtlldbmodidhidaaCx9
import Derived.Test.YtlldbmodidhidaaCx10
import Derived.Test.YtlldbmodidhidaaCx11
import Derived.Test.YtlldbmodidhidaaCx12
import Derived.Test.YtlldbmodidhidaaCxO
import Derived.Test.YtlldbmodidhidaaCxP
import Derived.Test.YtlldbmodidhidaaCxQ
import Derived.Test.YtlldbmodidhidaaCxR
import Derived.Test.YtlldbmodidhidaaCxW
import Derived.Test.YtlldbmodidhidaaPx0
import Derived.KernelRfl
import Derived.Test.YtlldbmodidhidaaSayEdgePaths
import Derived.Test.YtlldbmodidhidaaShort
namespace Go.Proofs.Ytlldbmodidhidaa.P
open Go.RowKit Go.Proofs.YtlldbmodidhidaaW.PrintWords Go.Proofs.YtlldbmodidhidaaW.PrintLast Go.Proofs.YtlldbmodidhidaaW.PrintMore
theorem w64_id {n : Int} (h0 : -9223372036854775808 ≤ n) (h1 : n < 9223372036854775808) : wrap64 n = n := by unfold wrap64; omega
/-- From some number of rounds on there is one answer. -/
def Ans {α : Type} (f : Nat → Option α) : Prop := ∃ N r, ∀ k, N ≤ k → f k = some r
theorem ans_some {α : Type} (r : α) : Ans (fun _ => some r) := ⟨0, r, fun _ _ => rfl⟩
theorem ans_ite {α : Type} {c : Prop} [Decidable c] {f g : Nat → Option α} (h1 : c → Ans f) (h2 : ¬ c → Ans g) : Ans (fun k => if c then f k else g k) := by
  by_cases h : c
  · obtain ⟨N, r, e⟩ := h1 h
    exact ⟨N, r, fun k hk => (if_pos h).trans (e k hk)⟩
  · obtain ⟨N, r, e⟩ := h2 h
    exact ⟨N, r, fun k hk => (if_neg h).trans (e k hk)⟩
theorem ans_bind {α β : Type} {f : Nat → Option α} {g : α → Nat → Option β} (h : Ans f) (h2 : ∀ r, Ans (g r)) : Ans (fun k => (f k).bind fun r => g r k) := by
  obtain ⟨N, r, e⟩ := h
  obtain ⟨M, s, d⟩ := h2 r
  refine ⟨N + M, s, fun k hk => ?_⟩
  show (f k).bind (fun r => g r k) = some s
  rw [e k (by omega), Option.bind_some]
  exact d k (by omega)
theorem ans_step {α : Type} {f g : Nat → Option α} (h : Ans g) (e : ∀ k, f (k + 1) = g k) : Ans f := by
  obtain ⟨N, r, d⟩ := h
  refine ⟨N + 1, r, fun k hk => ?_⟩
  obtain ⟨k, rfl⟩ : ∃ m, k = m + 1 := ⟨k - 1, by omega⟩
  rw [e k]
  exact d k (by omega)
theorem ans_next {i n : Nat} (hn : n ≤ maxLen) (h : i < n) : wrap64 ((i : Int) + 1) = ((i + 1 : Nat) : Int) := by
  have hn' : n ≤ 9223372036854775807 := hn
  rw [w64_id (by omega) (by omega)]; rfl
theorem nn (i : Nat) : 0 ≤ (i : Int) := Int.natCast_nonneg i
theorem lt_of {i d n : Nat} (h : d + 1 + i = n) : (i : Int) < (n : Int) := by omega
theorem small_max {n : Nat} (h : n ≤ 1000) : n ≤ maxLen := by
  show n ≤ 9223372036854775807
  omega
theorem rdF (l : List (S65)) (i : Nat) (h : i < l.length) : rd_T65 l (i : Int) = l[i] := by
  unfold rd_T65; rw [Int.toNat_natCast]; simp [List.getD_eq_getElem?_getD, h]
theorem rdR (l : List (S49)) (i : Nat) (h : i < l.length) : rd_T49 l (i : Int) = l[i] := by
  unfold rd_T49; rw [Int.toNat_natCast]; simp [List.getD_eq_getElem?_getD, h]
/-- Fills as they may come. -/
def FW (l : List (S65)) : Prop := l.length ≤ maxLen ∧ ∀ y ∈ l, y.f4.length ≤ maxLen
theorem FW.at_ {l : List (S65)} (h : FW l) {i : Nat} (hi : i < l.length) : (rd_T65 l (i : Int)).f4.length ≤ maxLen := by
  rw [rdF l i hi]; exact h.2 _ (List.getElem_mem _)
/-- Records as they may come. -/
def RW (l : List (S49)) : Prop := l.length ≤ maxLen ∧ ∀ r ∈ l, FW r.f8 ∧ r.f9.length ≤ maxLen
theorem RW.at_ {l : List (S49)} (h : RW l) {i : Nat} (hi : i < l.length) : FW (rd_T49 l (i : Int)).f8 ∧ (rd_T49 l (i : Int)).f9.length ≤ maxLen := by
  rw [rdR l i hi]; exact h.2 _ (List.getElem_mem _)
end Go.Proofs.Ytlldbmodidhidaa.P
namespace Go.Proofs.Ytlldbmodidhidaa.P
open Go.RowKit Go.Proofs.YtlldbmodidhidaaW.PrintWords Go.Proofs.YtlldbmodidhidaaW.PrintLast Go.Proofs.YtlldbmodidhidaaW.PrintMore
theorem iteN {α : Type} {c : Prop} [Decidable c] {A : Option α} {r : α} (h : (if c then A else none) = some r) : c ∧ A = some r := by
  by_cases q : c
  · rw [if_pos q] at h; exact ⟨q, h⟩
  · rw [if_neg q] at h; exact absurd h (by simp)
theorem iteT {c : Prop} [Decidable c] {A : Option Bool} (h : (if c then A else some false) = some true) : c ∧ A = some true := by
  by_cases q : c
  · rw [if_pos q] at h; exact ⟨q, h⟩
  · rw [if_neg q] at h; exact absurd h (by simp)
theorem bindS {α β : Type} {f : Option α} {g : α → Option β} {r : β} (h : (f.bind g) = some r) : ∃ t, f = some t ∧ g t = some r := Option.bind_eq_some_iff.mp h
abbrev Rec := S49
abbrev Fil := S65
abbrev Lin := S79
/-- What a right record is, beside x fills and y lines: as far as edges ask. -/
def Snd (r : Rec) (x y : Int) : Prop := r.f0 = 1 ∨ (r.f0 = 2 ∧ (-1 ≤ r.f5 ∧ r.f5 ≤ x) ∧ (-1 ≤ r.f6 ∧ r.f6 ≤ x) ∧ -1 ≤ r.f7 ∧ r.f7 ≤ y) ∨ r.f0 = 3 ∨ (r.f0 = 4 ∧ r.f3 = 0 ∧ r.f4 = 0) ∨ r.f0 = 5
/-- Right records, one behind the other. -/
def GoodR : Int → Int → List Rec → Prop
  | _, _, [] => True
  | x, y, r :: t => Snd r x y ∧ GoodR (if r.f0 = 3 then (r.f8.length : Int) else x) (if r.f0 = 3 then (r.f9.length : Int) else y) t
theorem drop_rec (l : List Rec) (i : Nat) (h : i < l.length) : l.drop i = l[i] :: l.drop (i + 1) := List.drop_eq_getElem_cons h
theorem small8_l0 {l : List Fil} {m : List Lin} (hl : FW l) : ∀ d i : Nat, d + i = l.length → Ans (fun k => celluloidref08_Small.l0 k l m (i : Int)) := by
  intro d
  induction d with
  | zero =>
    intro i h
    have e : ∀ k, celluloidref08_Small.l0 (k + 1) l m (i : Int) = _ := fun k => by rw [celluloidref08_Small.l0, if_neg (by omega)]
    exact ans_step (ans_ite (fun _ => ans_some _) (fun _ => ans_some _)) e
  | succ d ih =>
    intro i h
    have e : ∀ k, celluloidref08_Small.l0 (k + 1) l m (i : Int) = _ := fun k => by rw [celluloidref08_Small.l0, if_pos (lt_of h), if_pos (nn i), ans_next hl.1 (by omega)]
    exact ans_step (ans_ite (fun _ => ans_some _) (fun _ => ih (i + 1) (by omega))) e
theorem small8_ans {l : List Fil} {m : List Lin} (hl : FW l) : Ans (fun k => celluloidref08_Small.f k l m) := by
  unfold celluloidref08_Small.f
  exact small8_l0 hl l.length 0 (by omega)
theorem small8_of : ∀ (k : Nat) {l : List Fil} {m : List Lin} (i : Int), celluloidref08_Small.l0 k l m i = some true → l.length < 30 ∧ m.length < 30 := by
  intro k
  induction k with
  | zero => intro l m i h; simp [celluloidref08_Small.l0] at h
  | succ k ih =>
    intro l m i h
    rw [celluloidref08_Small.l0] at h
    by_cases c : i < (l.length : Int)
    · rw [if_pos c] at h
      obtain ⟨_, h⟩ := iteN h
      by_cases q : ((rd_T65 l i).f4.length : Int) > 20
      · rw [if_pos q] at h; exact absurd h (by simp)
      · rw [if_neg q] at h; exact ih _ h
    · rw [if_neg c] at h
      obtain ⟨h1, h⟩ := iteT h
      have h2 := of_decide_eq_true (Option.some.inj h)
      omega
theorem small9_off {l : List Rec} (n i : Int) : Ans (fun k => celluloidref09_Small.j1 k l n i false) := by
  have e : ∀ k, celluloidref09_Small.j1 (k + 1) l n i false = _ := fun k => by rw [celluloidref09_Small.j1, if_neg (by simp)]
  exact ans_step (ans_some _) e
theorem small9_l0 {l : List Rec} (hl : RW l) : ∀ d i : Nat, d + i = 600 → Ans (fun k => celluloidref09_Small.l0 k l 600 (i : Int)) := by
  intro d
  induction d with
  | zero =>
    intro i h
    have e : ∀ k, celluloidref09_Small.l0 (k + 1) l 600 (i : Int) = _ := fun k => by rw [celluloidref09_Small.l0, decide_eq_false (by omega)]
    exact ans_step (ans_ite (fun _ => small9_off _ _) (fun _ => small9_off _ _)) e
  | succ d ih =>
    intro i h
    have e : ∀ k, celluloidref09_Small.l0 (k + 1) l 600 (i : Int) = _ := fun k => by rw [celluloidref09_Small.l0]
    refine ans_step (ans_ite (fun c => ?_) (fun _ => small9_off _ _)) e
    have hi : i < l.length := by omega
    rw [decide_eq_true (show (i : Int) < 600 by omega)]
    have e : ∀ k, celluloidref09_Small.j1 (k + 1) l 600 (i : Int) true = _ := fun k => by rw [celluloidref09_Small.j1, if_pos rfl, if_pos (nn i), if_pos c, ans_next (n := 600) (small_max (by omega)) (by omega)]
    exact ans_step (ans_bind (small8_ans (hl.at_ hi).1) (fun _ => ans_ite (fun _ => ih (i + 1) (by omega)) (fun _ => ans_some _))) e
theorem small9_of {l : List Rec} : ∀ (k i : Nat), i ≤ 600 → celluloidref09_Small.l0 k l 600 (i : Int) = some true → l.length ≤ 600 ∧ ∀ r ∈ l.drop i, r.f8.length < 30 ∧ r.f9.length < 30
  | 0, _, _, h => by simp [celluloidref09_Small.l0] at h
  | 1, i, _, h => by
    rw [celluloidref09_Small.l0] at h
    by_cases c : (i : Int) < (l.length : Int)
    · rw [if_pos c] at h; simp [celluloidref09_Small.j1] at h
    · rw [if_neg c] at h; simp [celluloidref09_Small.j1] at h
  | k + 2, i, hi, h => by
    rw [celluloidref09_Small.l0, celluloidref09_Small.j1] at h
    by_cases c : (i : Int) < (l.length : Int)
    · rw [if_pos c] at h
      by_cases d : (i : Int) < 600
      · rw [decide_eq_true d, if_pos rfl, if_pos (nn i), if_pos c, rdR l i (by omega)] at h
        obtain ⟨t, h1, h⟩ := bindS h
        obtain ⟨rfl, h⟩ := iteT h
        rw [ans_next (n := 600) (small_max (by omega)) (by omega)] at h
        have g := small9_of k (i + 1) (by omega) h
        have g1 := small8_of _ _ h1
        refine ⟨g.1, fun r hr => ?_⟩
        rw [drop_rec l i (by omega)] at hr
        rcases List.mem_cons.1 hr with rfl | hr
        · exact g1
        · exact g.2 r hr
      · rw [decide_eq_false d, if_neg (by simp)] at h
        have := of_decide_eq_true (Option.some.inj h)
        omega
    · rw [if_neg c, celluloidref09_Small.j1, if_neg (by simp)] at h
      have := of_decide_eq_true (Option.some.inj h)
      refine ⟨by omega, fun r hr => ?_⟩
      rw [List.drop_of_length_le (by omega)] at hr
      exact absurd hr (by simp)
theorem small_ans {l : List Fil} {m : List Lin} {n : List Rec} (hl : FW l) (hn : RW n) (a b c d e : Int) : Ans (fun k => celluloidlaw15_small.f k a b c d e l m n) := by
  unfold celluloidlaw15_small.f celluloidref09_Small.f
  exact ans_bind (small8_ans hl) (fun _ => ans_ite (fun _ => ans_bind (small9_l0 hn 600 0 (by omega)) (fun _ => ans_some _)) (fun _ => ans_some _))
theorem small_of {k : Nat} {l : List Fil} {m : List Lin} {n : List Rec} {a b c d e : Int} (h : celluloidlaw15_small.f k a b c d e l m n = some true) :
    (l.length < 30 ∧ m.length < 30) ∧ n.length ≤ 600 ∧ ∀ r ∈ n, r.f8.length < 30 ∧ r.f9.length < 30 := by
  unfold celluloidlaw15_small.f at h
  obtain ⟨t, h1, h⟩ := bindS h
  obtain ⟨rfl, h⟩ := iteT h
  obtain ⟨u, h2, h⟩ := bindS h
  obtain rfl := Option.some.inj h
  have g := small9_of k 0 (by omega) h2
  rw [List.drop_zero] at g
  exact ⟨small8_of _ _ h1, g⟩
end Go.Proofs.Ytlldbmodidhidaa.P
namespace Go.Proofs.Ytlldbmodidhidaa.P
open Go.RowKit Go.Proofs.YtlldbmodidhidaaW.PrintWords Go.Proofs.YtlldbmodidhidaaW.PrintLast Go.Proofs.YtlldbmodidhidaaW.PrintMore
/-- From some number of rounds on there is one answer, of which P holds. -/
def IsV {α : Type} (f : Nat → Option α) (P : α → Prop) : Prop := ∃ N r, P r ∧ ∀ k, N ≤ k → f k = some r
/-- .. which tells whether p. -/
def IsP (f : Nat → Option Bool) (p : Prop) : Prop := IsV f (fun b => b = true ↔ p)
theorem isV_some {α : Type} {r : α} {P : α → Prop} (h : P r) : IsV (fun _ => some r) P := ⟨0, r, h, fun _ _ => rfl⟩
theorem isV_mono {α : Type} {f : Nat → Option α} {P Q : α → Prop} (h : IsV f P) (e : ∀ r, P r → Q r) : IsV f Q := by
  obtain ⟨N, r, hr, d⟩ := h
  exact ⟨N, r, e r hr, d⟩
theorem isV_step {α : Type} {f g : Nat → Option α} {P : α → Prop} (h : IsV g P) (e : ∀ k, f (k + 1) = g k) : IsV f P := by
  obtain ⟨N, r, hr, d⟩ := h
  refine ⟨N + 1, r, hr, fun k hk => ?_⟩
  obtain ⟨k, rfl⟩ : ∃ m, k = m + 1 := ⟨k - 1, by omega⟩
  rw [e k]
  exact d k (by omega)
theorem isV_bind {α β : Type} {f : Nat → Option α} {g : α → Nat → Option β} {P : α → Prop} {Q : β → Prop} (h : IsV f P) (h2 : ∀ r, P r → IsV (g r) Q) : IsV (fun k => (f k).bind fun r => g r k) Q := by
  obtain ⟨N, r, hr, e⟩ := h
  obtain ⟨M, s, hs, d⟩ := h2 r hr
  refine ⟨N + M, s, hs, fun k hk => ?_⟩
  show (f k).bind (fun r => g r k) = some s
  rw [e k (by omega), Option.bind_some]
  exact d k (by omega)
theorem isV_ite {α : Type} {c : Prop} [Decidable c] {f g : Nat → Option α} {P : α → Prop} (h1 : c → IsV f P) (h2 : ¬ c → IsV g P) : IsV (fun k => if c then f k else g k) P := by
  by_cases h : c
  · obtain ⟨N, r, hr, e⟩ := h1 h
    exact ⟨N, r, hr, fun k hk => (if_pos h).trans (e k hk)⟩
  · obtain ⟨N, r, hr, e⟩ := h2 h
    exact ⟨N, r, hr, fun k hk => (if_neg h).trans (e k hk)⟩
theorem isP_iff {f : Nat → Option Bool} {p q : Prop} (h : IsP f p) (e : p ↔ q) : IsP f q := isV_mono h (fun _ hb => hb.trans e)
theorem isP_dec {p : Prop} [Decidable p] : IsP (fun _ => some (decide p)) p := isV_some decide_eq_true_iff
theorem isP_no {p : Prop} (h : ¬ p) : IsP (fun _ => some false) p := isV_some (by simp [h])
theorem isP_yes {p : Prop} (h : p) : IsP (fun _ => some true) p := isV_some (by simp [h])
theorem isP_and {c : Prop} [Decidable c] {f : Nat → Option Bool} {p : Prop} (h : c → IsP f p) : IsP (fun k => if c then f k else some false) (c ∧ p) :=
  isV_ite (fun hc => isP_iff (h hc) (by simp [hc])) (fun hc => isP_no (by simp [hc]))
theorem isP_not {c : Prop} [Decidable c] {f : Nat → Option Bool} {p : Prop} (h : ¬ c → IsP f p) : IsP (fun k => if c then some false else f k) (¬ c ∧ p) :=
  isV_ite (fun hc => isP_no (by simp [hc])) (fun hc => isP_iff (h hc) (by simp [hc]))
theorem isP_band {f g : Nat → Option Bool} {p q : Prop} (h : IsP f p) (h2 : p → IsP g q) : IsP (fun k => (f k).bind fun t => if t = true then g k else some false) (p ∧ q) := by
  refine isV_bind (g := fun t k => if t = true then g k else some false) h (fun t ht => ?_)
  exact isV_ite (fun c => isP_iff (h2 (ht.1 c)) (by simp [ht.1 c])) (fun c => isP_no (fun e => c (ht.2 e.1)))
theorem isP_bid {f : Nat → Option Bool} {p : Prop} (h : IsP f p) : IsP (fun k => (f k).bind fun t => some t) p := isV_bind (g := fun t _ => some t) h (fun _ ht => isV_some ht)
theorem isP_bnot {f : Nat → Option Bool} {p : Prop} (h : IsP f p) : IsP (fun k => (f k).bind fun t => some (!t)) (¬ p) := isV_bind (g := fun t _ => some (!t)) h (fun t ht => isV_some (by rw [← ht]; cases t <;> simp))
theorem rdI (l : List Int) (i : Nat) (h : i < l.length) : rd l (i : Int) = l[i] := by
  unfold rd; rw [Int.toNat_natCast]; simp [List.getD_eq_getElem?_getD, h]
theorem drop_at {α : Type} (l : List α) (i : Nat) (h : i < l.length) : l.drop i = l[i] :: l.drop (i + 1) := List.drop_eq_getElem_cons h
def Bd (a b : Int) (l : List Int) : Prop := ∀ x ∈ l, a ≤ x ∧ x ≤ b
theorem fw_l0 (a b : Int) {l : List Int} (hl : l.length ≤ maxLen) : ∀ d i : Nat, d + i = l.length → IsP (fun k => field_within.l0 k a b l (l.length : Int) (i : Int)) (Bd a b (l.drop i)) := by
  intro d
  induction d with
  | zero =>
    intro i h
    refine isV_step (g := fun _ => some true) (isP_yes (by rw [List.drop_of_length_le (by omega)]; intro x hx; cases hx)) (fun k => ?_)
    rw [field_within.l0, if_neg (by omega)]
  | succ d ih =>
    intro i h
    refine isV_step (g := fun k => if l[i] < a then some false else if l[i] > b then some false else field_within.l0 k a b l (l.length : Int) ((i + 1 : Nat) : Int)) ?_ (fun k => ?_)
    · refine isP_iff (isP_not (fun _ => isP_not (fun _ => ih (i + 1) (by omega)))) ?_
      rw [drop_at l i (by omega)]
      unfold Bd
      simp only [List.mem_cons, forall_eq_or_imp]
      grind
    · rw [field_within.l0, if_pos (lt_of h), if_pos (nn i), if_pos (lt_of h), ans_next hl (by omega), rdI l i (by omega)]
theorem fw_is (a b : Int) {l : List Int} (hl : l.length ≤ maxLen) : IsP (fun k => field_within.f k a b l) (Bd a b l) := by
  have := fw_l0 a b hl l.length 0 (by omega)
  rwa [List.drop_zero] at this
theorem r7_l0 {l : List Int} (hl : l.length ≤ maxLen) : ∀ d i : Nat, d + i = l.length → IsP (fun k => celluloidref07_RGBA.l0 k l (l.length : Int) (i : Int)) (Bd 0 255 (l.drop i)) := by
  intro d
  induction d with
  | zero =>
    intro i h
    refine isV_step (g := fun _ => some true) (isP_yes (by rw [List.drop_of_length_le (by omega)]; intro x hx; cases hx)) (fun k => ?_)
    rw [celluloidref07_RGBA.l0, if_neg (by omega)]
  | succ d ih =>
    intro i h
    refine isV_step (g := fun k => if l[i] < 0 then some false else if l[i] > 255 then some false else celluloidref07_RGBA.l0 k l (l.length : Int) ((i + 1 : Nat) : Int)) ?_ (fun k => ?_)
    · refine isP_iff (isP_not (fun _ => isP_not (fun _ => ih (i + 1) (by omega)))) ?_
      rw [drop_at l i (by omega)]
      unfold Bd
      simp only [List.mem_cons, forall_eq_or_imp]
      grind
    · rw [celluloidref07_RGBA.l0, if_pos (lt_of h), if_pos (nn i), if_pos (lt_of h), ans_next hl (by omega), rdI l i (by omega)]
def ColP (a b c d : Int) : Prop := Bd 0 255 [a, b, c, d]
def MatP (a b c d e f : Int) : Prop := Bd (-4194304) 4194304 [a, b, c, d] ∧ Bd (-1048576) 1048576 [e, f]
def RectP (a b c d : Int) : Prop := Bd (-1048576) 1048576 [a, b, c, d] ∧ a ≤ b ∧ c ≤ d
theorem col_p (a b c d : Int) : IsP (fun k => field_RightRGBA.f k a b c d) (ColP a b c d) := by
  unfold field_RightRGBA.f
  exact isP_bid (fw_is _ _ (small_max (by simp)))
theorem col_r (a b c d : Int) : IsP (fun k => celluloidref07_RGBA.f k a b c d) (ColP a b c d) := by
  have := r7_l0 (l := [a, b, c, d]) (small_max (by simp)) 4 0 rfl
  rw [List.drop_zero] at this
  exact this
theorem mat_p (a b c d e f : Int) : IsP (fun k => field_RightMatrix.f k a b c d e f) (MatP a b c d e f) := by
  unfold field_RightMatrix.f
  exact isP_band (fw_is _ _ (small_max (by simp))) (fun _ => isP_bid (fw_is _ _ (small_max (by simp))))
theorem in7 (a m : Int) (hm : wrap64 (-m) = -m) : IsP (fun _ => celluloidref07_in.f a m) (-m ≤ a ∧ a ≤ m) := by
  unfold celluloidref07_in.f
  rw [hm]
  exact isP_and (fun _ => isP_dec)
theorem mat_r (a b c d e f : Int) : IsP (fun _ => celluloidref07_Matrix.f a b c d e f) (MatP a b c d e f) := by
  have h1 : wrap64 (-4194304) = -4194304 := w64_id (by decide) (by decide)
  have h2 : wrap64 (-1048576) = -1048576 := w64_id (by decide) (by decide)
  unfold celluloidref07_Matrix.f
  refine isP_iff (isP_band (in7 a _ h1) fun _ => isP_band (in7 b _ h1) fun _ => isP_band (in7 c _ h1) fun _ => isP_band (in7 d _ h1) fun _ => isP_band (in7 e _ h2) fun _ => isP_bid (in7 f _ h2)) ?_
  unfold MatP Bd
  simp
  grind
theorem rect_p (a b c d : Int) : IsP (fun k => field_RightRect.f k a b c d) (RectP a b c d) := by
  unfold field_RightRect.f
  exact isP_band (fw_is _ _ (small_max (by simp))) (fun _ => isP_and (fun _ => isP_dec))
theorem rect_r (a b c d : Int) : IsP (fun _ => celluloidref07_Rect.f a b c d) (RectP a b c d) := by
  have h2 : wrap64 (-1048576) = -1048576 := w64_id (by decide) (by decide)
  unfold celluloidref07_Rect.f
  refine isP_iff (isP_band (in7 a _ h2) fun _ => isP_band (in7 b _ h2) fun _ => isP_band (in7 c _ h2) fun _ => isP_band (in7 d _ h2) fun _ => isP_and fun _ => isP_dec) ?_
  unfold RectP Bd
  simp
  grind
theorem in9 (a x y : Int) : IsP (fun _ => celluloidref09_in.f a x y) (x ≤ a ∧ a ≤ y) := by
  unfold celluloidref09_in.f
  exact isP_and (fun _ => isP_dec)
theorem sw_p (a b : Int) (l : List Int) : IsP (fun _ => shape_within.f a b l) (Bd a b l) := by
  unfold shape_within.f
  exact isP_dec
abbrev Stp := S86
theorem rdS (l : List Stp) (i : Nat) (h : i < l.length) : rd_T86 l (i : Int) = l[i] := by
  unfold rd_T86; rw [Int.toNat_natCast]; simp [List.getD_eq_getElem?_getD, h]
theorem rdL (l : List Lin) (i : Nat) (h : i < l.length) : rd_T79 l (i : Int) = l[i] := by
  unfold rd_T79; rw [Int.toNat_natCast]; simp [List.getD_eq_getElem?_getD, h]
theorem stop_nil (l : List Stp) : IsP (fun k => api_Stop.f k l []) (l = []) := by
  unfold api_Stop.f
  refine isV_ite (fun c => ?_) (fun c => isP_no (fun h => c (by rw [h])))
  have hl : l = [] := List.eq_nil_of_length_eq_zero (by simpa using c)
  subst hl
  refine isV_step (g := fun _ => some true) (isP_yes rfl) (fun k => ?_)
  rw [api_Stop.l0, if_neg (by simp)]
theorem stop_self_l0 {l : List Stp} (hl : l.length ≤ maxLen) : ∀ d i : Nat, d + i = l.length → IsP (fun k => api_Stop.l0 k l l (l.length : Int) (i : Int)) True := by
  intro d
  induction d with
  | zero =>
    intro i h
    refine isV_step (g := fun _ => some true) (isP_yes trivial) (fun k => ?_)
    rw [api_Stop.l0, if_neg (by omega)]
  | succ d ih =>
    intro i h
    refine isV_step (ih (i + 1) (by omega)) (fun k => ?_)
    rw [api_Stop.l0, if_pos (lt_of h), if_pos (nn i), if_pos (lt_of h), if_pos (lt_of h), if_neg (by simp), ans_next hl (by omega)]
theorem stop_self {l : List Stp} (hl : l.length ≤ maxLen) : IsP (fun k => api_Stop.f k l l) True := by
  unfold api_Stop.f
  exact isV_ite (fun _ => stop_self_l0 hl l.length 0 (by omega)) (fun c => absurd rfl c)
theorem line_nil (l : List Lin) : IsP (fun k => api_Stroke_61.f k l []) (l = []) := by
  unfold api_Stroke_61.f
  refine isV_ite (fun c => ?_) (fun c => isP_no (fun h => c (by rw [h])))
  have hl : l = [] := List.eq_nil_of_length_eq_zero (by simpa using c)
  subst hl
  refine isV_step (g := fun _ => some true) (isP_yes rfl) (fun k => ?_)
  rw [api_Stroke_61.l0, if_neg (by simp)]
theorem line_self_l0 {l : List Lin} (hl : l.length ≤ maxLen) : ∀ d i : Nat, d + i = l.length → IsP (fun k => api_Stroke_61.l0 k l l (l.length : Int) (i : Int)) True := by
  intro d
  induction d with
  | zero =>
    intro i h
    refine isV_step (g := fun _ => some true) (isP_yes trivial) (fun k => ?_)
    rw [api_Stroke_61.l0, if_neg (by omega)]
  | succ d ih =>
    intro i h
    refine isV_step (ih (i + 1) (by omega)) (fun k => ?_)
    rw [api_Stroke_61.l0, if_pos (lt_of h), if_pos (nn i), if_pos (lt_of h), if_pos (lt_of h), if_neg (by simp), ans_next hl (by omega)]
theorem line_self {l : List Lin} (hl : l.length ≤ maxLen) : IsP (fun k => api_Stroke_61.f k l l) True := by
  unfold api_Stroke_61.f
  exact isV_ite (fun _ => line_self_l0 hl l.length 0 (by omega)) (fun c => absurd rfl c)
theorem same_p {l m : List Stp} {E : Prop} (h : IsP (fun k => api_Stop.f k l m) E) (a0 a1 a2 a3 a4 a5 a6 a7 a8 a9 a10 a11 a13 b0 b1 b2 b3 b4 b5 b6 b7 b8 b9 b10 b11 b13 : Int) :
    IsP (fun k => style_SameFill.f k a0 a1 a2 a3 a4 a5 a6 a7 a8 a9 a10 a11 l a13 b0 b1 b2 b3 b4 b5 b6 b7 b8 b9 b10 b11 m b13)
      (a0 = b0 ∧ (a1 = b1 ∧ a2 = b2 ∧ a3 = b3 ∧ a4 = b4) ∧ (a5 = b5 ∧ a6 = b6 ∧ a7 = b7 ∧ a8 = b8 ∧ a9 = b9 ∧ a10 = b10) ∧ a11 = b11 ∧ a13 = b13 ∧ E) := by
  unfold style_SameFill.f
  refine isP_iff (isP_and fun _ => isP_and fun _ => isP_and fun _ => isP_and fun _ => isP_and fun _ => isP_bid h) ?_
  simp only [Bool.and_eq_true, beq_iff_eq]
/-- Stops, each behind one at x. -/
def StP : Int → List Stp → Prop
  | _, [] => True
  | x, s :: t => (x ≤ s.f0 ∧ s.f0 ≤ 255 ∧ ColP s.f1.f0 s.f1.f1 s.f1.f2 s.f1.f3) ∧ StP s.f0 t
theorem fill_p_l0 {l : List Stp} (hl : l.length ≤ maxLen) (a0 a1 a2 a3 a4 a5 a6 a7 a8 a9 a10 a11 a13 : Int) (m : List Stp) : ∀ (d i : Nat) (x : Int), d + i = l.length →
    IsP (fun k => style_RightFill.l0 k x l (l.length : Int) (i : Int) a0 a1 a2 a3 a4 a5 a6 a7 a8 a9 a10 a11 m a13) (StP x (l.drop i) ∧ MatP a5 a6 a7 a8 a9 a10 ∧ 0 ≤ a11 ∧ a11 ≤ 2 ∧ 1 ≤ (m.length : Int) ∧ (m.length : Int) ≤ 8) := by
  intro d
  induction d with
  | zero =>
    intro i x h
    have e : ∀ k, style_RightFill.l0 (k + 1) x l (l.length : Int) (i : Int) a0 a1 a2 a3 a4 a5 a6 a7 a8 a9 a10 a11 m a13 = _ := fun k => by rw [style_RightFill.l0, if_neg (by omega)]
    refine isV_step (isP_iff (isP_band (mat_p _ _ _ _ _ _) fun _ => isP_and fun _ => isP_and fun _ => isP_and fun _ => isP_dec) ?_) e
    rw [List.drop_of_length_le (by omega)]
    simp [StP]
  | succ d ih =>
    intro i x h
    have e : ∀ k, style_RightFill.l0 (k + 1) x l (l.length : Int) (i : Int) a0 a1 a2 a3 a4 a5 a6 a7 a8 a9 a10 a11 m a13 = _ := fun k => by rw [style_RightFill.l0, if_pos (lt_of h), if_pos (nn i), if_pos (lt_of h), ans_next hl (by omega), rdS l i (by omega)]
    have st : IsP (fun k => style_stop.f k l[i].f0 l[i].f1.f0 l[i].f1.f1 l[i].f1.f2 l[i].f1.f3 x) (x ≤ l[i].f0 ∧ l[i].f0 ≤ 255 ∧ ColP l[i].f1.f0 l[i].f1.f1 l[i].f1.f2 l[i].f1.f3) := by
      unfold style_stop.f
      exact isP_and fun _ => isP_and fun _ => isP_bid (col_p _ _ _ _)
    refine isV_step (isP_iff (isP_band st fun _ => ih (i + 1) l[i].f0 (by omega)) ?_) e
    rw [drop_at l i (by omega)]
    simp only [StP, and_assoc]
def FillP (q : Fil) : Prop :=
  (q.f0 = 0 ∧ ColP q.f1.f0 q.f1.f1 q.f1.f2 q.f1.f3 ∧ (q.f2.f0 = 0 ∧ q.f2.f1 = 0 ∧ q.f2.f2 = 0 ∧ q.f2.f3 = 0 ∧ q.f2.f4 = 0 ∧ q.f2.f5 = 0) ∧ q.f3 = 0 ∧ q.f5 = 0 ∧ q.f4 = []) ∨
  ((q.f0 = 64 ∨ q.f0 = 65) ∧ MatP q.f2.f0 q.f2.f1 q.f2.f2 q.f2.f3 q.f2.f4 q.f2.f5 ∧ 0 ≤ q.f5 ∧ q.f5 < 65536 ∧ (q.f1.f0 = 0 ∧ q.f1.f1 = 0 ∧ q.f1.f2 = 0 ∧ q.f1.f3 = 0) ∧ q.f3 = 0 ∧ q.f4 = []) ∨
  ((q.f0 = 16 ∨ q.f0 = 18) ∧ (q.f1.f0 = 0 ∧ q.f1.f1 = 0 ∧ q.f1.f2 = 0 ∧ q.f1.f3 = 0) ∧ q.f5 = 0 ∧ StP 0 q.f4 ∧ MatP q.f2.f0 q.f2.f1 q.f2.f2 q.f2.f3 q.f2.f4 q.f2.f5 ∧ 0 ≤ q.f3 ∧ q.f3 ≤ 2 ∧ 1 ≤ q.f4.length ∧ q.f4.length ≤ 8)
theorem pic_p (a : Int) : IsP (fun _ => style_picture.f a) (a = 64 ∨ a = 65) := by
  unfold style_picture.f
  exact isV_ite (fun c => isP_yes (.inl c)) (fun c => isV_some (by simp [c]))
theorem grad_p (a : Int) : IsP (fun _ => style_gradient.f a) (a = 16 ∨ a = 18) := by
  unfold style_gradient.f
  exact isV_ite (fun c => isP_yes (.inl c)) (fun c => isV_some (by simp [c]))
theorem fill_p {q : Fil} (hl : q.f4.length ≤ maxLen) : IsP (fun k => style_RightFill.f k q.f0 q.f1.f0 q.f1.f1 q.f1.f2 q.f1.f3 q.f2.f0 q.f2.f1 q.f2.f2 q.f2.f3 q.f2.f4 q.f2.f5 q.f3 q.f4 q.f5) (FillP q) := by
  unfold style_RightFill.f
  refine isV_ite (fun c => isP_iff (isP_band (col_p _ _ _ _) fun _ => isP_bid (same_p (stop_nil _) _ _ _ _ _ _ _ _ _ _ _ _ _ _ _ _ _ _ _ _ _ _ _ _ _ _)) ?_)
    (fun c => isV_bind (pic_p _) fun t ht => isV_ite (fun c1 => isP_iff (isP_band (mat_p _ _ _ _ _ _) fun _ => isP_and fun _ => isP_and fun _ => isP_bid (same_p (stop_nil _) _ _ _ _ _ _ _ _ _ _ _ _ _ _ _ _ _ _ _ _ _ _ _ _ _ _)) ?_)
      (fun c1 => isV_bind (grad_p _) fun u hu => isV_ite (fun c2 => isP_iff (isP_band ((same_p (stop_self hl) _ _ _ _ _ _ _ _ _ _ _ _ _ _ _ _ _ _ _ _ _ _ _ _ _ _)) fun _ => fill_p_l0 hl _ _ _ _ _ _ _ _ _ _ _ _ _ _ q.f4.length 0 0 (by omega)) ?_) (fun c2 => isP_no ?_)))
  · unfold FillP; simp [c]
  · unfold FillP; rcases ht.1 c1 with h | h <;> simp [h] <;> grind
  · rw [List.drop_zero]; unfold FillP; rcases hu.1 c2 with h | h <;> simp [h] <;> grind
  · have h1 : ¬ (q.f0 = 64 ∨ q.f0 = 65) := fun h => c1 (ht.2 h)
    have h2 : ¬ (q.f0 = 16 ∨ q.f0 = 18) := fun h => c2 (hu.2 h)
    unfold FillP; grind
def LineP (s : Lin) : Prop := 0 ≤ s.f0 ∧ s.f0 < 65536 ∧ ColP s.f1.f0 s.f1.f1 s.f1.f2 s.f1.f3
theorem line_p (s : Lin) : IsP (fun k => style_Right_2.f k s.f0 s.f1.f0 s.f1.f1 s.f1.f2 s.f1.f3) (¬ LineP s) := by
  unfold style_Right_2.f style_RightStroke.f
  exact isP_bnot (isP_and fun _ => isP_and fun _ => isP_bid (col_p _ _ _ _))
theorem fills_p_l0 {l : List Fil} (hl : FW l) : ∀ d i : Nat, d + i = l.length → IsV (fun k => api_Fill_51.l0 k l (l.length : Int) (i : Int)) (fun r => r ≥ 0 ↔ ¬ ∀ q ∈ l.drop i, FillP q) := by
  intro d
  induction d with
  | zero =>
    intro i h
    refine isV_step (g := fun _ => some (-1)) (isV_some (by rw [List.drop_of_length_le (by omega)]; simp)) (fun k => ?_)
    rw [api_Fill_51.l0, if_neg (by omega)]
  | succ d ih =>
    intro i h
    have e : ∀ k, api_Fill_51.l0 (k + 1) l (l.length : Int) (i : Int) = _ := fun k => by rw [api_Fill_51.l0, if_pos (lt_of h), if_pos (nn i), if_pos (lt_of h), ans_next hl.1 (by omega), rdF l i (by omega)]
    have f : IsP (fun k => style_Right_1.f k l[i].f0 l[i].f1.f0 l[i].f1.f1 l[i].f1.f2 l[i].f1.f3 l[i].f2.f0 l[i].f2.f1 l[i].f2.f2 l[i].f2.f3 l[i].f2.f4 l[i].f2.f5 l[i].f3 l[i].f4 l[i].f5) (¬ FillP l[i]) := by
      unfold style_Right_1.f
      exact isP_bnot (fill_p (hl.2 _ (List.getElem_mem _)))
    refine isV_step (isV_bind f fun t ht => isV_ite (fun c => isV_some ?_) (fun c => isV_mono (ih (i + 1) (by omega)) fun r hr => ?_)) e
    · rw [drop_at l i (by omega)]
      have := ht.1 c
      simp only [List.mem_cons, forall_eq_or_imp]
      grind
    · rw [drop_at l i (by omega), hr]
      have : FillP l[i] := Classical.not_not.1 (fun h => c (ht.2 h))
      simp only [List.mem_cons, forall_eq_or_imp]
      grind
theorem lines_p_l0 {l : List Lin} (hl : l.length ≤ maxLen) : ∀ d i : Nat, d + i = l.length → IsV (fun k => api_Stroke_58.l0 k l (l.length : Int) (i : Int)) (fun r => r ≥ 0 ↔ ¬ ∀ q ∈ l.drop i, LineP q) := by
  intro d
  induction d with
  | zero =>
    intro i h
    refine isV_step (g := fun _ => some (-1)) (isV_some (by rw [List.drop_of_length_le (by omega)]; simp)) (fun k => ?_)
    rw [api_Stroke_58.l0, if_neg (by omega)]
  | succ d ih =>
    intro i h
    have e : ∀ k, api_Stroke_58.l0 (k + 1) l (l.length : Int) (i : Int) = _ := fun k => by rw [api_Stroke_58.l0, if_pos (lt_of h), if_pos (nn i), if_pos (lt_of h), ans_next hl (by omega), rdL l i (by omega)]
    refine isV_step (isV_bind (line_p l[i]) fun t ht => isV_ite (fun c => isV_some ?_) (fun c => isV_mono (ih (i + 1) (by omega)) fun r hr => ?_)) e
    · rw [drop_at l i (by omega)]
      have := ht.1 c
      simp only [List.mem_cons, forall_eq_or_imp]
      grind
    · rw [drop_at l i (by omega), hr]
      have : LineP l[i] := Classical.not_not.1 (fun h => c (ht.2 h))
      simp only [List.mem_cons, forall_eq_or_imp]
      grind
def ListsP (l : List Fil) (m : List Lin) : Prop := l.length ≤ 15 ∧ m.length ≤ 15 ∧ (∀ q ∈ l, FillP q) ∧ ∀ s ∈ m, LineP s
theorem lists_p {l : List Fil} {m : List Lin} (hl : FW l) (hm : m.length ≤ maxLen) : IsP (fun k => style_Right.f k l m) (ListsP l m) := by
  have a : IsP (fun k => api_Fill_41.f k l) (¬ ∀ q ∈ l, FillP q) := by
    unfold api_Fill_41.f api_Fill_51.f
    refine isV_bind (fills_p_l0 hl l.length 0 (by omega)) fun r hr => isV_some ?_
    rw [decide_eq_true_iff, hr, List.drop_zero]
  have b : IsP (fun k => api_Stroke_44.f k m) (¬ ∀ q ∈ m, LineP q) := by
    unfold api_Stroke_44.f api_Stroke_58.f
    refine isV_bind (lines_p_l0 hm m.length 0 (by omega)) fun r hr => isV_some ?_
    rw [decide_eq_true_iff, hr, List.drop_zero]
  unfold style_Right.f
  refine isP_iff (isP_and fun _ => isP_and fun _ => isV_bind (Q := fun t => t = true ↔ ((∀ q ∈ l, FillP q) ∧ ∀ s ∈ m, LineP s)) a fun t ht => isV_ite (fun c => isP_no (fun h => ht.1 c h.1)) (fun c => isP_iff (isP_bnot b) ?_)) ?_
  · have : ∀ q ∈ l, FillP q := Classical.not_not.1 (fun h => c (ht.2 h))
    rw [Classical.not_not]
    exact ⟨fun h => ⟨this, h⟩, fun h => h.2⟩
  · unfold ListsP
    have e1 : ((l.length : Int) ≤ 15) ↔ l.length ≤ 15 := by omega
    have e2 : ((m.length : Int) ≤ 15) ↔ m.length ≤ 15 := by omega
    rw [e1, e2]
theorem same_nil (a0 a1 a2 a3 a4 a5 a6 a7 b0 b1 b2 b3 b4 b5 b6 b7 : Int) (l : List Fil) (p : List Lin) :
    IsP (fun k => shape_same.f k a0 a1 a2 a3 a4 a5 a6 a7 l p b0 b1 b2 b3 b4 b5 b6 b7 [] []) (l = [] ∧ p = [] ∧ a0 = b0 ∧ a1 = b1 ∧ a2 = b2 ∧ a3 = b3 ∧ a4 = b4 ∧ a5 = b5 ∧ a6 = b6 ∧ a7 = b7) := by
  have off : ∀ {q : Prop}, ¬ q → IsP (fun k => shape_same.j0 k true a0 a1 a2 a3 a4 a5 a6 a7 l p b0 b1 b2 b3 b4 b5 b6 b7 [] []) q := fun hq => by
    have e : ∀ k, shape_same.j0 (k + 1) true a0 a1 a2 a3 a4 a5 a6 a7 l p b0 b1 b2 b3 b4 b5 b6 b7 [] [] = _ := fun k => by rw [shape_same.j0, if_pos rfl]
    exact isV_step (isP_no hq) e
  unfold shape_same.f
  refine isV_ite (fun c => isV_bind (line_nil p) fun t ht => ?_) (fun c => off (fun h => c (by rw [h.1])))
  have hl : l = [] := List.eq_nil_of_length_eq_zero (by simpa using c)
  subst hl
  cases t with
  | false => exact off (fun h => absurd (ht.2 h.2.1) (by simp))
  | true =>
    have hp := ht.1 rfl
    have e : ∀ k, shape_same.j0 (k + 1) (!true) a0 a1 a2 a3 a4 a5 a6 a7 [] p b0 b1 b2 b3 b4 b5 b6 b7 [] [] = _ := fun k => by rw [shape_same.j0, if_neg (by simp)]
    have e2 : ∀ k, shape_same.l0 (k + 1) (([] : List Fil).length : Int) 0 a0 a1 a2 a3 a4 a5 a6 a7 [] p b0 b1 b2 b3 b4 b5 b6 b7 [] [] = _ := fun k => by rw [shape_same.l0, if_neg (by simp)]
    refine isV_step (isV_step (isP_iff (isP_and fun _ => isP_and fun _ => isP_and fun _ => isP_and fun _ => isP_and fun _ => isP_and fun _ => isP_and fun _ => isV_some (r := a7 == b7) beq_iff_eq) ?_) e2) e
    simp [hp]
theorem same_self_l0 {l : List Fil} (hl : FW l) (a0 a1 a2 a3 a4 a5 a6 a7 b0 b1 b2 b3 b4 b5 b6 b7 : Int) (p q : List Lin) : ∀ d i : Nat, d + i = l.length →
    IsP (fun k => shape_same.l0 k (l.length : Int) (i : Int) a0 a1 a2 a3 a4 a5 a6 a7 l p b0 b1 b2 b3 b4 b5 b6 b7 l q) (a0 = b0 ∧ a1 = b1 ∧ a2 = b2 ∧ a3 = b3 ∧ a4 = b4 ∧ a5 = b5 ∧ a6 = b6 ∧ a7 = b7) := by
  intro d
  induction d with
  | zero =>
    intro i h
    have e : ∀ k, shape_same.l0 (k + 1) (l.length : Int) (i : Int) a0 a1 a2 a3 a4 a5 a6 a7 l p b0 b1 b2 b3 b4 b5 b6 b7 l q = _ := fun k => by rw [shape_same.l0, if_neg (by omega)]
    exact isV_step (isP_and fun _ => isP_and fun _ => isP_and fun _ => isP_and fun _ => isP_and fun _ => isP_and fun _ => isP_and fun _ => isV_some (r := a7 == b7) beq_iff_eq) e
  | succ d ih =>
    intro i h
    have e : ∀ k, shape_same.l0 (k + 1) (l.length : Int) (i : Int) a0 a1 a2 a3 a4 a5 a6 a7 l p b0 b1 b2 b3 b4 b5 b6 b7 l q = _ := fun k => by rw [shape_same.l0, if_pos (lt_of h), if_pos (nn i), if_pos (lt_of h), if_pos (lt_of h), ans_next hl.1 (by omega)]
    refine isV_step (isP_iff (isP_band (same_p (stop_self (hl.at_ (i := i) (by omega))) _ _ _ _ _ _ _ _ _ _ _ _ _ _ _ _ _ _ _ _ _ _ _ _ _ _) fun _ => ih (i + 1) (by omega)) ?_) e
    simp
theorem same_self {l : List Fil} {p : List Lin} (hl : FW l) (hp : p.length ≤ maxLen) (a0 a1 a2 a3 a4 a5 a6 a7 b0 b1 b2 b3 b4 b5 b6 b7 : Int) :
    IsP (fun k => shape_same.f k a0 a1 a2 a3 a4 a5 a6 a7 l p b0 b1 b2 b3 b4 b5 b6 b7 l p) (a0 = b0 ∧ a1 = b1 ∧ a2 = b2 ∧ a3 = b3 ∧ a4 = b4 ∧ a5 = b5 ∧ a6 = b6 ∧ a7 = b7) := by
  unfold shape_same.f
  refine isV_ite (fun c => isV_bind (line_self hp) fun t ht => ?_) (fun c => absurd rfl c)
  obtain rfl : t = true := ht.2 trivial
  have e : ∀ k, shape_same.j0 (k + 1) (!true) a0 a1 a2 a3 a4 a5 a6 a7 l p b0 b1 b2 b3 b4 b5 b6 b7 l p = _ := fun k => by rw [shape_same.j0, if_neg (by simp)]
  exact isV_step (same_self_l0 hl _ _ _ _ _ _ _ _ _ _ _ _ _ _ _ _ _ _ l.length 0 (by omega)) e
def SndP (r : Rec) (x y : Int) : Prop :=
  (r.f0 = 1 ∧ (-1048576 ≤ r.f1 ∧ r.f1 ≤ 1048576) ∧ (-1048576 ≤ r.f2 ∧ r.f2 ≤ 1048576) ∧ (r.f3 = 0 ∧ r.f4 = 0) ∧ (r.f5 = 0 ∧ r.f6 = 0 ∧ r.f7 = 0) ∧ r.f8 = [] ∧ r.f9 = []) ∨
  (r.f0 = 2 ∧ (-1 ≤ r.f5 ∧ r.f5 ≤ x) ∧ (-1 ≤ r.f6 ∧ r.f6 ≤ x) ∧ (-1 ≤ r.f7 ∧ r.f7 ≤ y) ∧ (0 ≤ r.f5 ∨ 0 ≤ r.f6 ∨ 0 ≤ r.f7) ∧ (r.f1 = 0 ∧ r.f2 = 0) ∧ (r.f3 = 0 ∧ r.f4 = 0) ∧ r.f8 = [] ∧ r.f9 = []) ∨
  (r.f0 = 3 ∧ ListsP r.f8 r.f9 ∧ (r.f1 = 0 ∧ r.f2 = 0) ∧ (r.f3 = 0 ∧ r.f4 = 0) ∧ r.f5 = 0 ∧ r.f6 = 0 ∧ r.f7 = 0) ∨
  (r.f0 = 4 ∧ (-65536 ≤ r.f1 ∧ r.f1 ≤ 65535) ∧ (-65536 ≤ r.f2 ∧ r.f2 ≤ 65535) ∧ (r.f3 = 0 ∧ r.f4 = 0) ∧ (r.f5 = 0 ∧ r.f6 = 0 ∧ r.f7 = 0) ∧ r.f8 = [] ∧ r.f9 = []) ∨
  (r.f0 = 5 ∧ (-65536 ≤ r.f1 ∧ r.f1 ≤ 65535) ∧ (-65536 ≤ r.f2 ∧ r.f2 ≤ 65535) ∧ (-65536 ≤ r.f3 ∧ r.f3 ≤ 65535) ∧ (-65536 ≤ r.f4 ∧ r.f4 ≤ 65535) ∧ (r.f5 = 0 ∧ r.f6 = 0 ∧ r.f7 = 0) ∧ r.f8 = [] ∧ r.f9 = [])
theorem mx_ge (a b c : Int) : mx (mx a b) c ≥ 0 ↔ (0 ≤ a ∨ 0 ≤ b ∨ 0 ≤ c) := by unfold mx; grind
theorem sound_p {r : Rec} (hl : FW r.f8) (hp : r.f9.length ≤ maxLen) (x y : Int) : IsP (fun k => shape_sound.f k r.f0 r.f1 r.f2 r.f3 r.f4 r.f5 r.f6 r.f7 r.f8 r.f9 x y) (SndP r x y) := by
  unfold shape_sound.f
  refine isV_ite (fun c => isP_iff (isP_band (sw_p _ _ _) fun _ => isP_bid (same_nil _ _ _ _ _ _ _ _ _ _ _ _ _ _ _ _ _ _)) ?_)
    fun c1 => isV_ite (fun c => isP_iff (isP_band (sw_p _ _ _) fun _ => isP_band (sw_p _ _ _) fun _ => isP_and fun _ => isP_bid (same_nil _ _ _ _ _ _ _ _ _ _ _ _ _ _ _ _ _ _)) ?_)
    fun c2 => isV_ite (fun c => isP_iff (isP_band (lists_p hl hp) fun _ => isP_bid (same_self hl hp _ _ _ _ _ _ _ _ _ _ _ _ _ _ _ _)) ?_)
    fun c3 => isV_ite (fun c => isP_iff (isP_band (sw_p _ _ _) fun _ => isP_bid (same_nil _ _ _ _ _ _ _ _ _ _ _ _ _ _ _ _ _ _)) ?_)
    fun c4 => isV_ite (fun c => isP_iff (isP_band (sw_p _ _ _) fun _ => isP_bid (same_nil _ _ _ _ _ _ _ _ _ _ _ _ _ _ _ _ _ _)) ?_) fun c5 => isP_no ?_
  · unfold SndP; simp [c, Bd]; grind
  · unfold SndP; simp [c, Bd, mx_ge]; grind
  · unfold SndP; simp [c]; grind
  · unfold SndP; simp [c, Bd]; grind
  · unfold SndP; simp [c, Bd]; grind
  · unfold SndP; simp [c1, c2, c3, c4, c5]
/-- Right records, one behind the other. -/
def RecP : Int → Int → List Rec → Prop
  | _, _, [] => True
  | x, y, r :: t => SndP r x y ∧ RecP (if r.f0 = 3 then (r.f8.length : Int) else x) (if r.f0 = 3 then (r.f9.length : Int) else y) t
theorem records_p_l0 {l : List Rec} (hl : RW l) : ∀ (d i : Nat) (x y : Int), d + i = l.length → IsP (fun k => shape_RightRecords.l0 k x y 0 l (l.length : Int) (i : Int)) (RecP x y (l.drop i)) := by
  intro d
  induction d with
  | zero =>
    intro i x y h
    refine isV_step (g := fun _ => some true) (isP_yes (by rw [List.drop_of_length_le (by omega)]; trivial)) (fun k => ?_)
    rw [shape_RightRecords.l0, if_neg (by omega)]
  | succ d ih =>
    intro i x y h
    have hi : i < l.length := by omega
    have hw := hl.2 _ (List.getElem_mem hi)
    have e : ∀ k, shape_RightRecords.l0 (k + 1) x y 0 l (l.length : Int) (i : Int) = _ := fun k => by rw [shape_RightRecords.l0, if_pos (lt_of h), if_pos (nn i), if_pos (lt_of h), rdR l i hi]
    have off : ∀ {q : Prop}, ¬ q → IsP (fun k => shape_RightRecords.j2 k x y 0 l (l.length : Int) (i : Int) true l[i].f0 l[i].f1 l[i].f2 l[i].f3 l[i].f4 l[i].f5 l[i].f6 l[i].f7 l[i].f8 l[i].f9) q := fun hq => by
      have e : ∀ k, shape_RightRecords.j2 (k + 1) x y 0 l (l.length : Int) (i : Int) true l[i].f0 l[i].f1 l[i].f2 l[i].f3 l[i].f4 l[i].f5 l[i].f6 l[i].f7 l[i].f8 l[i].f9 = _ := fun k => by rw [shape_RightRecords.j2, if_pos rfl]
      exact isV_step (isP_no hq) e
    have on : ∀ b : Bool, b = false → SndP l[i] x y → IsP (fun k => shape_RightRecords.j2 k x y 0 l (l.length : Int) (i : Int) b l[i].f0 l[i].f1 l[i].f2 l[i].f3 l[i].f4 l[i].f5 l[i].f6 l[i].f7 l[i].f8 l[i].f9) (RecP x y (l.drop i)) := fun b hb hs => by
      subst hb
      have e : ∀ k, shape_RightRecords.j2 (k + 1) x y 0 l (l.length : Int) (i : Int) false l[i].f0 l[i].f1 l[i].f2 l[i].f3 l[i].f4 l[i].f5 l[i].f6 l[i].f7 l[i].f8 l[i].f9 = _ := fun k => by rw [shape_RightRecords.j2, if_neg (by simp), ans_next hl.1 hi]
      refine isV_step (isV_ite (fun c => isP_iff (ih (i + 1) _ _ (by omega)) ?_) (fun c => isP_iff (ih (i + 1) _ _ (by omega)) ?_)) e <;>
      · rw [drop_at l i hi, RecP]
        simp [c, hs]
    refine isV_step (isV_bind (sound_p hw.1 hw.2 x y) fun t ht => isV_ite (fun c => ?_) (fun c => off (fun h => c (ht.2 (by rw [drop_at l i hi] at h; exact h.1))))) e
    have hs := ht.1 c
    exact isV_ite (fun _ => isV_ite (fun _ => isV_ite (fun _ => on _ (by decide) hs) (fun _ => on _ rfl hs)) (fun c0 => absurd rfl c0)) (fun _ => isV_ite (fun _ => on _ (by decide) hs) (fun _ => on _ rfl hs))
theorem records_p {l : List Rec} (hl : RW l) (x y : Int) : IsP (fun k => shape_RightRecords.f k x y l 0) ((0 ≤ x ∧ x ≤ 15) ∧ (0 ≤ y ∧ y ≤ 15) ∧ l.length ≤ 512 ∧ RecP x y l) := by
  have off : ∀ {q : Prop}, ¬ q → IsP (fun k => shape_RightRecords.j0 k x y l 0 true) q := fun hq => by
    have e : ∀ k, shape_RightRecords.j0 (k + 1) x y l 0 true = _ := fun k => by rw [shape_RightRecords.j0, if_pos rfl]
    exact isV_step (isP_no hq) e
  unfold shape_RightRecords.f
  refine isV_bind (sw_p 0 15 [x, y]) fun t ht => isV_ite (fun c => isV_bind (sw_p 0 2 [0]) fun u hu => isV_ite (fun _ => ?_) (fun c' => absurd (hu.2 (by unfold Bd; simp)) c')) (fun c => off (fun h => c (ht.2 (by unfold Bd; simp; omega))))
  have hb := ht.1 c
  unfold Bd at hb
  simp at hb
  by_cases d : (l.length : Int) > 512
  · rw [decide_eq_true d]
    exact off (fun h => by omega)
  · rw [decide_eq_false d]
    have e : ∀ k, shape_RightRecords.j0 (k + 1) x y l 0 false = _ := fun k => by rw [shape_RightRecords.j0, if_neg (by simp)]
    refine isV_step (isP_iff (records_p_l0 hl l.length 0 x y (by omega)) ?_) e
    rw [List.drop_zero]
    grind
def ShapeP (a b c d e : Int) (l : List Fil) (m : List Lin) (n : List Rec) : Prop := (0 ≤ a ∧ a ≤ 65535) ∧ RectP b c d e ∧ ListsP l m ∧ n.length ≤ 512 ∧ RecP (l.length : Int) (m.length : Int) n
theorem shape_p {l : List Fil} {m : List Lin} {n : List Rec} (hl : FW l) (hm : m.length ≤ maxLen) (hn : RW n) (a b c d e : Int) : IsP (fun k => shape_Right.f k a b c d e l m n) (ShapeP a b c d e l m n) := by
  unfold shape_Right.f
  refine isP_iff (isP_band (sw_p _ _ _) fun _ => isP_band (rect_p _ _ _ _) fun _ => isP_band (lists_p hl hm) fun _ => isP_bid (records_p hn _ _)) ?_
  unfold ShapeP ListsP Bd
  simp
  grind
theorem fill_r_l0 {l : List Stp} (hl : l.length ≤ maxLen) (a0 a1 a2 a3 a4 a5 a6 a7 a8 a9 a10 a11 a13 : Int) : ∀ (d i : Nat) (x : Int), d + i = l.length → 0 ≤ x → (i = 0 → x = 0) → (∀ j, i = j + 1 → ∀ hj : j < l.length, l[j].f0 = x) →
    IsP (fun k => celluloidref08_Fill.l0 k (i : Int) a0 a1 a2 a3 a4 a5 a6 a7 a8 a9 a10 a11 l a13) (StP x (l.drop i) ∧ (a1 = 0 ∧ a2 = 0 ∧ a3 = 0 ∧ a4 = 0) ∧ a13 = 0 ∧ 0 ≤ a11 ∧ a11 < 3 ∧ 0 < l.length ∧ l.length < 9 ∧ MatP a5 a6 a7 a8 a9 a10) := by
  intro d
  induction d with
  | zero =>
    intro i x h _ _ _
    have e : ∀ k, celluloidref08_Fill.l0 (k + 1) (i : Int) a0 a1 a2 a3 a4 a5 a6 a7 a8 a9 a10 a11 l a13 = _ := fun k => by rw [celluloidref08_Fill.l0, if_neg (by omega)]
    refine isV_step (isP_iff (isP_and fun _ => isP_and fun _ => isP_and fun _ => isP_and fun _ => isP_and fun _ => isP_and fun _ => isP_bid (mat_r _ _ _ _ _ _)) ?_) e
    rw [List.drop_of_length_le (by omega)]
    simp [StP]
    grind
  | succ d ih =>
    intro i x h hx h0 hj
    have hi : i < l.length := by omega
    have e : ∀ k, celluloidref08_Fill.l0 (k + 1) (i : Int) a0 a1 a2 a3 a4 a5 a6 a7 a8 a9 a10 a11 l a13 = _ := fun k => by rw [celluloidref08_Fill.l0, if_pos (lt_of h), if_pos (nn i), ans_next hl (by omega), rdS l i hi]
    rw [drop_at l i hi]
    by_cases hn : l[i].f0 < 0
    · exact isV_step (isV_ite (fun _ => isP_no (by simp only [StP]; omega)) (fun c => absurd hn c)) e
    have key := isP_band (col_r l[i].f1.f0 l[i].f1.f1 l[i].f1.f2 l[i].f1.f3) fun _ => ih (i + 1) l[i].f0 (by omega) (by omega) (by omega) (fun j hj' hl' => by obtain rfl : j = i := (by omega); rfl)
    cases i with
    | zero =>
      obtain rfl := h0 rfl
      refine isV_step (isV_ite (fun c => isP_no (by simp only [StP]; omega)) fun c => isV_ite (fun c' => isP_no (by simp only [StP]; omega)) fun c' => isV_ite (fun q => absurd q (by simp)) fun _ => isP_iff key ?_) e
      simp only [StP]
      grind
    | succ j =>
      have hp := hj j rfl (by omega)
      have ep : wrap64 (((j + 1 : Nat) : Int) - 1) = (j : Int) := by
        have hm : l.length ≤ 9223372036854775807 := hl
        rw [w64_id (by omega) (by omega)]; omega
      rw [ep, rdS l j (by omega), hp] at e
      refine isV_step (isV_ite (fun c => isP_no (by simp only [StP]; omega)) fun c => isV_ite (fun c' => isP_no (by simp only [StP]; omega)) fun c' => isV_ite (fun _ => isV_ite (fun _ => isV_ite (fun _ => isV_ite (fun c2 => isP_no (by simp only [StP]; omega)) fun c2 => isP_iff key ?_) fun c2 => absurd (show (j : Int) < (l.length : Int) by omega) c2) fun c2 => absurd (nn j) c2) fun q => absurd (show ((j + 1 : Nat) : Int) > 0 by omega) q) e
      simp only [StP]
      grind
theorem fill_r {q : Fil} (hl : q.f4.length ≤ maxLen) : IsP (fun k => celluloidref08_Fill.f k q.f0 q.f1.f0 q.f1.f1 q.f1.f2 q.f1.f3 q.f2.f0 q.f2.f1 q.f2.f2 q.f2.f3 q.f2.f4 q.f2.f5 q.f3 q.f4 q.f5) (FillP q) := by
  have pic : ∀ b : Bool, (b = true ↔ q.f0 = 64 ∨ q.f0 = 65) → q.f0 ≠ 0 → IsP (fun k => celluloidref08_Fill.j0 k q.f0 b q.f0 q.f1.f0 q.f1.f1 q.f1.f2 q.f1.f3 q.f2.f0 q.f2.f1 q.f2.f2 q.f2.f3 q.f2.f4 q.f2.f5 q.f3 q.f4 q.f5) (FillP q) := by
    intro b hb h0
    have grad : ∀ u : Bool, (u = true ↔ q.f0 = 16 ∨ q.f0 = 18) → ¬ b = true → IsP (fun k => celluloidref08_Fill.j1 k u q.f0 q.f1.f0 q.f1.f1 q.f1.f2 q.f1.f3 q.f2.f0 q.f2.f1 q.f2.f2 q.f2.f3 q.f2.f4 q.f2.f5 q.f3 q.f4 q.f5) (FillP q) := by
      intro u hu hb'
      have e : ∀ k, celluloidref08_Fill.j1 (k + 1) u q.f0 q.f1.f0 q.f1.f1 q.f1.f2 q.f1.f3 q.f2.f0 q.f2.f1 q.f2.f2 q.f2.f3 q.f2.f4 q.f2.f5 q.f3 q.f4 q.f5 = _ := fun k => by rw [celluloidref08_Fill.j1]
      refine isV_step (isV_ite (fun c => isP_iff (fill_r_l0 hl _ _ _ _ _ _ _ _ _ _ _ _ _ q.f4.length 0 0 (by omega) (by omega) (fun _ => rfl) (fun j hj => by omega)) ?_) (fun c => isP_no ?_)) e
      · rw [List.drop_zero]; unfold FillP; rcases hu.1 c with h | h <;> simp [h] <;> grind
      · have h1 : ¬ (q.f0 = 64 ∨ q.f0 = 65) := fun h => hb' (hb.2 h)
        have h2 : ¬ (q.f0 = 16 ∨ q.f0 = 18) := fun h => c (hu.2 h)
        unfold FillP; grind
    have e : ∀ k, celluloidref08_Fill.j0 (k + 1) q.f0 b q.f0 q.f1.f0 q.f1.f1 q.f1.f2 q.f1.f3 q.f2.f0 q.f2.f1 q.f2.f2 q.f2.f3 q.f2.f4 q.f2.f5 q.f3 q.f4 q.f5 = _ := fun k => by rw [celluloidref08_Fill.j0]
    refine isV_step (isV_ite (fun c => isP_iff (isP_and fun _ => isP_and fun _ => isP_and fun _ => isP_and fun _ => isP_and fun _ => isP_bid (mat_r _ _ _ _ _ _)) ?_) (fun c => isV_ite (fun c' => grad _ (by simp [c']) c) (fun c' => grad _ (by simp [c']) c))) e
    unfold FillP; rcases hb.1 c with h | h <;> simp [h] <;> grind
  unfold celluloidref08_Fill.f
  refine isV_ite (fun c => isP_iff (isP_and fun _ => isP_and fun _ => isP_and fun _ => isP_and fun _ => isP_bid (col_r _ _ _ _)) ?_) (fun c => isV_ite (fun c' => pic _ (by simp [c']) c) (fun c' => pic _ (by simp [c']) c))
  unfold FillP; simp [c]; grind
theorem line_r (s : Lin) : IsP (fun k => celluloidref08_Stroke.f k s.f0 s.f1.f0 s.f1.f1 s.f1.f2 s.f1.f3) (LineP s) := by
  unfold celluloidref08_Stroke.f
  exact isP_and fun _ => isP_and fun _ => isP_bid (col_r _ _ _ _)
theorem lines_r {l : List Fil} {m : List Lin} (hm : m.length ≤ maxLen) : ∀ d i : Nat, d + i = m.length → IsP (fun k => celluloidref08_Right.l1 k l m (i : Int)) ((∀ s ∈ m.drop i, LineP s) ∧ l.length < 16 ∧ m.length < 16) := by
  intro d
  induction d with
  | zero =>
    intro i h
    have e : ∀ k, celluloidref08_Right.l1 (k + 1) l m (i : Int) = _ := fun k => by rw [celluloidref08_Right.l1, if_neg (by omega)]
    refine isV_step (isP_iff (isP_and fun _ => isP_dec) ?_) e
    rw [List.drop_of_length_le (by omega)]
    simp
    grind
  | succ d ih =>
    intro i h
    have e : ∀ k, celluloidref08_Right.l1 (k + 1) l m (i : Int) = _ := fun k => by rw [celluloidref08_Right.l1, if_pos (lt_of h), if_pos (nn i), ans_next hm (by omega), rdL m i (by omega)]
    refine isV_step (isP_iff (isP_band (line_r _) fun _ => ih (i + 1) (by omega)) ?_) e
    rw [drop_at m i (by omega)]
    simp only [List.mem_cons, forall_eq_or_imp, and_assoc]
theorem lists_r {l : List Fil} {m : List Lin} (hl : FW l) (hm : m.length ≤ maxLen) : IsP (fun k => celluloidref08_Right.f k l m) (ListsP l m) := by
  have key : ∀ d i : Nat, d + i = l.length → IsP (fun k => celluloidref08_Right.l0 k l m (i : Int)) ((∀ q ∈ l.drop i, FillP q) ∧ (∀ s ∈ m, LineP s) ∧ l.length < 16 ∧ m.length < 16) := by
    intro d
    induction d with
    | zero =>
      intro i h
      have e : ∀ k, celluloidref08_Right.l0 (k + 1) l m (i : Int) = _ := fun k => by rw [celluloidref08_Right.l0, if_neg (by omega)]
      refine isV_step (isP_iff (lines_r hm m.length 0 (by omega)) ?_) e
      rw [List.drop_zero, List.drop_of_length_le (l := l) (by omega)]
      simp
    | succ d ih =>
      intro i h
      have e : ∀ k, celluloidref08_Right.l0 (k + 1) l m (i : Int) = _ := fun k => by rw [celluloidref08_Right.l0, if_pos (lt_of h), if_pos (nn i), ans_next hl.1 (by omega), rdF l i (by omega)]
      refine isV_step (isP_iff (isP_band (fill_r (hl.2 _ (List.getElem_mem _))) fun _ => ih (i + 1) (by omega)) ?_) e
      rw [drop_at l i (by omega)]
      simp only [List.mem_cons, forall_eq_or_imp, and_assoc]
  unfold celluloidref08_Right.f
  refine isP_iff (key l.length 0 (by omega)) ?_
  rw [List.drop_zero]
  unfold ListsP
  grind
theorem one_j2 {r : Rec} (hl : FW r.f8) (hp : r.f9.length ≤ maxLen) (x y : Int) {b7 b8 b9 b10 : Bool} (h7 : b7 = true ↔ ¬ (r.f5 = 0 ∧ r.f6 = 0 ∧ r.f7 = 0)) (h8 : b8 = true ↔ ¬ (r.f8 = [] ∧ r.f9 = [])) (h9 : b9 = true ↔ ¬ (r.f3 = 0 ∧ r.f4 = 0)) (h10 : b10 = true ↔ ¬ (r.f1 = 0 ∧ r.f2 = 0)) :
    IsP (fun k => celluloidref09_one.j2 k x y b7 b8 b9 b10 r.f0 r.f1 r.f2 r.f3 r.f4 r.f5 r.f6 r.f7 r.f8 r.f9) (SndP r x y) := by
  have e : ∀ k, celluloidref09_one.j2 (k + 1) x y b7 b8 b9 b10 r.f0 r.f1 r.f2 r.f3 r.f4 r.f5 r.f6 r.f7 r.f8 r.f9 = _ := fun k => by rw [celluloidref09_one.j2]
  have in3 : IsP (fun _ : Nat => (celluloidref09_in.f r.f5 (-1) x).bind fun t => if t = true then ((celluloidref09_in.f r.f6 (-1) x).bind fun t => if t = true then ((celluloidref09_in.f r.f7 (-1) y).bind fun t => some t) else some false) else some false) ((-1 ≤ r.f5 ∧ r.f5 ≤ x) ∧ (-1 ≤ r.f6 ∧ r.f6 ≤ x) ∧ (-1 ≤ r.f7 ∧ r.f7 ≤ y)) :=
    isP_band (in9 _ _ _) fun _ => isP_band (in9 _ _ _) fun _ => isP_bid (in9 _ _ _)
  refine isV_step (isV_ite (fun c => isP_iff (isP_not fun _ => isP_not fun _ => isP_not fun _ => isP_band (in9 _ _ _) fun _ => isP_bid (in9 _ _ _)) ?_)
    fun c1 => isV_ite (fun c => isV_ite (fun d => isP_iff (isP_not fun _ => isP_not fun _ => isP_not fun _ => in3) ?_) fun d => isV_ite (fun d' => isP_iff (isP_not fun _ => isP_not fun _ => isP_not fun _ => in3) ?_) fun d' => isP_iff (isP_not fun _ => isP_not fun _ => isP_not fun _ => isP_and fun _ => in3) ?_)
    fun c2 => isV_ite (fun c => isP_iff (isP_not fun _ => isP_not fun _ => isP_not fun _ => isP_bid (lists_r hl hp)) ?_)
    fun c3 => isV_ite (fun c => isP_iff (isP_not fun _ => isP_not fun _ => isP_not fun _ => isP_band (in9 _ _ _) fun _ => isP_bid (in9 _ _ _)) ?_)
    fun c4 => isV_ite (fun c => isP_iff (isP_not fun _ => isP_not fun _ => isP_band (in9 _ _ _) fun _ => isP_band (in9 _ _ _) fun _ => isP_band (in9 _ _ _) fun _ => isP_bid (in9 _ _ _)) ?_) fun c5 => isP_no ?_) e
  · rw [h7, h8, h9]; unfold SndP; simp [c]; grind
  · rw [h8, h9, h10]; unfold SndP; simp [c]; grind
  · rw [h8, h9, h10]; unfold SndP; simp [c]; grind
  · rw [h8, h9, h10]; unfold SndP; simp [c]; grind
  · rw [h7, h9, h10]; unfold SndP; simp [c]; grind
  · rw [h7, h8, h9]; unfold SndP; simp [c]; grind
  · rw [h7, h8]; unfold SndP; simp [c]; grind
  · unfold SndP; simp [c1, c2, c3, c4, c5]
theorem one_r {r : Rec} (hl : FW r.f8) (h1 : r.f8.length < 30) (h2 : r.f9.length < 30) (x y : Int) : IsP (fun k => celluloidref09_one.f k r.f0 r.f1 r.f2 r.f3 r.f4 r.f5 r.f6 r.f7 r.f8 r.f9 x y) (SndP r x y) := by
  have hp : r.f9.length ≤ maxLen := small_max (by omega)
  have h8 : (decide (wrap64 ((r.f8.length : Int) + (r.f9.length : Int)) > 0) = true) ↔ ¬ (r.f8 = [] ∧ r.f9 = []) := by
    rw [decide_eq_true_iff, w64_id (by omega) (by omega), ← List.length_eq_zero_iff, ← List.length_eq_zero_iff]
    omega
  have j1 : ∀ b7 b9 : Bool, (b7 = true ↔ ¬ (r.f5 = 0 ∧ r.f6 = 0 ∧ r.f7 = 0)) → (b9 = true ↔ ¬ (r.f3 = 0 ∧ r.f4 = 0)) → IsP (fun k => celluloidref09_one.j1 k x y b7 (decide (wrap64 ((r.f8.length : Int) + (r.f9.length : Int)) > 0)) b9 r.f0 r.f1 r.f2 r.f3 r.f4 r.f5 r.f6 r.f7 r.f8 r.f9) (SndP r x y) := by
    intro b7 b9 h7 h9
    have e : ∀ k, celluloidref09_one.j1 (k + 1) x y b7 (decide (wrap64 ((r.f8.length : Int) + (r.f9.length : Int)) > 0)) b9 r.f0 r.f1 r.f2 r.f3 r.f4 r.f5 r.f6 r.f7 r.f8 r.f9 = _ := fun k => by rw [celluloidref09_one.j1]
    exact isV_step (isV_ite (fun c => one_j2 hl hp x y h7 h8 h9 (by simp [c])) (fun c => one_j2 hl hp x y h7 h8 h9 (by simp [c]))) e
  have j0 : ∀ b7 : Bool, (b7 = true ↔ ¬ (r.f5 = 0 ∧ r.f6 = 0 ∧ r.f7 = 0)) → IsP (fun k => celluloidref09_one.j0 k x y b7 r.f0 r.f1 r.f2 r.f3 r.f4 r.f5 r.f6 r.f7 r.f8 r.f9) (SndP r x y) := by
    intro b7 h7
    have e : ∀ k, celluloidref09_one.j0 (k + 1) x y b7 r.f0 r.f1 r.f2 r.f3 r.f4 r.f5 r.f6 r.f7 r.f8 r.f9 = _ := fun k => by rw [celluloidref09_one.j0]
    exact isV_step (isV_ite (fun c => j1 _ _ h7 (by simp [c])) (fun c => j1 _ _ h7 (by simp [c]))) e
  unfold celluloidref09_one.f
  exact isV_ite (fun c => isV_ite (fun c' => j0 _ (by simp [c, c'])) (fun c' => j0 _ (by simp [c']))) (fun c => j0 _ (by simp [c]))
theorem records_r_l0 {l : List Rec} (hl : RW l) (hs : ∀ r ∈ l, r.f8.length < 30 ∧ r.f9.length < 30) : ∀ (d i : Nat) (x y : Int), d + i = l.length → IsP (fun k => celluloidref09_Records.l0 k x y l 0 (i : Int)) (RecP x y (l.drop i)) := by
  intro d
  induction d with
  | zero =>
    intro i x y h
    refine isV_step (g := fun _ => some true) (isP_yes (by rw [List.drop_of_length_le (by omega)]; trivial)) (fun k => ?_)
    rw [celluloidref09_Records.l0, if_neg (by omega)]
  | succ d ih =>
    intro i x y h
    have hi : i < l.length := by omega
    have hw := hl.2 _ (List.getElem_mem hi)
    have hz := hs _ (List.getElem_mem hi)
    have e : ∀ k, celluloidref09_Records.l0 (k + 1) x y l 0 (i : Int) = _ := fun k => by rw [celluloidref09_Records.l0, if_pos (lt_of h), if_pos (nn i), rdR l i hi]
    have off : ∀ {q : Prop}, ¬ q → IsP (fun k => celluloidref09_Records.j2 k x y l 0 (i : Int) true) q := fun hq => by
      have e : ∀ k, celluloidref09_Records.j2 (k + 1) x y l 0 (i : Int) true = _ := fun k => by rw [celluloidref09_Records.j2, if_pos rfl]
      exact isV_step (isP_no hq) e
    have on : ∀ b : Bool, b = false → SndP l[i] x y → IsP (fun k => celluloidref09_Records.j2 k x y l 0 (i : Int) b) (RecP x y (l.drop i)) := fun b hb hs => by
      subst hb
      have e : ∀ k, celluloidref09_Records.j2 (k + 1) x y l 0 (i : Int) false = _ := fun k => by rw [celluloidref09_Records.j2, if_neg (by simp), if_pos (nn i), if_pos (lt_of h), rdR l i hi, ans_next hl.1 hi]
      refine isV_step (isV_ite (fun c => isP_iff (ih (i + 1) _ _ (by omega)) ?_) (fun c => isP_iff (ih (i + 1) _ _ (by omega)) ?_)) e <;>
      · rw [drop_at l i hi, RecP]
        simp [c, hs]
    refine isV_step (isV_bind (one_r hw.1 hz.1 hz.2 x y) fun t ht => isV_ite (fun c => ?_) (fun c => off (fun h => c (ht.2 (by rw [drop_at l i hi] at h; exact h.1))))) e
    have hs := ht.1 c
    exact isV_ite (fun _ => isV_ite (fun c0 => absurd c0 (by omega)) (fun _ => isV_ite (fun _ => on _ (by decide) hs) (fun _ => on _ rfl hs))) (fun _ => isV_ite (fun _ => on _ (by decide) hs) (fun _ => on _ rfl hs))
theorem records_r {l : List Rec} (hl : RW l) (hs : ∀ r ∈ l, r.f8.length < 30 ∧ r.f9.length < 30) (x y : Int) : IsP (fun k => celluloidref09_Records.f k x y l 0) ((0 ≤ x ∧ x ≤ 15) ∧ (0 ≤ y ∧ y ≤ 15) ∧ l.length ≤ 512 ∧ RecP x y l) := by
  have off : ∀ {q : Prop}, ¬ q → IsP (fun k => celluloidref09_Records.j0 k x y l 0 true) q := fun hq => by
    have e : ∀ k, celluloidref09_Records.j0 (k + 1) x y l 0 true = _ := fun k => by rw [celluloidref09_Records.j0, if_pos rfl]
    exact isV_step (isP_no hq) e
  unfold celluloidref09_Records.f
  refine isV_bind (in9 x 0 15) fun t ht => isV_ite (fun c => isV_bind (in9 y 0 15) fun u hu => isV_ite (fun c' => isV_bind (in9 0 0 2) fun v hv => isV_ite (fun _ => ?_) (fun c2 => absurd (hv.2 (by omega)) c2)) (fun c' => off (fun h => c' (hu.2 h.2.1)))) (fun c => off (fun h => c (ht.2 h.1)))
  have hx := ht.1 c
  have hy := hu.1 c'
  by_cases d : (l.length : Int) > 512
  · rw [decide_eq_true d]
    exact off (fun h => by omega)
  · rw [decide_eq_false d]
    have e : ∀ k, celluloidref09_Records.j0 (k + 1) x y l 0 false = _ := fun k => by rw [celluloidref09_Records.j0, if_neg (by simp)]
    refine isV_step (isP_iff (records_r_l0 hl hs l.length 0 x y (by omega)) ?_) e
    rw [List.drop_zero]
    grind
theorem shape_r {l : List Fil} {m : List Lin} {n : List Rec} (hl : FW l) (hm : m.length ≤ maxLen) (hn : RW n) (hs : ∀ r ∈ n, r.f8.length < 30 ∧ r.f9.length < 30) (a b c d e : Int) : IsP (fun k => celluloidref09_Right.f k a b c d e l m n) (ShapeP a b c d e l m n) := by
  unfold celluloidref09_Right.f
  refine isP_iff (isP_band (in9 _ _ _) fun _ => isP_band (rect_r _ _ _ _) fun _ => isP_band (lists_r hl hm) fun _ => isP_bid (records_r hn hs _ _)) ?_
  unfold ShapeP ListsP
  grind
end Go.Proofs.Ytlldbmodidhidaa.P
namespace Go.Proofs.Ytlldbmodidhidaa.P
open Go.RowKit Go.Proofs.YtlldbmodidhidaaW.PrintWords Go.Proofs.YtlldbmodidhidaaW.PrintLast Go.Proofs.YtlldbmodidhidaaW.PrintMore
abbrev Edg := S51
/-- Where a pen is, its styles, and how many there were ahead. -/
structure Pen where
  x : Int
  y : Int
  l : Int
  r : Int
  n : Int
  fa : Int
  sa : Int
def sty (old n ahead : Int) : Int := if n < 0 then old else if n = 0 then 0 else wrap64 (ahead + n)
theorem style_eq (a n h : Int) : edge_style.f a n h = some (sty a n h) := by
  unfold edge_style.f sty
  by_cases c : n < 0
  · rw [if_pos c, if_pos c]
  · rw [if_neg c, if_neg c]
    by_cases d : n = 0
    · rw [if_pos d, if_pos d]
    · rw [if_neg d, if_neg d]
theorem plus_eq (a b c d : Int) : edge_plus.f a b c d = some (wrap64 (a + c), wrap64 (b + d)) := rfl
def pen (p : Pen) (q : Rec) (nf ns : Int) : Pen :=
  if q.f0 = 1 then ⟨q.f1, q.f2, p.l, p.r, p.n, p.fa, p.sa⟩ else if q.f0 = 2 then ⟨p.x, p.y, sty p.l q.f5 p.fa, sty p.r q.f6 p.fa, sty p.n q.f7 p.sa, p.fa, p.sa⟩
  else if q.f0 = 3 then ⟨p.x, p.y, 0, 0, 0, nf, ns⟩ else if q.f0 = 4 then ⟨wrap64 (p.x + q.f1), wrap64 (p.y + q.f2), p.l, p.r, p.n, p.fa, p.sa⟩
  else ⟨wrap64 (wrap64 (p.x + q.f3) + q.f1), wrap64 (wrap64 (p.y + q.f4) + q.f2), p.l, p.r, p.n, p.fa, p.sa⟩
def edg (p : Pen) (q : Rec) : List Edg :=
  if q.f0 = 4 then [⟨⟨p.x, p.y⟩, ⟨0, 0⟩, ⟨wrap64 (p.x + q.f1), wrap64 (p.y + q.f2)⟩, false, p.l, p.r, p.n⟩]
  else if q.f0 = 5 then [⟨⟨p.x, p.y⟩, ⟨wrap64 (p.x + q.f3), wrap64 (p.y + q.f4)⟩, ⟨wrap64 (wrap64 (p.x + q.f3) + q.f1), wrap64 (wrap64 (p.y + q.f4) + q.f2)⟩, true, p.l, p.r, p.n⟩] else []
def adF (q : Rec) : List Fil := if q.f0 = 3 then q.f8 else []
def adS (q : Rec) : List Lin := if q.f0 = 3 then q.f9 else []
def allE : Pen → List Fil → List Lin → List Rec → List Edg
  | _, _, _, [] => []
  | p, F, S, q :: t => edg p q ++ allE (pen p q (F.length : Int) (S.length : Int)) (F ++ adF q) (S ++ adS q) t
def allF : List Fil → List Rec → List Fil
  | F, [] => F
  | F, q :: t => allF (F ++ adF q) t
def allS' : List Lin → List Rec → List Lin
  | S, [] => S
  | S, q :: t => allS' (S ++ adS q) t
theorem adF_no {q : Rec} (h : q.f0 ≠ 3) : adF q = [] := by unfold adF; rw [if_neg h]
theorem adS_no {q : Rec} (h : q.f0 ≠ 3) : adS q = [] := by unfold adS; rw [if_neg h]
theorem edg_no {q : Rec} (p : Pen) (h : q.f0 ≠ 4) (g : q.f0 ≠ 5) : edg p q = [] := by unfold edg; rw [if_neg h, if_neg g]
theorem edg_len (p : Pen) (q : Rec) : (edg p q).length ≤ 1 := by
  unfold edg
  by_cases c : q.f0 = 4
  · rw [if_pos c]; exact Nat.le_refl _
  · rw [if_neg c]
    by_cases d : q.f0 = 5
    · rw [if_pos d]; exact Nat.le_refl _
    · rw [if_neg d]; exact Nat.zero_le _
theorem allE_len : ∀ (t : List Rec) (p : Pen) (F : List Fil) (S : List Lin), (allE p F S t).length ≤ t.length
  | [], _, _, _ => Nat.le_refl _
  | q :: t, p, F, S => by
    rw [allE, List.length_append, List.length_cons]
    have := edg_len p q
    have := allE_len t (pen p q (F.length : Int) (S.length : Int)) (F ++ adF q) (S ++ adS q)
    omega
theorem of_l0 {l : List Rec} (hl : l.length ≤ 600) (hs : ∀ r ∈ l, r.f8.length < 30 ∧ r.f9.length < 30) : ∀ (d i : Nat) (x y : Int) (F : List Fil) (S : List Lin) (E : List Edg) (p : Pen), d + i = l.length → GoodR x y (l.drop i) →
    F.length ≤ 30 * (i + 1) → S.length ≤ 30 * (i + 1) → E.length ≤ i → ∀ k, edge_Of.l0 (k + d + 1) l (l.length : Int) (i : Int) F S E p.x p.y p.l p.r p.n p.fa p.sa = some (allF F (l.drop i), allS' S (l.drop i), E ++ allE p F S (l.drop i), 0) := by
  intro d
  induction d with
  | zero =>
    intro i x y F S E p h _ _ _ _ k
    rw [edge_Of.l0, if_neg (by omega), List.drop_of_length_le (by omega), allF, allS', allE, List.append_nil]
  | succ d ih =>
    intro i x y F S E p h hg hF hS hE k
    have hi : i < l.length := by omega
    have hsz := hs _ (List.getElem_mem hi)
    rw [drop_rec l i hi] at hg ⊢
    obtain ⟨hsnd, hg⟩ := hg
    have hEl : E.length < 1759218604441 := by omega
    rw [show k + (d + 1) + 1 = (k + d + 1) + 1 by omega, edge_Of.l0, if_pos (lt_of h), if_pos (nn i), if_pos (lt_of h), rdR l i hi, ans_next (n := 1000) (small_max (by omega)) (by omega), allF, allS', allE]
    generalize hq : l[i] = q at *
    rcases hsnd with c | ⟨c, _⟩ | c | ⟨c, _⟩ | c
    · have e : pen p q (F.length : Int) (S.length : Int) = ⟨q.f1, q.f2, p.l, p.r, p.n, p.fa, p.sa⟩ := by unfold pen; rw [if_pos c]
      rw [if_pos c, edg_no p (by omega) (by omega), adF_no (by omega), adS_no (by omega), List.append_nil, List.append_nil, List.nil_append, e]
      exact ih (i + 1) _ _ F S E ⟨q.f1, q.f2, p.l, p.r, p.n, p.fa, p.sa⟩ (by omega) hg (by omega) (by omega) (by omega) k
    · have e : pen p q (F.length : Int) (S.length : Int) = ⟨p.x, p.y, sty p.l q.f5 p.fa, sty p.r q.f6 p.fa, sty p.n q.f7 p.sa, p.fa, p.sa⟩ := by unfold pen; rw [if_neg (by omega), if_pos c]
      rw [if_neg (by omega), if_pos c, style_eq, Option.bind_some, style_eq, Option.bind_some, style_eq, Option.bind_some, edg_no p (by omega) (by omega), adF_no (by omega), adS_no (by omega), List.append_nil, List.append_nil, List.nil_append, e]
      exact ih (i + 1) _ _ F S E ⟨p.x, p.y, sty p.l q.f5 p.fa, sty p.r q.f6 p.fa, sty p.n q.f7 p.sa, p.fa, p.sa⟩ (by omega) hg (by omega) (by omega) (by omega) k
    · have e : pen p q (F.length : Int) (S.length : Int) = ⟨p.x, p.y, 0, 0, 0, (F.length : Int), (S.length : Int)⟩ := by unfold pen; rw [if_neg (by omega), if_neg (by omega), if_pos c]
      have eF : adF q = q.f8 := by unfold adF; rw [if_pos c]
      have eS : adS q = q.f9 := by unfold adS; rw [if_pos c]
      rw [if_neg (by omega), if_neg (by omega), if_pos c, if_pos (by omega), if_pos (by omega), edg_no p (by omega) (by omega), List.nil_append, e, eF, eS]
      exact ih (i + 1) _ _ (F ++ q.f8) (S ++ q.f9) E ⟨p.x, p.y, 0, 0, 0, (F.length : Int), (S.length : Int)⟩ (by omega) hg (by rw [List.length_append]; omega) (by rw [List.length_append]; omega) (by omega) k
    · have e : pen p q (F.length : Int) (S.length : Int) = ⟨wrap64 (p.x + q.f1), wrap64 (p.y + q.f2), p.l, p.r, p.n, p.fa, p.sa⟩ := by unfold pen; rw [if_neg (by omega), if_neg (by omega), if_neg (by omega), if_pos c]
      have eE : edg p q = [⟨⟨p.x, p.y⟩, ⟨0, 0⟩, ⟨wrap64 (p.x + q.f1), wrap64 (p.y + q.f2)⟩, false, p.l, p.r, p.n⟩] := by unfold edg; rw [if_pos c]
      rw [if_neg (by omega), if_neg (by omega), if_neg (by omega), if_pos c, plus_eq, Option.bind_some, if_pos hEl, adF_no (by omega), adS_no (by omega), List.append_nil, List.append_nil, e, eE, ← List.append_assoc]
      exact ih (i + 1) _ _ F S (E ++ [⟨⟨p.x, p.y⟩, ⟨0, 0⟩, ⟨wrap64 (p.x + q.f1), wrap64 (p.y + q.f2)⟩, false, p.l, p.r, p.n⟩]) ⟨wrap64 (p.x + q.f1), wrap64 (p.y + q.f2), p.l, p.r, p.n, p.fa, p.sa⟩ (by omega) hg (by omega) (by omega) (by rw [List.length_append]; exact Nat.succ_le_succ hE) k
    · have e : pen p q (F.length : Int) (S.length : Int) = ⟨wrap64 (wrap64 (p.x + q.f3) + q.f1), wrap64 (wrap64 (p.y + q.f4) + q.f2), p.l, p.r, p.n, p.fa, p.sa⟩ := by unfold pen; rw [if_neg (by omega), if_neg (by omega), if_neg (by omega), if_neg (by omega)]
      have eE : edg p q = [⟨⟨p.x, p.y⟩, ⟨wrap64 (p.x + q.f3), wrap64 (p.y + q.f4)⟩, ⟨wrap64 (wrap64 (p.x + q.f3) + q.f1), wrap64 (wrap64 (p.y + q.f4) + q.f2)⟩, true, p.l, p.r, p.n⟩] := by unfold edg; rw [if_neg (by omega), if_pos c]
      rw [if_neg (by omega), if_neg (by omega), if_neg (by omega), if_neg (by omega), if_pos c, plus_eq, Option.bind_some, plus_eq, Option.bind_some, if_pos hEl, adF_no (by omega), adS_no (by omega), List.append_nil, List.append_nil, e, eE, ← List.append_assoc]
      exact ih (i + 1) _ _ F S (E ++ [⟨⟨p.x, p.y⟩, ⟨wrap64 (p.x + q.f3), wrap64 (p.y + q.f4)⟩, ⟨wrap64 (wrap64 (p.x + q.f3) + q.f1), wrap64 (wrap64 (p.y + q.f4) + q.f2)⟩, true, p.l, p.r, p.n⟩]) ⟨wrap64 (wrap64 (p.x + q.f3) + q.f1), wrap64 (wrap64 (p.y + q.f4) + q.f2), p.l, p.r, p.n, p.fa, p.sa⟩ (by omega) hg (by omega) (by omega) (by rw [List.length_append]; exact Nat.succ_le_succ hE) k
end Go.Proofs.Ytlldbmodidhidaa.P
namespace Go.Proofs.Ytlldbmodidhidaa.P
open Go.RowKit Go.Proofs.YtlldbmodidhidaaW.PrintWords Go.Proofs.YtlldbmodidhidaaW.PrintLast Go.Proofs.YtlldbmodidhidaaW.PrintMore
theorem snd_of {r : Rec} {x y : Int} (h : SndP r x y) : Snd r x y := by
  unfold SndP at h
  unfold Snd
  grind
theorem good_of : ∀ (t : List Rec) (x y : Int), RecP x y t → GoodR x y t
  | [], _, _, _ => trivial
  | _ :: t, _, _, h => ⟨snd_of h.1, good_of t _ _ h.2⟩
/-- What a record's kind may be, and what it brings. -/
def KindP (r : Rec) : Prop := (r.f0 = 1 ∨ r.f0 = 2 ∨ r.f0 = 3 ∨ (r.f0 = 4 ∧ r.f3 = 0 ∧ r.f4 = 0) ∨ r.f0 = 5) ∧ (r.f0 ≠ 3 → r.f8 = [] ∧ r.f9 = [])
theorem kinds_of : ∀ (t : List Rec) (x y : Int), RecP x y t → ∀ r ∈ t, KindP r
  | [], _, _, _, _, h => by cases h
  | q :: t, x, y, h, r, hr => by
    rcases List.mem_cons.1 hr with rfl | hr
    · have := h.1
      unfold SndP at this
      unfold KindP
      grind
    · exact kinds_of t _ _ h.2 r hr
/-- A pen, and all styles that there are, behind so many records. -/
structure St where
  p : Pen
  F : List Fil
  S : List Lin
def stp (s : St) (q : Rec) : St := ⟨pen s.p q (s.F.length : Int) (s.S.length : Int), s.F ++ adF q, s.S ++ adS q⟩
def stA (s : St) (l : List Rec) (i : Nat) : St := (l.take i).foldl stp s
theorem stA_zero (s : St) (l : List Rec) : stA s l 0 = s := by unfold stA; rw [List.take_zero]; rfl
theorem stA_succ (s : St) (l : List Rec) (i : Nat) (h : i < l.length) : stA s l (i + 1) = stp (stA s l i) l[i] := by
  unfold stA
  rw [← List.take_append_getElem h, List.foldl_append]
  rfl
theorem pen_x {p : Pen} {q : Rec} (h : KindP q) (a b : Int) : (pen p q a b).x = (if q.f0 = 1 then q.f1 else if q.f0 > 3 then wrap64 (wrap64 (p.x + q.f3) + q.f1) else p.x) := by
  unfold pen
  rcases h.1 with c | c | c | ⟨c, z3, _⟩ | c <;> simp [c]
  rw [z3]
  unfold wrap64
  omega
theorem pen_y {p : Pen} {q : Rec} (h : KindP q) (a b : Int) : (pen p q a b).y = (if q.f0 = 1 then q.f2 else if q.f0 > 3 then wrap64 (wrap64 (p.y + q.f4) + q.f2) else p.y) := by
  unfold pen
  rcases h.1 with c | c | c | ⟨c, _, z4⟩ | c <;> simp [c]
  rw [z4]
  unfold wrap64
  omega
theorem at_l0 {l : List Rec} (hl : l.length ≤ maxLen) (hk : ∀ r ∈ l, KindP r) (s : St) {n : Nat} (hn : n ≤ l.length) : ∀ d i : Nat, d + i = n →
    IsV (fun k => celluloidref15_at.l0 k l (n : Int) (i : Int) (stA s l i).p.x (stA s l i).p.y) (fun r => r = ((stA s l n).p.x, (stA s l n).p.y)) := by
  intro d
  induction d with
  | zero =>
    intro i h
    obtain rfl : i = n := by omega
    refine isV_step (g := fun _ => some ((stA s l i).p.x, (stA s l i).p.y)) (isV_some rfl) (fun k => ?_)
    rw [celluloidref15_at.l0, if_neg (by omega)]
  | succ d ih =>
    intro i h
    have hi : i < l.length := by omega
    have hq := hk _ (List.getElem_mem hi)
    have key := ih (i + 1) (by omega)
    rw [stA_succ s l i hi] at key
    unfold stp at key
    dsimp only at key
    rw [pen_x hq, pen_y hq] at key
    have e : ∀ k, celluloidref15_at.l0 (k + 1) l (n : Int) (i : Int) (stA s l i).p.x (stA s l i).p.y = _ := fun k => by rw [celluloidref15_at.l0, if_pos (lt_of h), if_pos (nn i), if_pos (show (i : Int) < (l.length : Int) by omega), ans_next hl (by omega), rdR l i hi]
    refine isV_step (isV_ite (fun c => isV_ite (fun c' => absurd c' (by omega)) (fun _ => ?_)) (fun c => isV_ite (fun c' => ?_) (fun c' => ?_))) e
    · rw [if_pos c, if_pos c] at key; exact key
    · rw [if_neg c, if_pos c', if_neg c, if_pos c'] at key; exact key
    · rw [if_neg c, if_neg c', if_neg c, if_neg c'] at key; exact key
def s0 (F : List Fil) (S : List Lin) : St := ⟨⟨0, 0, 0, 0, 0, 0, 0⟩, F, S⟩
theorem at_is {l : List Rec} (hl : l.length ≤ maxLen) (hk : ∀ r ∈ l, KindP r) (F : List Fil) (S : List Lin) {n : Nat} (hn : n ≤ l.length) :
    IsV (fun k => celluloidref15_at.f k l (n : Int)) (fun r => r = ((stA (s0 F S) l n).p.x, (stA (s0 F S) l n).p.y)) := by
  have := at_l0 hl hk (s0 F S) hn n 0 (by omega)
  rw [stA_zero] at this
  exact this
theorem number_eq (a n h : Int) : celluloidref15_number.f a n h = some (sty a n h) := by
  unfold celluloidref15_number.f sty
  by_cases c : n < 0
  · rw [if_pos c, if_pos c]
  · rw [if_neg c, if_neg c]
    by_cases d : n = 0
    · rw [if_neg (by omega), if_pos d, d]
    · rw [if_pos (by omega), if_neg d, Int.add_comm]
theorem stA_len {l : List Rec} (hs : ∀ r ∈ l, r.f8.length < 30 ∧ r.f9.length < 30) {F : List Fil} {S : List Lin} (h1 : F.length < 30) (h2 : S.length < 30) : ∀ i : Nat, i ≤ l.length → (stA (s0 F S) l i).F.length ≤ 30 * (i + 1) ∧ (stA (s0 F S) l i).S.length ≤ 30 * (i + 1) := by
  intro i
  induction i with
  | zero => intro _; rw [stA_zero]; exact ⟨by show F.length ≤ _; omega, by show S.length ≤ _; omega⟩
  | succ i ih =>
    intro hi
    have hq := hs _ (List.getElem_mem (show i < l.length by omega))
    have := ih (by omega)
    rw [stA_succ _ l i (by omega)]
    unfold stp adF adS
    dsimp only
    rw [List.length_append, List.length_append]
    by_cases c : l[i].f0 = 3
    · rw [if_pos c, if_pos c]; omega
    · rw [if_neg c, if_neg c]; simp; omega
theorem styles_l0 {l : List Rec} (hl : l.length ≤ 600) (hk : ∀ r ∈ l, KindP r) (hs : ∀ r ∈ l, r.f8.length < 30 ∧ r.f9.length < 30) {F : List Fil} {S : List Lin} (h1 : F.length < 30) (h2 : S.length < 30) (a b c d e : Int) (A : List Fil) (B : List Lin) {n : Nat} (hn : n ≤ l.length) :
    ∀ m i : Nat, m + i = n → IsV (fun k => celluloidref15_styles.l0 k (n : Int) (stA (s0 F S) l i).p.fa (stA (s0 F S) l i).p.sa ((stA (s0 F S) l i).F.length : Int) ((stA (s0 F S) l i).S.length : Int) (stA (s0 F S) l i).p.l (stA (s0 F S) l i).p.r (stA (s0 F S) l i).p.n (i : Int) a b c d e A B l)
      (fun r => r = ((stA (s0 F S) l n).p.l, (stA (s0 F S) l n).p.r, (stA (s0 F S) l n).p.n)) := by
  intro m
  induction m with
  | zero =>
    intro i h
    obtain rfl : i = n := by omega
    refine isV_step (g := fun _ => some ((stA (s0 F S) l i).p.l, (stA (s0 F S) l i).p.r, (stA (s0 F S) l i).p.n)) (isV_some rfl) (fun k => ?_)
    rw [celluloidref15_styles.l0, if_neg (by omega)]
  | succ m ih =>
    intro i h
    have hi : i < l.length := by omega
    have hq := hk _ (List.getElem_mem hi)
    have hz := hs _ (List.getElem_mem hi)
    obtain ⟨b1, b2⟩ := stA_len hs h1 h2 i (by omega)
    have key := ih (i + 1) (by omega)
    rw [stA_succ _ l i hi] at key
    generalize hS : stA (s0 F S) l i = s at *
    unfold stp at key
    dsimp only at key
    have hw : Aside0 (wrap64 ((i : Int) + 1) = ((i + 1 : Nat) : Int)) := ⟨ans_next (n := 1000) (small_max (by omega)) (by omega)⟩
    have e : ∀ k, celluloidref15_styles.l0 (k + 1) (n : Int) s.p.fa s.p.sa (s.F.length : Int) (s.S.length : Int) s.p.l s.p.r s.p.n (i : Int) a b c d e A B l = _ := fun k => by rw [celluloidref15_styles.l0, if_pos (lt_of h), if_pos (nn i), if_pos (show (i : Int) < (l.length : Int) by omega), rdR l i hi]
    generalize hq' : l[i] = q at *
    refine isV_step (isV_ite (fun c => ?_) (fun c => ?_)) e
    · have ep : pen s.p q (s.F.length : Int) (s.S.length : Int) = ⟨s.p.x, s.p.y, 0, 0, 0, (s.F.length : Int), (s.S.length : Int)⟩ := by unfold pen; rw [if_neg (by omega), if_neg (by omega), if_pos c]
      have eF : adF q = q.f8 := by unfold adF; rw [if_pos c]
      have eS : adS q = q.f9 := by unfold adS; rw [if_pos c]
      rw [ep, eF, eS, List.length_append, List.length_append] at key
      have w1 : Aside0 (wrap64 ((s.F.length : Int) + (q.f8.length : Int)) = ((s.F.length + q.f8.length : Nat) : Int)) := ⟨by rw [w64_id (by omega) (by omega)]; omega⟩
      have w2 : Aside0 (wrap64 ((s.S.length : Int) + (q.f9.length : Int)) = ((s.S.length + q.f9.length : Nat) : Int)) := ⟨by rw [w64_id (by omega) (by omega)]; omega⟩
      rw [w1.out, w2.out]
      refine isV_step key (fun k => ?_)
      rw [celluloidref15_styles.j1, if_neg (by omega), hw.out]
    · have eF : adF q = [] := adF_no c
      have eS : adS q = [] := adS_no c
      rw [eF, eS, List.append_nil, List.append_nil] at key
      by_cases c2 : q.f0 = 2
      · have ep : pen s.p q (s.F.length : Int) (s.S.length : Int) = ⟨s.p.x, s.p.y, sty s.p.l q.f5 s.p.fa, sty s.p.r q.f6 s.p.fa, sty s.p.n q.f7 s.p.sa, s.p.fa, s.p.sa⟩ := by unfold pen; rw [if_neg (by omega), if_pos c2]
        rw [ep] at key
        refine isV_step key (fun k => ?_)
        rw [celluloidref15_styles.j1, if_pos c2, number_eq, Option.bind_some, number_eq, Option.bind_some, number_eq, Option.bind_some, hw.out]
      · have ep : ∃ x y, pen s.p q (s.F.length : Int) (s.S.length : Int) = ⟨x, y, s.p.l, s.p.r, s.p.n, s.p.fa, s.p.sa⟩ := by
          unfold pen
          rw [if_neg c2, if_neg c]
          split
          · exact ⟨_, _, rfl⟩
          · split <;> exact ⟨_, _, rfl⟩
        obtain ⟨x, y, ep⟩ := ep
        rw [ep] at key
        refine isV_step key (fun k => ?_)
        rw [celluloidref15_styles.j1, if_neg c2, hw.out]
theorem styles_is {l : List Rec} (hl : l.length ≤ 600) (hk : ∀ r ∈ l, KindP r) (hs : ∀ r ∈ l, r.f8.length < 30 ∧ r.f9.length < 30) {F : List Fil} {S : List Lin} (h1 : F.length < 30) (h2 : S.length < 30) (a b c d e : Int) {n : Nat} (hn : n ≤ l.length) :
    IsV (fun k => celluloidref15_styles.f k a b c d e F S l (n : Int)) (fun r => r = ((stA (s0 F S) l n).p.l, (stA (s0 F S) l n).p.r, (stA (s0 F S) l n).p.n)) := by
  have := styles_l0 hl hk hs h1 h2 a b c d e F S hn n 0 (by omega)
  rw [stA_zero] at this
  exact this
abbrev Edr := S74
def e74 (e : Edg) : Edr := ⟨e.f0, e.f1, e.f2, e.f3, e.f4, e.f5, e.f6⟩
theorem of_r_l0 {l : List Rec} (hl : l.length ≤ 600) (hk : ∀ r ∈ l, KindP r) (hs : ∀ r ∈ l, r.f8.length < 30 ∧ r.f9.length < 30) {F : List Fil} {S : List Lin} (h1 : F.length < 30) (h2 : S.length < 30) (a b c d e : Int) :
    ∀ m i : Nat, m + i = l.length → ∀ E : List Edr, E.length ≤ i → IsV (fun k => celluloidref15_Of.l0 k (i : Int) a b c d e F S l (stA (s0 F S) l i).F (stA (s0 F S) l i).S E)
      (fun r => r = (allF (stA (s0 F S) l i).F (l.drop i), allS' (stA (s0 F S) l i).S (l.drop i), E ++ (allE (stA (s0 F S) l i).p (stA (s0 F S) l i).F (stA (s0 F S) l i).S (l.drop i)).map e74)) := by
  have hlm : l.length ≤ maxLen := small_max (by omega)
  intro m
  induction m with
  | zero =>
    intro i h E hE
    have e : ∀ k, celluloidref15_Of.l0 (k + 1) (i : Int) a b c d e F S l (stA (s0 F S) l i).F (stA (s0 F S) l i).S E = _ := fun k => by rw [celluloidref15_Of.l0, if_neg (by omega)]
    refine isV_step (isV_some ?_) e
    rw [List.drop_of_length_le (by omega), allF, allS', allE, List.map_nil, List.append_nil]
  | succ m ih =>
    intro i h E hE
    have hi : i < l.length := by omega
    have hq := hk _ (List.getElem_mem hi)
    have hz := hs _ (List.getElem_mem hi)
    obtain ⟨b1, b2⟩ := stA_len hs h1 h2 i (by omega)
    have a1 := at_is hlm hk F S (show i ≤ l.length by omega)
    have a2 := at_is hlm hk F S (show i + 1 ≤ l.length by omega)
    have a3 := styles_is hl hk hs h1 h2 a b c d e (show i ≤ l.length by omega)
    have key := ih (i + 1) (by omega)
    rw [stA_succ _ l i hi] at key a2
    rw [drop_at l i hi]
    have hw : Aside0 (wrap64 ((i : Int) + 1) = ((i + 1 : Nat) : Int)) := ⟨ans_next (n := 1000) (small_max (by omega)) (by omega)⟩
    have e : ∀ k, celluloidref15_Of.l0 (k + 1) (i : Int) a b c d e F S l (stA (s0 F S) l i).F (stA (s0 F S) l i).S E = _ := fun k => by rw [celluloidref15_Of.l0, if_pos (lt_of h), if_pos (nn i), rdR l i hi, if_pos (by omega), Option.bind_some, if_pos (by omega), Option.bind_some, hw.out]
    generalize hS : stA (s0 F S) l i = s at *
    generalize hq' : l[i] = q at *
    have eF : s.F ++ q.f8 = s.F ++ adF q := by
      unfold adF
      by_cases c3 : q.f0 = 3
      · rw [if_pos c3]
      · rw [if_neg c3, (hq.2 c3).1]
    have eS : s.S ++ q.f9 = s.S ++ adS q := by
      unfold adS
      by_cases c3 : q.f0 = 3
      · rw [if_pos c3]
      · rw [if_neg c3, (hq.2 c3).2]
    rw [eF, eS] at e
    unfold stp at key a2
    dsimp only at key a2
    rw [allF, allS', allE, List.map_append, ← List.append_assoc]
    have hEl : E.length < 1759218604441 := by omega
    refine isV_step (isV_ite (fun c4 => ?_) (fun c4 => isV_bind a1 ?_)) e
    · rw [edg_no s.p (by omega) (by omega), List.map_nil, List.append_nil]
      exact key E (by omega)
    · rintro _ rfl
      refine isV_bind a2 ?_
      rintro _ rfl
      refine isV_bind a3 ?_
      rintro _ rfl
      refine isV_ite (fun c5 => isV_ite (fun _ => ?_) (fun c6 => absurd hEl c6)) (fun c5 => isV_ite (fun _ => ?_) (fun c6 => absurd hEl c6))
      · have ep : pen s.p q (s.F.length : Int) (s.S.length : Int) = ⟨wrap64 (wrap64 (s.p.x + q.f3) + q.f1), wrap64 (wrap64 (s.p.y + q.f4) + q.f2), s.p.l, s.p.r, s.p.n, s.p.fa, s.p.sa⟩ := by unfold pen; rw [if_neg (by omega), if_neg (by omega), if_neg (by omega), if_neg (by omega)]
        have eE : edg s.p q = [⟨⟨s.p.x, s.p.y⟩, ⟨wrap64 (s.p.x + q.f3), wrap64 (s.p.y + q.f4)⟩, ⟨wrap64 (wrap64 (s.p.x + q.f3) + q.f1), wrap64 (wrap64 (s.p.y + q.f4) + q.f2)⟩, true, s.p.l, s.p.r, s.p.n⟩] := by unfold edg; rw [if_neg (by omega), if_pos c5]
        have k1 := key (E ++ (edg s.p q).map e74) (by rw [List.length_append, List.length_map]; have := edg_len s.p q; omega)
        have e5 : (q.f0 == 5) = true := beq_iff_eq.mpr c5
        rw [ep, eE] at k1 ⊢
        dsimp only
        rw [e5]
        exact k1
      · have c4' : q.f0 = 4 := by rcases hq.1 with z | z | z | z | z <;> omega
        have ep : pen s.p q (s.F.length : Int) (s.S.length : Int) = ⟨wrap64 (s.p.x + q.f1), wrap64 (s.p.y + q.f2), s.p.l, s.p.r, s.p.n, s.p.fa, s.p.sa⟩ := by unfold pen; rw [if_neg (by omega), if_neg (by omega), if_neg (by omega), if_pos c4']
        have eE : edg s.p q = [⟨⟨s.p.x, s.p.y⟩, ⟨0, 0⟩, ⟨wrap64 (s.p.x + q.f1), wrap64 (s.p.y + q.f2)⟩, false, s.p.l, s.p.r, s.p.n⟩] := by unfold edg; rw [if_pos c4']
        have k1 := key (E ++ (edg s.p q).map e74) (by rw [List.length_append, List.length_map]; have := edg_len s.p q; omega)
        have e5 : (q.f0 == 5) = false := beq_eq_false_iff_ne.mpr c5
        rw [ep, eE] at k1 ⊢
        dsimp only
        rw [e5]
        exact k1
theorem of_r {l : List Rec} (hl : l.length ≤ 600) (hk : ∀ r ∈ l, KindP r) (hs : ∀ r ∈ l, r.f8.length < 30 ∧ r.f9.length < 30) {F : List Fil} {S : List Lin} (h1 : F.length < 30) (h2 : S.length < 30) (a b c d e : Int) :
    IsV (fun k => celluloidref15_Of.f k a b c d e F S l) (fun r => r = (allF F l, allS' S l, (allE ⟨0, 0, 0, 0, 0, 0, 0⟩ F S l).map e74)) := by
  have := of_r_l0 hl hk hs h1 h2 a b c d e l.length 0 (by omega) [] (Nat.le_refl _)
  rw [stA_zero, List.drop_zero, List.nil_append] at this
  unfold celluloidref15_Of.f
  exact isV_ite (fun _ => isV_ite (fun _ => this) (fun q => absurd (show ([] : List Lin).length + S.length < 3518437208883 by simp; omega) q)) (fun q => absurd (show ([] : List Fil).length + F.length < 1099511627776 by simp; omega) q)
theorem same8_l0 {l : List Stp} (hl : l.length ≤ maxLen) (a0 a1 a2 a3 a4 a5 a6 a7 a8 a9 a10 a11 a13 : Int) : ∀ d i : Nat, d + i = l.length → IsP (fun k => celluloidref08_Same.l0 k (i : Int) a0 a1 a2 a3 a4 a5 a6 a7 a8 a9 a10 a11 l a13 a0 a1 a2 a3 a4 a5 a6 a7 a8 a9 a10 a11 l a13) True := by
  intro d
  induction d with
  | zero =>
    intro i h
    refine isV_step (g := fun _ => some true) (isP_yes trivial) (fun k => ?_)
    rw [celluloidref08_Same.l0, if_neg (by omega)]
  | succ d ih =>
    intro i h
    refine isV_step (ih (i + 1) (by omega)) (fun k => ?_)
    rw [celluloidref08_Same.l0, if_pos (lt_of h), if_pos (nn i), if_pos (lt_of h), if_neg (by simp), ans_next hl (by omega)]
theorem same8 {l : List Stp} (hl : l.length ≤ maxLen) (a0 a1 a2 a3 a4 a5 a6 a7 a8 a9 a10 a11 a13 : Int) : IsP (fun k => celluloidref08_Same.f k a0 a1 a2 a3 a4 a5 a6 a7 a8 a9 a10 a11 l a13 a0 a1 a2 a3 a4 a5 a6 a7 a8 a9 a10 a11 l a13) True := by
  unfold celluloidref08_Same.f
  refine isV_ite (fun _ => isV_ite (fun c => absurd c (by simp)) (fun _ => isV_ite (fun c => absurd c (by simp)) (fun _ => isV_ite (fun _ => isV_ite (fun _ => ?_) (fun c => absurd rfl c)) (fun c => absurd rfl c)))) (fun c => absurd rfl c)
  refine isV_step (same8_l0 hl a0 a1 a2 a3 a4 a5 a6 a7 a8 a9 a10 a11 a13 l.length 0 (by omega)) (fun k => ?_)
  rw [celluloidref08_Same.j0, if_neg (by simp)]
  rfl
theorem lists_l1 {l : List Lin} (hl : l.length ≤ maxLen) : ∀ d i : Nat, d + i = l.length → IsP (fun k => celluloidref08_SameLists.l1 k l l (i : Int)) True := by
  intro d
  induction d with
  | zero =>
    intro i h
    refine isV_step (g := fun _ => some true) (isP_yes trivial) (fun k => ?_)
    rw [celluloidref08_SameLists.l1, if_neg (by omega)]
  | succ d ih =>
    intro i h
    refine isV_step (ih (i + 1) (by omega)) (fun k => ?_)
    rw [celluloidref08_SameLists.l1, if_pos (lt_of h), if_pos (nn i), if_pos (lt_of h), if_neg (by simp), ans_next hl (by omega)]
theorem lists_l0 {l : List Fil} {m : List Lin} (hl : FW l) (hm : m.length ≤ maxLen) : ∀ d i : Nat, d + i = l.length → IsP (fun k => celluloidref08_SameLists.l0 k l l m m (i : Int)) True := by
  intro d
  induction d with
  | zero =>
    intro i h
    refine isV_step (lists_l1 hm m.length 0 (by omega)) (fun k => ?_)
    rw [celluloidref08_SameLists.l0, if_neg (by omega)]
    rfl
  | succ d ih =>
    intro i h
    have e : ∀ k, celluloidref08_SameLists.l0 (k + 1) l l m m (i : Int) = _ := fun k => by rw [celluloidref08_SameLists.l0, if_pos (lt_of h), if_pos (nn i), if_pos (lt_of h), ans_next hl.1 (by omega)]
    exact isV_step (isP_iff (isP_band (same8 (hl.at_ (i := i) (by omega)) _ _ _ _ _ _ _ _ _ _ _ _ _) fun _ => ih (i + 1) (by omega)) (by simp)) e
theorem lists_same {l : List Fil} {m : List Lin} (hl : FW l) (hm : m.length ≤ maxLen) : IsP (fun k => celluloidref08_SameLists.f k l l m m) True := by
  unfold celluloidref08_SameLists.f
  refine isV_ite (fun _ => ?_) (fun c => absurd rfl c)
  refine isV_step (lists_l0 hl hm l.length 0 (by omega)) (fun k => ?_)
  rw [celluloidref08_SameLists.j0, if_neg (by simp)]
  rfl
theorem rd51 (l : List Edg) (i : Nat) (h : i < l.length) : rd_T51 l (i : Int) = l[i] := by
  unfold rd_T51; rw [Int.toNat_natCast]; simp [List.getD_eq_getElem?_getD, h]
theorem refs_l0 {l : List Edg} (hl : l.length ≤ 600) : ∀ d i : Nat, d + i = l.length → ∀ E : List Edr, E.length ≤ i → IsV (fun k => celluloidlaw15_refs.l0 k E l (l.length : Int) (i : Int)) (fun r => r = E ++ (l.drop i).map e74) := by
  intro d
  induction d with
  | zero =>
    intro i h E _
    refine isV_step (g := fun _ => some E) (isV_some (by rw [List.drop_of_length_le (by omega), List.map_nil, List.append_nil])) (fun k => ?_)
    rw [celluloidlaw15_refs.l0, if_neg (by omega)]
  | succ d ih =>
    intro i h E hE
    have hi : i < l.length := by omega
    have key := ih (i + 1) (by omega) (E ++ [e74 l[i]]) (by rw [List.length_append]; exact Nat.succ_le_succ hE)
    rw [drop_at l i hi, List.map_cons]
    rw [List.append_assoc, List.singleton_append] at key
    refine isV_step key (fun k => ?_)
    rw [celluloidlaw15_refs.l0, if_pos (lt_of h), if_pos (nn i), if_pos (lt_of h), if_pos (by omega), ans_next (n := 1000) (small_max (by omega)) (by omega), rd51 l i hi]
    rfl
theorem refs_is {l : List Edg} (hl : l.length ≤ 600) : IsV (fun k => celluloidlaw15_refs.f k l) (fun r => r = l.map e74) := by
  have := refs_l0 hl l.length 0 (by omega) [] (Nat.le_refl _)
  rw [List.drop_zero, List.nil_append] at this
  exact this
theorem edges_l0 {l : List Edr} (hl : l.length ≤ maxLen) : ∀ d i : Nat, d + i = l.length → IsP (fun k => celluloidref15_Same.l0 k l l (i : Int)) True := by
  intro d
  induction d with
  | zero =>
    intro i h
    refine isV_step (g := fun _ => some true) (isP_yes trivial) (fun k => ?_)
    rw [celluloidref15_Same.l0, if_neg (by omega)]
  | succ d ih =>
    intro i h
    refine isV_step (ih (i + 1) (by omega)) (fun k => ?_)
    rw [celluloidref15_Same.l0, if_pos (lt_of h), if_pos (nn i), if_pos (lt_of h), if_neg (by simp), ans_next hl (by omega)]
theorem edges_same {l : List Edr} (hl : l.length ≤ maxLen) : IsP (fun k => celluloidref15_Same.f k l l) True := by
  unfold celluloidref15_Same.f
  exact isV_ite (fun _ => edges_l0 hl l.length 0 (by omega)) (fun c => absurd rfl c)
theorem of_p {l : List Fil} {m : List Lin} {n : List Rec} (hl : FW l) (hm : m.length ≤ maxLen) (hn : RW n) (h1 : l.length < 30 ∧ m.length < 30) (h2 : n.length ≤ 600) (h3 : ∀ r ∈ n, r.f8.length < 30 ∧ r.f9.length < 30) (a b c d e : Int) :
    IsV (fun k => edge_Of.f k a b c d e l m n) (fun r => (ShapeP a b c d e l m n ∧ r = (allF l n, allS' m n, allE ⟨0, 0, 0, 0, 0, 0, 0⟩ l m n, 0)) ∨ (¬ ShapeP a b c d e l m n ∧ r = ([], [], [], 1))) := by
  unfold edge_Of.f
  refine isV_bind (shape_p hl hm hn a b c d e) fun t ht => isV_ite (fun q => isV_ite (fun _ => isV_ite (fun _ => ?_) (fun z => absurd (show ([] : List Lin).length + m.length < 3518437208883 by simp; omega) z)) (fun z => absurd (show ([] : List Fil).length + l.length < 1099511627776 by simp; omega) z)) (fun q => isV_some (.inr ⟨fun z => q (ht.2 z), rfl⟩))
  have hp := ht.1 q
  refine ⟨n.length + 1, _, .inl ⟨hp, rfl⟩, fun k hk => ?_⟩
  have g := of_l0 h2 h3 n.length 0 _ _ l m [] ⟨0, 0, 0, 0, 0, 0, 0⟩ (by omega) (by rw [List.drop_zero]; exact good_of _ _ _ hp.2.2.2.2) (by omega) (by omega) (Nat.le_refl _) (k - n.length - 1)
  rw [List.drop_zero, List.nil_append, show k - n.length - 1 + n.length + 1 = k by omega] at g
  exact g
theorem allF_fw : ∀ (t : List Rec) (F : List Fil), RW t → (∀ y ∈ F, y.f4.length ≤ maxLen) → ∀ y ∈ allF F t, y.f4.length ≤ maxLen
  | [], _, _, h => h
  | q :: t, F, hn, h => by
    rw [allF]
    refine allF_fw t (F ++ adF q) ⟨by have := hn.1; rw [List.length_cons] at this; omega, fun r hr => hn.2 r (List.mem_cons_of_mem _ hr)⟩ (fun y hy => ?_)
    rcases List.mem_append.1 hy with hy | hy
    · exact h y hy
    · unfold adF at hy
      by_cases c : q.f0 = 3
      · rw [if_pos c] at hy; exact (hn.2 q List.mem_cons_self).1.2 y hy
      · rw [if_neg c] at hy; cases hy
theorem allF_bd : ∀ (t : List Rec) (F : List Fil), (∀ r ∈ t, r.f8.length < 30 ∧ r.f9.length < 30) → (allF F t).length ≤ F.length + 30 * t.length
  | [], F, _ => by rw [allF]; omega
  | q :: t, F, h => by
    rw [allF]
    have := allF_bd t (F ++ adF q) (fun r hr => h r (List.mem_cons_of_mem _ hr))
    have hq := (h q List.mem_cons_self).1
    rw [List.length_append] at this
    rw [List.length_cons]
    unfold adF at this ⊢
    by_cases c : q.f0 = 3
    · rw [if_pos c] at this ⊢; omega
    · rw [if_neg c] at this ⊢; simp at this ⊢; omega
theorem allS_bd : ∀ (t : List Rec) (S : List Lin), (∀ r ∈ t, r.f8.length < 30 ∧ r.f9.length < 30) → (allS' S t).length ≤ S.length + 30 * t.length
  | [], S, _ => by rw [allS']; omega
  | q :: t, S, h => by
    rw [allS']
    have := allS_bd t (S ++ adS q) (fun r hr => h r (List.mem_cons_of_mem _ hr))
    have hq := (h q List.mem_cons_self).2
    rw [List.length_append] at this
    rw [List.length_cons]
    unfold adS at this ⊢
    by_cases c : q.f0 = 3
    · rw [if_pos c] at this ⊢; omega
    · rw [if_neg c] at this ⊢; simp at this ⊢; omega
theorem awake100 : celluloidlaw15_awake.f 100 = some true := by kernel_rfl
theorem rounds_up' {α : Type} {g : Nat → Option α} (h : ∀ k, LeO (g k) (g (k + 1))) {k k' : Nat} (hk : k ≤ k') {r : α} (hr : g k = some r) : g k' = some r := by
  obtain ⟨d, rfl⟩ : ∃ d, k' = k + d := ⟨k' - k, by omega⟩
  clear hk
  induction d with
  | zero => exact hr
  | succ d ih => exact h (k + d) r ih
theorem awake_is : IsP (fun k => celluloidlaw15_awake.f k) True := ⟨100, true, by simp, fun _ hk => rounds_up' celluloidlaw15_awake.mono hk awake100⟩
end Go.Proofs.Ytlldbmodidhidaa.P
namespace Go.Proofs.Ytlldbmodidhidaa.Pure
open Go.RowKit Go.Proofs.Ytlldbmodidhidaa.P Go.Proofs.YtlldbmodidhidaaW.PrintWords Go.Proofs.YtlldbmodidhidaaW.PrintLast Go.Proofs.YtlldbmodidhidaaW.PrintMore
theorem w00 : wrap64 (wrap64 ((0 : Int) + 0) + 0) = 0 := by unfold wrap64; omega
theorem EdgePaths : celluloidlaw15_EdgePaths.Pure := by
  intro s hs
  obtain ⟨_, _, ⟨f1, f2⟩, ⟨g1, _⟩, ⟨r1, r2⟩⟩ := hs
  have hl : FW s.f2 := ⟨f1, fun y hy => (f2 y hy).2.2.2.2.1.1⟩
  have hn : RW s.f4 := ⟨r1, fun y hy => ⟨⟨(r2 y hy).2.2.2.2.2.2.2.2.1.1, fun z hz => ((r2 y hy).2.2.2.2.2.2.2.2.1.2 z hz).2.2.2.2.1.1⟩, (r2 y hy).2.2.2.2.2.2.2.2.2.1⟩⟩
  have small : IsV (fun k => celluloidlaw15_small.f k s.f0 s.f1.f0 s.f1.f1 s.f1.f2 s.f1.f3 s.f2 s.f3 s.f4) (fun t => t = true → (s.f2.length < 30 ∧ s.f3.length < 30) ∧ s.f4.length ≤ 600 ∧ ∀ r ∈ s.f4, r.f8.length < 30 ∧ r.f9.length < 30) := by
    obtain ⟨N, t, ht⟩ := small_ans hl hn s.f0 s.f1.f0 s.f1.f1 s.f1.f2 s.f1.f3 (m := s.f3)
    exact ⟨N, t, fun e => small_of (by rw [← e]; exact ht N (Nat.le_refl _)), ht⟩
  suffices h : IsP (fun k => celluloidlaw15_EdgePaths.f k s.f0 s.f1.f0 s.f1.f1 s.f1.f2 s.f1.f3 s.f2 s.f3 s.f4) True by
    obtain ⟨N, b, hb, h⟩ := h
    obtain rfl : b = true := hb.2 trivial
    exact ⟨N, h N (Nat.le_refl _)⟩
  unfold celluloidlaw15_EdgePaths.f
  refine isV_bind small fun t ht => isV_ite (fun c => ?_) (fun _ => isP_bid awake_is)
  obtain ⟨h1, h2, h3⟩ := ht c
  refine isV_bind (of_p hl g1 hn h1 h2 h3 s.f0 s.f1.f0 s.f1.f1 s.f1.f2 s.f1.f3) fun r hr => isV_bind (shape_r hl g1 hn h3 s.f0 s.f1.f0 s.f1.f1 s.f1.f2 s.f1.f3) fun u hu => isV_ite (fun cu => ?_) (fun cu => ?_)
  · have hp : ShapeP s.f0 s.f1.f0 s.f1.f1 s.f1.f2 s.f1.f3 s.f2 s.f3 s.f4 := hu.1 cu
    obtain rfl := hr.elim (fun h => h.2) (fun h => absurd hp h.1)
    have hk := kinds_of _ _ _ hp.2.2.2.2
    have hE : (allE ⟨0, 0, 0, 0, 0, 0, 0⟩ s.f2 s.f3 s.f4).length ≤ 600 := Nat.le_trans (allE_len _ _ _ _) h2
    have bF := allF_bd s.f4 s.f2 h3
    have bS := allS_bd s.f4 s.f3 h3
    have hF : FW (allF s.f2 s.f4) := ⟨by show _ ≤ 9223372036854775807; omega, allF_fw _ _ hn hl.2⟩
    have hS : (allS' s.f3 s.f4).length ≤ maxLen := by show _ ≤ 9223372036854775807; omega
    refine isV_bind (of_r h2 hk h3 h1.1 h1.2 s.f0 s.f1.f0 s.f1.f1 s.f1.f2 s.f1.f3) ?_
    rintro _ rfl
    refine isV_ite (fun _ => isP_iff (p := True ∧ True) (isP_band (lists_same hF hS) fun _ => ?_) (by simp)) (fun z => absurd rfl z)
    refine isV_bind (Q := fun b => b = true ↔ True) (refs_is hE) ?_
    rintro _ rfl
    exact isP_iff (p := True ∧ True) (isP_band (edges_same (l := (allE ⟨0, 0, 0, 0, 0, 0, 0⟩ s.f2 s.f3 s.f4).map e74) (by rw [List.length_map]; exact small_max (Nat.le_trans hE (by decide)))) fun _ => isP_bid awake_is) (by simp)
  · obtain ⟨hp, _⟩ | ⟨_, rfl⟩ := hr
    · exact absurd (hu.2 hp) cu
    · refine isV_ite (fun _ => isV_ite (fun _ => isP_bid awake_is) (fun z => absurd w00 z)) (fun z => absurd rfl z)
end Go.Proofs.Ytlldbmodidhidaa.Pure
