/- A shape whose Moves are all shifted has its edges shifted. (prune.py) -/
import Derived.Test.YtlldbmodidhidaaPx0
import Derived.Test.YtlldbmodidhidaaPx8
import Derived.Test.YtlldbmodidhidaaPx9
import Derived.Test.YtlldbmodidhidaaPx10
import Derived.Test.YtlldbmodidhidaaPx11
import Derived.Test.YtlldbmodidhidaaPx12
import Derived.Test.YtlldbmodidhidaaPx13
import Derived.Test.YtlldbmodidhidaaPx14
import Derived.Test.YtlldbmodidhidaaPx15
import Derived.Test.YtlldbmodidhidaaPx16
import Derived.Test.YtlldbmodidhidaaPx17
import Derived.Test.YtlldbmodidhidaaPx33
import Derived.KernelRfl
import Derived.Test.YtlldbmodidhidaaSayEdgeShifts
import Derived.Test.YtlldbmodidhidaaShort
namespace Go.Proofs.Ytlldbmodidhidaa.P
open Go.RowKit Go.Proofs.YtlldbmodidhidaaW.PrintWords Go.Proofs.YtlldbmodidhidaaW.PrintLast Go.Proofs.YtlldbmodidhidaaW.PrintMore
theorem w64_id {n : Int} (h0 : -9223372036854775808 ≤ n) (h1 : n < 9223372036854775808) : wrap64 n = n := by unfold wrap64; omega
/-- From some number of rounds on there is one answer. -/
def Ans {α : Type} (f : Nat → Option α) : Prop := ∃ N r, ∀ k, N ≤ k → f k = some r
theorem ans_some {α : Type} (r : α) : Ans (fun _ => some r) := ⟨0, r, fun _ _ => rfl⟩
theorem ans_ite {α : Type} {c : Prop} [Decidable c] {f g : Nat → Option α} (h1 : c → Ans f) (h2 : ¬ c → Ans g) : Ans (fun k => if c then f k else g k) := by
  by_cases h : c
  · obtain ⟨N, r, e⟩ := h1 h
    exact ⟨N, r, fun k hk => (if_pos h).trans (e k hk)⟩
  · obtain ⟨N, r, e⟩ := h2 h
    exact ⟨N, r, fun k hk => (if_neg h).trans (e k hk)⟩
theorem ans_bind {α β : Type} {f : Nat → Option α} {g : α → Nat → Option β} (h : Ans f) (h2 : ∀ r, Ans (g r)) : Ans (fun k => (f k).bind fun r => g r k) := by
  obtain ⟨N, r, e⟩ := h
  obtain ⟨M, s, d⟩ := h2 r
  refine ⟨N + M, s, fun k hk => ?_⟩
  show (f k).bind (fun r => g r k) = some s
  rw [e k (by omega), Option.bind_some]
  exact d k (by omega)
theorem ans_step {α : Type} {f g : Nat → Option α} (h : Ans g) (e : ∀ k, f (k + 1) = g k) : Ans f := by
  obtain ⟨N, r, d⟩ := h
  refine ⟨N + 1, r, fun k hk => ?_⟩
  obtain ⟨k, rfl⟩ : ∃ m, k = m + 1 := ⟨k - 1, by omega⟩
  rw [e k]
  exact d k (by omega)
theorem ans_next {i n : Nat} (hn : n ≤ maxLen) (h : i < n) : wrap64 ((i : Int) + 1) = ((i + 1 : Nat) : Int) := by
  have hn' : n ≤ 9223372036854775807 := hn
  rw [w64_id (by omega) (by omega)]; rfl
theorem nn (i : Nat) : 0 ≤ (i : Int) := Int.natCast_nonneg i
theorem lt_of {i d n : Nat} (h : d + 1 + i = n) : (i : Int) < (n : Int) := by omega
theorem within_l0 (a b : Int) {l : List Int} (hl : l.length ≤ maxLen) : ∀ d i : Nat, d + i = l.length → Ans (fun k => field_within.l0 k a b l (l.length : Int) (i : Int)) := by
  intro d
  induction d with
  | zero =>
    intro i h
    refine ans_step (g := fun _ => some true) (ans_some _) (fun k => ?_)
    rw [field_within.l0, if_neg (by omega)]
  | succ d ih =>
    intro i h
    refine ans_step (g := fun k => if rd l (i : Int) < a then some false else if rd l (i : Int) > b then some false else field_within.l0 k a b l (l.length : Int) ((i + 1 : Nat) : Int)) ?_ (fun k => ?_)
    · exact ans_ite (fun _ => ans_some _) (fun _ => ans_ite (fun _ => ans_some _) (fun _ => ih (i + 1) (by omega)))
    · rw [field_within.l0, if_pos (lt_of h), if_pos (nn i), if_pos (lt_of h), ans_next hl (by omega)]
theorem within_ans (a b : Int) {l : List Int} (hl : l.length ≤ maxLen) : Ans (fun k => field_within.f k a b l) := within_l0 a b hl l.length 0 (by omega)
theorem small_max {n : Nat} (h : n ≤ 1000) : n ≤ maxLen := by
  show n ≤ 9223372036854775807
  omega
theorem rgba_ans (a b c d : Int) : Ans (fun k => field_RightRGBA.f k a b c d) := by
  unfold field_RightRGBA.f
  exact ans_bind (within_ans _ _ (small_max (by simp))) (fun _ => ans_some _)
theorem matrix_ans (a b c d e f : Int) : Ans (fun k => field_RightMatrix.f k a b c d e f) := by
  unfold field_RightMatrix.f
  exact ans_bind (within_ans _ _ (small_max (by simp))) (fun _ => ans_ite (fun _ => ans_bind (within_ans _ _ (small_max (by simp))) (fun _ => ans_some _)) (fun _ => ans_some _))
theorem stop_ans (a b c d e f : Int) : Ans (fun k => style_stop.f k a b c d e f) := by
  unfold style_stop.f
  exact ans_ite (fun _ => ans_ite (fun _ => ans_bind (rgba_ans _ _ _ _) (fun _ => ans_some _)) (fun _ => ans_some _)) (fun _ => ans_some _)
theorem rect_ans (a b c d : Int) : Ans (fun k => field_RightRect.f k a b c d) := by
  unfold field_RightRect.f
  exact ans_bind (within_ans _ _ (small_max (by simp))) (fun _ => ans_ite (fun _ => ans_ite (fun _ => ans_some _) (fun _ => ans_some _)) (fun _ => ans_some _))
theorem stops_l0 {l m : List (S86)} (hl : l.length ≤ maxLen) (he : l.length = m.length) : ∀ d i : Nat, d + i = l.length → Ans (fun k => api_Stop.l0 k l m (l.length : Int) (i : Int)) := by
  intro d
  induction d with
  | zero =>
    intro i h
    refine ans_step (g := fun _ => some true) (ans_some _) (fun k => ?_)
    rw [api_Stop.l0, if_neg (by omega)]
  | succ d ih =>
    intro i h
    have hm : (i : Int) < (m.length : Int) := by rw [← he]; exact lt_of h
    have key := ih (i + 1) (by omega)
    have e : ∀ k, api_Stop.l0 (k + 1) l m (l.length : Int) (i : Int) = _ := fun k => by rw [api_Stop.l0, if_pos (lt_of h), if_pos (nn i), if_pos (lt_of h), if_pos hm, ans_next hl (by omega)]
    exact ans_step (ans_ite (fun _ => ans_some _) (fun _ => key)) e
theorem stops_ans {l m : List (S86)} (hl : l.length ≤ maxLen) : Ans (fun k => api_Stop.f k l m) := by
  unfold api_Stop.f
  exact ans_ite (fun h => stops_l0 hl (by omega) l.length 0 (by omega)) (fun _ => ans_some _)
theorem strokes_l0 {l m : List (S79)} (hl : l.length ≤ maxLen) (he : l.length = m.length) : ∀ d i : Nat, d + i = l.length → Ans (fun k => api_Stroke_61.l0 k l m (l.length : Int) (i : Int)) := by
  intro d
  induction d with
  | zero =>
    intro i h
    refine ans_step (g := fun _ => some true) (ans_some _) (fun k => ?_)
    rw [api_Stroke_61.l0, if_neg (by omega)]
  | succ d ih =>
    intro i h
    have hm : (i : Int) < (m.length : Int) := by rw [← he]; exact lt_of h
    have key := ih (i + 1) (by omega)
    have e : ∀ k, api_Stroke_61.l0 (k + 1) l m (l.length : Int) (i : Int) = _ := fun k => by rw [api_Stroke_61.l0, if_pos (lt_of h), if_pos (nn i), if_pos (lt_of h), if_pos hm, ans_next hl (by omega)]
    exact ans_step (ans_ite (fun _ => ans_some _) (fun _ => key)) e
theorem strokes_ans {l m : List (S79)} (hl : l.length ≤ maxLen) : Ans (fun k => api_Stroke_61.f k l m) := by
  unfold api_Stroke_61.f
  exact ans_ite (fun h => strokes_l0 hl (by omega) l.length 0 (by omega)) (fun _ => ans_some _)
theorem samefill_ans {l m : List (S86)} (hl : l.length ≤ maxLen) (a0 a1 a2 a3 a4 a5 a6 a7 a8 a9 a10 a11 a13 b0 b1 b2 b3 b4 b5 b6 b7 b8 b9 b10 b11 b13 : Int) : Ans (fun k => style_SameFill.f k a0 a1 a2 a3 a4 a5 a6 a7 a8 a9 a10 a11 l a13 b0 b1 b2 b3 b4 b5 b6 b7 b8 b9 b10 b11 m b13) := by
  unfold style_SameFill.f
  exact ans_ite (fun _ => ans_ite (fun _ => ans_ite (fun _ => ans_ite (fun _ => ans_ite (fun _ => ans_bind (stops_ans hl) (fun _ => ans_some _)) (fun _ => ans_some _)) (fun _ => ans_some _)) (fun _ => ans_some _)) (fun _ => ans_some _)) (fun _ => ans_some _)
theorem fill_l0 {l : List (S86)} (hl : l.length ≤ maxLen) (a0 a1 a2 a3 a4 a5 a6 a7 a8 a9 a10 a11 a13 : Int) (m : List (S86)) : ∀ (d i : Nat) (x : Int), d + i = l.length → Ans (fun k => style_RightFill.l0 k x l (l.length : Int) (i : Int) a0 a1 a2 a3 a4 a5 a6 a7 a8 a9 a10 a11 m a13) := by
  intro d
  induction d with
  | zero =>
    intro i x h
    have e : ∀ k, style_RightFill.l0 (k + 1) x l (l.length : Int) (i : Int) a0 a1 a2 a3 a4 a5 a6 a7 a8 a9 a10 a11 m a13 = _ := fun k => by rw [style_RightFill.l0, if_neg (by omega)]
    exact ans_step (ans_bind (matrix_ans _ _ _ _ _ _) (fun _ => ans_ite (fun _ => ans_ite (fun _ => ans_ite (fun _ => ans_ite (fun _ => ans_some _) (fun _ => ans_some _)) (fun _ => ans_some _)) (fun _ => ans_some _)) (fun _ => ans_some _))) e
  | succ d ih =>
    intro i x h
    have e : ∀ k, style_RightFill.l0 (k + 1) x l (l.length : Int) (i : Int) a0 a1 a2 a3 a4 a5 a6 a7 a8 a9 a10 a11 m a13 = _ := fun k => by rw [style_RightFill.l0, if_pos (lt_of h), if_pos (nn i), if_pos (lt_of h), ans_next hl (by omega)]
    exact ans_step (ans_bind (stop_ans _ _ _ _ _ _) (fun _ => ans_ite (fun _ => ih (i + 1) _ (by omega)) (fun _ => ans_some _))) e
theorem pic_ans (a : Int) : Ans (fun _ : Nat => style_picture.f a) := by
  unfold style_picture.f
  exact ans_ite (fun _ => ans_some _) (fun _ => ans_some _)
theorem grad_ans (a : Int) : Ans (fun _ : Nat => style_gradient.f a) := by
  unfold style_gradient.f
  exact ans_ite (fun _ => ans_some _) (fun _ => ans_some _)
theorem fill_ans {l : List (S86)} (hl : l.length ≤ maxLen) (a0 a1 a2 a3 a4 a5 a6 a7 a8 a9 a10 a11 a13 : Int) : Ans (fun k => style_RightFill.f k a0 a1 a2 a3 a4 a5 a6 a7 a8 a9 a10 a11 l a13) := by
  unfold style_RightFill.f
  refine ans_ite (fun _ => ans_bind (rgba_ans _ _ _ _) (fun _ => ans_ite (fun _ => ans_bind (samefill_ans hl _ _ _ _ _ _ _ _ _ _ _ _ _ _ _ _ _ _ _ _ _ _ _ _ _ _) (fun _ => ans_some _)) (fun _ => ans_some _))) (fun _ => ans_bind (pic_ans _) (fun _ => ans_ite (fun _ => ?_) (fun _ => ans_bind (grad_ans _) (fun _ => ans_ite (fun _ => ?_) (fun _ => ans_some _)))))
  · exact ans_bind (matrix_ans _ _ _ _ _ _) (fun _ => ans_ite (fun _ => ans_ite (fun _ => ans_ite (fun _ => ans_bind (samefill_ans hl _ _ _ _ _ _ _ _ _ _ _ _ _ _ _ _ _ _ _ _ _ _ _ _ _ _) (fun _ => ans_some _)) (fun _ => ans_some _)) (fun _ => ans_some _)) (fun _ => ans_some _))
  · exact ans_bind (samefill_ans hl _ _ _ _ _ _ _ _ _ _ _ _ _ _ _ _ _ _ _ _ _ _ _ _ _ _) (fun _ => ans_ite (fun _ => fill_l0 hl _ _ _ _ _ _ _ _ _ _ _ _ _ _ l.length 0 _ (by omega)) (fun _ => ans_some _))
theorem right1_ans {l : List (S86)} (hl : l.length ≤ maxLen) (a0 a1 a2 a3 a4 a5 a6 a7 a8 a9 a10 a11 a13 : Int) : Ans (fun k => style_Right_1.f k a0 a1 a2 a3 a4 a5 a6 a7 a8 a9 a10 a11 l a13) := by
  unfold style_Right_1.f
  exact ans_bind (fill_ans hl _ _ _ _ _ _ _ _ _ _ _ _ _) (fun _ => ans_some _)
theorem right2_ans (a b c d e : Int) : Ans (fun k => style_Right_2.f k a b c d e) := by
  unfold style_Right_2.f style_RightStroke.f
  exact ans_bind (ans_ite (fun _ => ans_ite (fun _ => ans_bind (rgba_ans _ _ _ _) (fun _ => ans_some _)) (fun _ => ans_some _)) (fun _ => ans_some _)) (fun _ => ans_some _)
theorem rdF (l : List (S65)) (i : Nat) (h : i < l.length) : rd_T65 l (i : Int) = l[i] := by
  unfold rd_T65; rw [Int.toNat_natCast]; simp [List.getD_eq_getElem?_getD, h]
theorem rdR (l : List (S49)) (i : Nat) (h : i < l.length) : rd_T49 l (i : Int) = l[i] := by
  unfold rd_T49; rw [Int.toNat_natCast]; simp [List.getD_eq_getElem?_getD, h]
/-- Fills as they may come. -/
def FW (l : List (S65)) : Prop := l.length ≤ maxLen ∧ ∀ y ∈ l, y.f4.length ≤ maxLen
theorem FW.at_ {l : List (S65)} (h : FW l) {i : Nat} (hi : i < l.length) : (rd_T65 l (i : Int)).f4.length ≤ maxLen := by
  rw [rdF l i hi]; exact h.2 _ (List.getElem_mem _)
theorem fills_l0 {l : List (S65)} (hl : FW l) : ∀ d i : Nat, d + i = l.length → Ans (fun k => api_Fill_51.l0 k l (l.length : Int) (i : Int)) := by
  intro d
  induction d with
  | zero =>
    intro i h
    refine ans_step (g := fun _ => some (-1)) (ans_some _) (fun k => ?_)
    rw [api_Fill_51.l0, if_neg (by omega)]
  | succ d ih =>
    intro i h
    have e : ∀ k, api_Fill_51.l0 (k + 1) l (l.length : Int) (i : Int) = _ := fun k => by rw [api_Fill_51.l0, if_pos (lt_of h), if_pos (nn i), if_pos (lt_of h), ans_next hl.1 (by omega)]
    exact ans_step (ans_bind (right1_ans (hl.at_ (by omega)) _ _ _ _ _ _ _ _ _ _ _ _ _) (fun _ => ans_ite (fun _ => ans_some _) (fun _ => ih (i + 1) (by omega)))) e
theorem lines_l0 {l : List (S79)} (hl : l.length ≤ maxLen) : ∀ d i : Nat, d + i = l.length → Ans (fun k => api_Stroke_58.l0 k l (l.length : Int) (i : Int)) := by
  intro d
  induction d with
  | zero =>
    intro i h
    refine ans_step (g := fun _ => some (-1)) (ans_some _) (fun k => ?_)
    rw [api_Stroke_58.l0, if_neg (by omega)]
  | succ d ih =>
    intro i h
    have e : ∀ k, api_Stroke_58.l0 (k + 1) l (l.length : Int) (i : Int) = _ := fun k => by rw [api_Stroke_58.l0, if_pos (lt_of h), if_pos (nn i), if_pos (lt_of h), ans_next hl (by omega)]
    exact ans_step (ans_bind (right2_ans _ _ _ _ _) (fun _ => ans_ite (fun _ => ans_some _) (fun _ => ih (i + 1) (by omega)))) e
theorem styles_ans {l : List (S65)} {m : List (S79)} (hl : FW l) (hm : m.length ≤ maxLen) : Ans (fun k => style_Right.f k l m) := by
  unfold style_Right.f api_Fill_41.f api_Stroke_44.f api_Fill_51.f api_Stroke_58.f
  exact ans_ite (fun _ => ans_ite (fun _ => ans_bind (ans_bind (fills_l0 hl l.length 0 (by omega)) (fun _ => ans_some _)) (fun _ => ans_ite (fun _ => ans_some _) (fun _ => ans_bind (ans_bind (lines_l0 hm m.length 0 (by omega)) (fun _ => ans_some _)) (fun _ => ans_some _)))) (fun _ => ans_some _)) (fun _ => ans_some _)
theorem same_l0 {l m : List (S65)} (hl : FW l) (he : l.length = m.length) (a0 a1 a2 a3 a4 a5 a6 a7 b0 b1 b2 b3 b4 b5 b6 b7 : Int) (p q : List (S79)) : ∀ d i : Nat, d + i = l.length → Ans (fun k => shape_same.l0 k (l.length : Int) (i : Int) a0 a1 a2 a3 a4 a5 a6 a7 l p b0 b1 b2 b3 b4 b5 b6 b7 m q) := by
  intro d
  induction d with
  | zero =>
    intro i h
    have e : ∀ k, shape_same.l0 (k + 1) (l.length : Int) (i : Int) a0 a1 a2 a3 a4 a5 a6 a7 l p b0 b1 b2 b3 b4 b5 b6 b7 m q = _ := fun k => by rw [shape_same.l0, if_neg (by omega)]
    exact ans_step (ans_ite (fun _ => ans_ite (fun _ => ans_ite (fun _ => ans_ite (fun _ => ans_ite (fun _ => ans_ite (fun _ => ans_ite (fun _ => ans_some _) (fun _ => ans_some _)) (fun _ => ans_some _)) (fun _ => ans_some _)) (fun _ => ans_some _)) (fun _ => ans_some _)) (fun _ => ans_some _)) (fun _ => ans_some _)) e
  | succ d ih =>
    intro i h
    have hm : (i : Int) < (m.length : Int) := by rw [← he]; exact lt_of h
    have e : ∀ k, shape_same.l0 (k + 1) (l.length : Int) (i : Int) a0 a1 a2 a3 a4 a5 a6 a7 l p b0 b1 b2 b3 b4 b5 b6 b7 m q = _ := fun k => by rw [shape_same.l0, if_pos (lt_of h), if_pos (nn i), if_pos (lt_of h), if_pos hm, ans_next hl.1 (by omega)]
    exact ans_step (ans_bind (samefill_ans (hl.at_ (by omega)) _ _ _ _ _ _ _ _ _ _ _ _ _ _ _ _ _ _ _ _ _ _ _ _ _ _) (fun _ => ans_ite (fun _ => ih (i + 1) (by omega)) (fun _ => ans_some _))) e
theorem same_ans {l m : List (S65)} (hl : FW l) (a0 a1 a2 a3 a4 a5 a6 a7 b0 b1 b2 b3 b4 b5 b6 b7 : Int) {p q : List (S79)} (hp : p.length ≤ maxLen) : Ans (fun k => shape_same.f k a0 a1 a2 a3 a4 a5 a6 a7 l p b0 b1 b2 b3 b4 b5 b6 b7 m q) := by
  unfold shape_same.f
  have off : Ans (fun k => shape_same.j0 k true a0 a1 a2 a3 a4 a5 a6 a7 l p b0 b1 b2 b3 b4 b5 b6 b7 m q) := by
    have e : ∀ k, shape_same.j0 (k + 1) true a0 a1 a2 a3 a4 a5 a6 a7 l p b0 b1 b2 b3 b4 b5 b6 b7 m q = _ := fun k => by rw [shape_same.j0, if_pos rfl]
    exact ans_step (ans_some _) e
  refine ans_ite (fun h => ans_bind (strokes_ans hp) (fun t => ?_)) (fun _ => off)
  cases t with
  | false => exact off
  | true =>
    have e : ∀ k, shape_same.j0 (k + 1) (!true) a0 a1 a2 a3 a4 a5 a6 a7 l p b0 b1 b2 b3 b4 b5 b6 b7 m q = _ := fun k => by rw [shape_same.j0, if_neg (by simp)]
    exact ans_step (same_l0 hl (by omega) _ _ _ _ _ _ _ _ _ _ _ _ _ _ _ _ _ _ l.length 0 (by omega)) e
theorem sw_ans (a b : Int) (l : List Int) : Ans (fun _ : Nat => shape_within.f a b l) := by
  unfold shape_within.f
  exact ans_some _
theorem sound_ans {l : List (S65)} {p : List (S79)} (hl : FW l) (hp : p.length ≤ maxLen) (a0 a1 a2 a3 a4 a5 a6 a7 x y : Int) : Ans (fun k => shape_sound.f k a0 a1 a2 a3 a4 a5 a6 a7 l p x y) := by
  have sm : ∀ (b0 b1 b2 b3 b4 b5 b6 b7 : Int) (m : List (S65)) (q : List (S79)), Ans (fun k => (shape_same.f k a0 a1 a2 a3 a4 a5 a6 a7 l p b0 b1 b2 b3 b4 b5 b6 b7 m q).bind fun t => some t) := fun _ _ _ _ _ _ _ _ _ _ => ans_bind (same_ans hl _ _ _ _ _ _ _ _ _ _ _ _ _ _ _ _ hp) (fun _ => ans_some _)
  unfold shape_sound.f
  refine ans_ite (fun _ => ans_bind (sw_ans _ _ _) (fun _ => ans_ite (fun _ => sm _ _ _ _ _ _ _ _ _ _) (fun _ => ans_some _))) (fun _ => ans_ite (fun _ => ?_) (fun _ => ans_ite (fun _ => ?_) (fun _ => ans_ite (fun _ => ?_) (fun _ => ans_ite (fun _ => ?_) (fun _ => ans_some _)))))
  · exact ans_bind (sw_ans _ _ _) (fun _ => ans_ite (fun _ => ans_bind (sw_ans _ _ _) (fun _ => ans_ite (fun _ => ans_ite (fun _ => sm _ _ _ _ _ _ _ _ _ _) (fun _ => ans_some _)) (fun _ => ans_some _))) (fun _ => ans_some _))
  · exact ans_bind (styles_ans hl hp) (fun _ => ans_ite (fun _ => sm _ _ _ _ _ _ _ _ _ _) (fun _ => ans_some _))
  · exact ans_bind (sw_ans _ _ _) (fun _ => ans_ite (fun _ => sm _ _ _ _ _ _ _ _ _ _) (fun _ => ans_some _))
  · exact ans_bind (sw_ans _ _ _) (fun _ => ans_ite (fun _ => sm _ _ _ _ _ _ _ _ _ _) (fun _ => ans_some _))
/-- Records as they may come. -/
def RW (l : List (S49)) : Prop := l.length ≤ maxLen ∧ ∀ r ∈ l, FW r.f8 ∧ r.f9.length ≤ maxLen
theorem RW.at_ {l : List (S49)} (h : RW l) {i : Nat} (hi : i < l.length) : FW (rd_T49 l (i : Int)).f8 ∧ (rd_T49 l (i : Int)).f9.length ≤ maxLen := by
  rw [rdR l i hi]; exact h.2 _ (List.getElem_mem _)
theorem records_l0 {l : List (S49)} (hl : RW l) (z : Int) : ∀ (d i : Nat) (x y : Int), d + i = l.length → Ans (fun k => shape_RightRecords.l0 k x y z l (l.length : Int) (i : Int)) := by
  intro d
  induction d with
  | zero =>
    intro i x y h
    refine ans_step (g := fun _ => some true) (ans_some _) (fun k => ?_)
    rw [shape_RightRecords.l0, if_neg (by omega)]
  | succ d ih =>
    intro i x y h
    have key : ∀ b : Bool, Ans (fun k => shape_RightRecords.j2 k x y z l (l.length : Int) (i : Int) b (rd_T49 l (i : Int)).f0 (rd_T49 l (i : Int)).f1 (rd_T49 l (i : Int)).f2 (rd_T49 l (i : Int)).f3 (rd_T49 l (i : Int)).f4 (rd_T49 l (i : Int)).f5 (rd_T49 l (i : Int)).f6 (rd_T49 l (i : Int)).f7 (rd_T49 l (i : Int)).f8 (rd_T49 l (i : Int)).f9) := by
      intro b
      have e : ∀ k, shape_RightRecords.j2 (k + 1) x y z l (l.length : Int) (i : Int) b (rd_T49 l (i : Int)).f0 (rd_T49 l (i : Int)).f1 (rd_T49 l (i : Int)).f2 (rd_T49 l (i : Int)).f3 (rd_T49 l (i : Int)).f4 (rd_T49 l (i : Int)).f5 (rd_T49 l (i : Int)).f6 (rd_T49 l (i : Int)).f7 (rd_T49 l (i : Int)).f8 (rd_T49 l (i : Int)).f9 = _ := fun k => by rw [shape_RightRecords.j2, ans_next hl.1 (by omega)]
      exact ans_step (ans_ite (fun _ => ans_some _) (fun _ => ans_ite (fun _ => ih (i + 1) _ _ (by omega)) (fun _ => ih (i + 1) _ _ (by omega)))) e
    have e : ∀ k, shape_RightRecords.l0 (k + 1) x y z l (l.length : Int) (i : Int) = _ := fun k => by rw [shape_RightRecords.l0, if_pos (lt_of h), if_pos (nn i), if_pos (lt_of h)]
    refine ans_step ?_ e
    exact (ans_bind (sound_ans (hl.at_ (i := i) (by omega)).1 (hl.at_ (i := i) (by omega)).2 _ _ _ _ _ _ _ _ _ _) (fun _ => ans_ite (fun _ => ans_ite (fun _ => ans_ite (fun _ => ans_ite (fun _ => key _) (fun _ => key _)) (fun _ => key _)) (fun _ => ans_ite (fun _ => key _) (fun _ => key _))) (fun _ => key _)))
theorem records_ans {l : List (S49)} (hl : RW l) (x y z : Int) : Ans (fun k => shape_RightRecords.f k x y l z) := by
  have key : ∀ b : Bool, Ans (fun k => shape_RightRecords.j0 k x y l z b) := by
    intro b
    have e : ∀ k, shape_RightRecords.j0 (k + 1) x y l z b = _ := fun k => by rw [shape_RightRecords.j0]
    exact ans_step (ans_ite (fun _ => ans_some _) (fun _ => records_l0 hl z l.length 0 x y (by omega))) e
  unfold shape_RightRecords.f
  exact ans_bind (sw_ans _ _ _) (fun _ => ans_ite (fun _ => ans_bind (sw_ans _ _ _) (fun _ => ans_ite (fun _ => key _) (fun _ => key _))) (fun _ => key _))
theorem shape_ans {l : List (S65)} {m : List (S79)} {n : List (S49)} (hl : FW l) (hm : m.length ≤ maxLen) (hn : RW n) (a b c d e : Int) : Ans (fun k => shape_Right.f k a b c d e l m n) := by
  unfold shape_Right.f
  exact ans_bind (sw_ans _ _ _) (fun _ => ans_ite (fun _ => ans_bind (rect_ans _ _ _ _) (fun _ => ans_ite (fun _ => ans_bind (styles_ans hl hm) (fun _ => ans_ite (fun _ => ans_bind (records_ans hn _ _ _) (fun _ => ans_some _)) (fun _ => ans_some _))) (fun _ => ans_some _))) (fun _ => ans_some _))
end Go.Proofs.Ytlldbmodidhidaa.P
namespace Go.Proofs.Ytlldbmodidhidaa.P
open Go.RowKit Go.Proofs.YtlldbmodidhidaaW.PrintWords Go.Proofs.YtlldbmodidhidaaW.PrintLast Go.Proofs.YtlldbmodidhidaaW.PrintMore
theorem iteN {α : Type} {c : Prop} [Decidable c] {A : Option α} {r : α} (h : (if c then A else none) = some r) : c ∧ A = some r := by
  by_cases q : c
  · rw [if_pos q] at h; exact ⟨q, h⟩
  · rw [if_neg q] at h; exact absurd h (by simp)
theorem iteT {c : Prop} [Decidable c] {A : Option Bool} (h : (if c then A else some false) = some true) : c ∧ A = some true := by
  by_cases q : c
  · rw [if_pos q] at h; exact ⟨q, h⟩
  · rw [if_neg q] at h; exact absurd h (by simp)
theorem bindS {α β : Type} {f : Option α} {g : α → Option β} {r : β} (h : (f.bind g) = some r) : ∃ t, f = some t ∧ g t = some r := Option.bind_eq_some_iff.mp h
abbrev Rec := S49
abbrev Fil := S65
abbrev Lin := S79
theorem same_l0_eq : ∀ (k : Nat) {l m : List Fil} {p q : List Lin} {a0 a1 a2 a3 a4 a5 a6 a7 b0 b1 b2 b3 b4 b5 b6 b7 : Int} (n i : Int), shape_same.l0 k n i a0 a1 a2 a3 a4 a5 a6 a7 l p b0 b1 b2 b3 b4 b5 b6 b7 m q = some true → a3 = b3 ∧ a4 = b4 := by
  intro k
  induction k with
  | zero => intro _ _ _ _ _ _ _ _ _ _ _ _ _ _ _ _ _ _ _ _ n i h; simp [shape_same.l0] at h
  | succ k ih =>
    intro l m p q a0 a1 a2 a3 a4 a5 a6 a7 b0 b1 b2 b3 b4 b5 b6 b7 n i h
    rw [shape_same.l0] at h
    by_cases c : i < n
    · rw [if_pos c] at h
      obtain ⟨_, h⟩ := iteN h
      obtain ⟨_, h⟩ := iteN h
      obtain ⟨_, h⟩ := iteN h
      obtain ⟨t, _, h⟩ := bindS h
      obtain ⟨_, h⟩ := iteT h
      exact ih _ _ h
    · rw [if_neg c] at h
      obtain ⟨_, h⟩ := iteT h
      obtain ⟨_, h⟩ := iteT h
      obtain ⟨_, h⟩ := iteT h
      obtain ⟨h3, h⟩ := iteT h
      obtain ⟨h4, h⟩ := iteT h
      exact ⟨h3, h4⟩
theorem same_j0_eq {k : Nat} {t : Bool} {l m : List Fil} {p q : List Lin} {a0 a1 a2 a3 a4 a5 a6 a7 b0 b1 b2 b3 b4 b5 b6 b7 : Int} (h : shape_same.j0 k t a0 a1 a2 a3 a4 a5 a6 a7 l p b0 b1 b2 b3 b4 b5 b6 b7 m q = some true) : a3 = b3 ∧ a4 = b4 := by
  cases k with
  | zero => simp [shape_same.j0] at h
  | succ k =>
    rw [shape_same.j0] at h
    by_cases c : t = true
    · rw [if_pos c] at h; exact absurd h (by simp)
    · rw [if_neg c] at h; exact same_l0_eq k _ _ h
theorem same_f_eq {k : Nat} {l m : List Fil} {p q : List Lin} {a0 a1 a2 a3 a4 a5 a6 a7 b0 b1 b2 b3 b4 b5 b6 b7 : Int} (h : shape_same.f k a0 a1 a2 a3 a4 a5 a6 a7 l p b0 b1 b2 b3 b4 b5 b6 b7 m q = some true) : a3 = b3 ∧ a4 = b4 := by
  unfold shape_same.f at h
  by_cases c : (l.length : Int) = (m.length : Int)
  · rw [if_pos c] at h
    obtain ⟨t, _, h⟩ := bindS h
    exact same_j0_eq h
  · rw [if_neg c] at h
    exact same_j0_eq h
theorem sw_of {a b : Int} {l : List Int} (h : shape_within.f a b l = some true) : ∀ x ∈ l, a ≤ x ∧ x ≤ b := by
  unfold shape_within.f at h
  exact of_decide_eq_true (Option.some.inj h)
/-- What a right record is, beside x fills and y lines: as far as edges ask. -/
def Snd (r : Rec) (x y : Int) : Prop := r.f0 = 1 ∨ (r.f0 = 2 ∧ (-1 ≤ r.f5 ∧ r.f5 ≤ x) ∧ (-1 ≤ r.f6 ∧ r.f6 ≤ x) ∧ -1 ≤ r.f7 ∧ r.f7 ≤ y) ∨ r.f0 = 3 ∨ (r.f0 = 4 ∧ r.f3 = 0 ∧ r.f4 = 0) ∨ r.f0 = 5
theorem sound_of {k : Nat} {r : Rec} {x y : Int} (h : shape_sound.f k r.f0 r.f1 r.f2 r.f3 r.f4 r.f5 r.f6 r.f7 r.f8 r.f9 x y = some true) : Snd r x y := by
  unfold shape_sound.f at h
  by_cases c1 : r.f0 = 1
  · exact .inl c1
  rw [if_neg c1] at h
  by_cases c2 : r.f0 = 2
  · rw [if_pos c2] at h
    obtain ⟨t, h1, h⟩ := bindS h
    obtain ⟨e1, h⟩ := iteT h
    obtain ⟨u, h2, h⟩ := bindS h
    obtain ⟨e2, h⟩ := iteT h
    rw [e1] at h1
    rw [e2] at h2
    have w1 := sw_of h1
    have w2 := sw_of h2
    exact .inr (.inl ⟨c2, w1 _ (by simp), w1 _ (by simp), w2 _ (by simp)⟩)
  rw [if_neg c2] at h
  by_cases c3 : r.f0 = 3
  · exact .inr (.inr (.inl c3))
  rw [if_neg c3] at h
  by_cases c4 : r.f0 = 4
  · rw [if_pos c4] at h
    obtain ⟨t, h1, h⟩ := bindS h
    obtain ⟨_, h⟩ := iteT h
    obtain ⟨u, h2, h⟩ := bindS h
    obtain rfl := Option.some.inj h
    exact .inr (.inr (.inr (.inl ⟨c4, same_f_eq h2⟩)))
  rw [if_neg c4] at h
  by_cases c5 : r.f0 = 5
  · exact .inr (.inr (.inr (.inr c5)))
  rw [if_neg c5] at h
  exact absurd h (by simp)
/-- Right records, one behind the other. -/
def GoodR : Int → Int → List Rec → Prop
  | _, _, [] => True
  | x, y, r :: t => Snd r x y ∧ GoodR (if r.f0 = 3 then (r.f8.length : Int) else x) (if r.f0 = 3 then (r.f9.length : Int) else y) t
theorem j2_of {k : Nat} {x y z : Int} {l : List Rec} {n i : Int} {b : Bool} {r : Rec} (h : shape_RightRecords.j2 k x y z l n i b r.f0 r.f1 r.f2 r.f3 r.f4 r.f5 r.f6 r.f7 r.f8 r.f9 = some true) :
    ∃ m, shape_RightRecords.l0 m (if r.f0 = 3 then (r.f8.length : Int) else x) (if r.f0 = 3 then (r.f9.length : Int) else y) z l n (wrap64 (i + 1)) = some true := by
  cases k with
  | zero => simp [shape_RightRecords.j2] at h
  | succ k =>
    rw [shape_RightRecords.j2] at h
    by_cases c : b = true
    · rw [if_pos c] at h; exact absurd h (by simp)
    · rw [if_neg c] at h
      by_cases d : r.f0 = 3
      · rw [if_pos d] at h
        exact ⟨k, by rw [if_pos d, if_pos d]; exact h⟩
      · rw [if_neg d] at h
        exact ⟨k, by rw [if_neg d, if_neg d]; exact h⟩
theorem j2_off {k : Nat} {x y z : Int} {l : List Rec} {n i : Int} {r0 r1 r2 r3 r4 r5 r6 r7 : Int} {r8 : List Fil} {r9 : List Lin} (h : shape_RightRecords.j2 k x y z l n i true r0 r1 r2 r3 r4 r5 r6 r7 r8 r9 = some true) : False := by
  cases k with
  | zero => simp [shape_RightRecords.j2] at h
  | succ k =>
    rw [shape_RightRecords.j2, if_pos rfl] at h
    exact absurd h (by simp)
theorem drop_rec (l : List Rec) (i : Nat) (h : i < l.length) : l.drop i = l[i] :: l.drop (i + 1) := List.drop_eq_getElem_cons h
theorem records_of {l : List Rec} (hl : l.length ≤ maxLen) (z : Int) : ∀ (d i k : Nat) (x y : Int), d + i = l.length → shape_RightRecords.l0 k x y z l (l.length : Int) (i : Int) = some true → GoodR x y (l.drop i) := by
  intro d
  induction d with
  | zero =>
    intro i k x y h _
    rw [List.drop_of_length_le (by omega)]
    trivial
  | succ d ih =>
    intro i k x y h g
    have hi : i < l.length := by omega
    cases k with
    | zero => simp [shape_RightRecords.l0] at g
    | succ k =>
      rw [shape_RightRecords.l0, if_pos (lt_of h), if_pos (nn i), if_pos (lt_of h), rdR l i hi] at g
      obtain ⟨t, h1, g⟩ := bindS g
      have key : ∀ b : Bool, shape_RightRecords.j2 k x y z l (l.length : Int) (i : Int) b l[i].f0 l[i].f1 l[i].f2 l[i].f3 l[i].f4 l[i].f5 l[i].f6 l[i].f7 l[i].f8 l[i].f9 = some true → Snd l[i] x y → GoodR x y (l.drop i) := by
        intro b hb hs
        obtain ⟨m, hm⟩ := j2_of hb
        rw [ans_next hl hi] at hm
        rw [drop_rec l i hi]
        exact ⟨hs, ih (i + 1) m _ _ (by omega) hm⟩
      by_cases c : t = true
      · rw [if_pos c] at g
        subst c
        have hs := sound_of h1
        by_cases c3 : l[i].f0 = 3
        · rw [if_pos c3] at g
          by_cases cz : z = 0
          · rw [if_pos cz] at g
            by_cases c2 : l[i].f0 = 2
            · rw [if_pos c2] at g; exact key _ g hs
            · rw [if_neg c2] at g; exact key _ g hs
          · rw [if_neg cz] at g; exact key _ g hs
        · rw [if_neg c3] at g
          by_cases c2 : l[i].f0 = 2
          · rw [if_pos c2] at g; exact key _ g hs
          · rw [if_neg c2] at g; exact key _ g hs
      · rw [if_neg c] at g
        exact (j2_off g).elim
theorem shape_of {k : Nat} {l : List Fil} {m : List Lin} {n : List Rec} {a b c d e : Int} (hn : n.length ≤ maxLen) (h : shape_Right.f k a b c d e l m n = some true) : GoodR (l.length : Int) (m.length : Int) n := by
  unfold shape_Right.f shape_RightRecords.f at h
  obtain ⟨t, _, h⟩ := bindS h
  obtain ⟨_, h⟩ := iteT h
  obtain ⟨t, _, h⟩ := bindS h
  obtain ⟨_, h⟩ := iteT h
  obtain ⟨t, _, h⟩ := bindS h
  obtain ⟨_, h⟩ := iteT h
  obtain ⟨t, h, h'⟩ := bindS h
  obtain rfl := Option.some.inj h'
  have key : ∀ {k : Nat} {b : Bool}, shape_RightRecords.j0 k (l.length : Int) (m.length : Int) n 0 b = some true → GoodR (l.length : Int) (m.length : Int) n := by
    intro k b g
    cases k with
    | zero => simp [shape_RightRecords.j0] at g
    | succ k =>
      rw [shape_RightRecords.j0] at g
      by_cases c : b = true
      · rw [if_pos c] at g; exact absurd g (by simp)
      · rw [if_neg c] at g
        have := records_of hn 0 n.length 0 k _ _ (by omega) g
        rw [List.drop_zero] at this
        exact this
  obtain ⟨t, _, h⟩ := bindS h
  by_cases c : t = true
  · rw [if_pos c] at h
    obtain ⟨t, _, h⟩ := bindS h
    by_cases c : t = true
    · rw [if_pos c] at h; exact key h
    · rw [if_neg c] at h; exact key h
  · rw [if_neg c] at h; exact key h
theorem small8_l0 {l : List Fil} {m : List Lin} (hl : FW l) : ∀ d i : Nat, d + i = l.length → Ans (fun k => celluloidref08_Small.l0 k l m (i : Int)) := by
  intro d
  induction d with
  | zero =>
    intro i h
    have e : ∀ k, celluloidref08_Small.l0 (k + 1) l m (i : Int) = _ := fun k => by rw [celluloidref08_Small.l0, if_neg (by omega)]
    exact ans_step (ans_ite (fun _ => ans_some _) (fun _ => ans_some _)) e
  | succ d ih =>
    intro i h
    have e : ∀ k, celluloidref08_Small.l0 (k + 1) l m (i : Int) = _ := fun k => by rw [celluloidref08_Small.l0, if_pos (lt_of h), if_pos (nn i), ans_next hl.1 (by omega)]
    exact ans_step (ans_ite (fun _ => ans_some _) (fun _ => ih (i + 1) (by omega))) e
theorem small8_ans {l : List Fil} {m : List Lin} (hl : FW l) : Ans (fun k => celluloidref08_Small.f k l m) := by
  unfold celluloidref08_Small.f
  exact small8_l0 hl l.length 0 (by omega)
theorem small8_of : ∀ (k : Nat) {l : List Fil} {m : List Lin} (i : Int), celluloidref08_Small.l0 k l m i = some true → l.length < 30 ∧ m.length < 30 := by
  intro k
  induction k with
  | zero => intro l m i h; simp [celluloidref08_Small.l0] at h
  | succ k ih =>
    intro l m i h
    rw [celluloidref08_Small.l0] at h
    by_cases c : i < (l.length : Int)
    · rw [if_pos c] at h
      obtain ⟨_, h⟩ := iteN h
      by_cases q : ((rd_T65 l i).f4.length : Int) > 20
      · rw [if_pos q] at h; exact absurd h (by simp)
      · rw [if_neg q] at h; exact ih _ h
    · rw [if_neg c] at h
      obtain ⟨h1, h⟩ := iteT h
      have h2 := of_decide_eq_true (Option.some.inj h)
      omega
theorem small9_off {l : List Rec} (n i : Int) : Ans (fun k => celluloidref09_Small.j1 k l n i false) := by
  have e : ∀ k, celluloidref09_Small.j1 (k + 1) l n i false = _ := fun k => by rw [celluloidref09_Small.j1, if_neg (by simp)]
  exact ans_step (ans_some _) e
theorem small9_l0 {l : List Rec} (hl : RW l) : ∀ d i : Nat, d + i = 600 → Ans (fun k => celluloidref09_Small.l0 k l 600 (i : Int)) := by
  intro d
  induction d with
  | zero =>
    intro i h
    have e : ∀ k, celluloidref09_Small.l0 (k + 1) l 600 (i : Int) = _ := fun k => by rw [celluloidref09_Small.l0, decide_eq_false (by omega)]
    exact ans_step (ans_ite (fun _ => small9_off _ _) (fun _ => small9_off _ _)) e
  | succ d ih =>
    intro i h
    have e : ∀ k, celluloidref09_Small.l0 (k + 1) l 600 (i : Int) = _ := fun k => by rw [celluloidref09_Small.l0]
    refine ans_step (ans_ite (fun c => ?_) (fun _ => small9_off _ _)) e
    have hi : i < l.length := by omega
    rw [decide_eq_true (show (i : Int) < 600 by omega)]
    have e : ∀ k, celluloidref09_Small.j1 (k + 1) l 600 (i : Int) true = _ := fun k => by rw [celluloidref09_Small.j1, if_pos rfl, if_pos (nn i), if_pos c, ans_next (n := 600) (small_max (by omega)) (by omega)]
    exact ans_step (ans_bind (small8_ans (hl.at_ hi).1) (fun _ => ans_ite (fun _ => ih (i + 1) (by omega)) (fun _ => ans_some _))) e
theorem small9_of {l : List Rec} : ∀ (k i : Nat), i ≤ 600 → celluloidref09_Small.l0 k l 600 (i : Int) = some true → l.length ≤ 600 ∧ ∀ r ∈ l.drop i, r.f8.length < 30 ∧ r.f9.length < 30
  | 0, _, _, h => by simp [celluloidref09_Small.l0] at h
  | 1, i, _, h => by
    rw [celluloidref09_Small.l0] at h
    by_cases c : (i : Int) < (l.length : Int)
    · rw [if_pos c] at h; simp [celluloidref09_Small.j1] at h
    · rw [if_neg c] at h; simp [celluloidref09_Small.j1] at h
  | k + 2, i, hi, h => by
    rw [celluloidref09_Small.l0, celluloidref09_Small.j1] at h
    by_cases c : (i : Int) < (l.length : Int)
    · rw [if_pos c] at h
      by_cases d : (i : Int) < 600
      · rw [decide_eq_true d, if_pos rfl, if_pos (nn i), if_pos c, rdR l i (by omega)] at h
        obtain ⟨t, h1, h⟩ := bindS h
        obtain ⟨rfl, h⟩ := iteT h
        rw [ans_next (n := 600) (small_max (by omega)) (by omega)] at h
        have g := small9_of k (i + 1) (by omega) h
        have g1 := small8_of _ _ h1
        refine ⟨g.1, fun r hr => ?_⟩
        rw [drop_rec l i (by omega)] at hr
        rcases List.mem_cons.1 hr with rfl | hr
        · exact g1
        · exact g.2 r hr
      · rw [decide_eq_false d, if_neg (by simp)] at h
        have := of_decide_eq_true (Option.some.inj h)
        omega
    · rw [if_neg c, celluloidref09_Small.j1, if_neg (by simp)] at h
      have := of_decide_eq_true (Option.some.inj h)
      refine ⟨by omega, fun r hr => ?_⟩
      rw [List.drop_of_length_le (by omega)] at hr
      exact absurd hr (by simp)
theorem small_ans {l : List Fil} {m : List Lin} {n : List Rec} (hl : FW l) (hn : RW n) (a b c d e : Int) : Ans (fun k => celluloidlaw15_small.f k a b c d e l m n) := by
  unfold celluloidlaw15_small.f celluloidref09_Small.f
  exact ans_bind (small8_ans hl) (fun _ => ans_ite (fun _ => ans_bind (small9_l0 hn 600 0 (by omega)) (fun _ => ans_some _)) (fun _ => ans_some _))
theorem small_of {k : Nat} {l : List Fil} {m : List Lin} {n : List Rec} {a b c d e : Int} (h : celluloidlaw15_small.f k a b c d e l m n = some true) :
    (l.length < 30 ∧ m.length < 30) ∧ n.length ≤ 600 ∧ ∀ r ∈ n, r.f8.length < 30 ∧ r.f9.length < 30 := by
  unfold celluloidlaw15_small.f at h
  obtain ⟨t, h1, h⟩ := bindS h
  obtain ⟨rfl, h⟩ := iteT h
  obtain ⟨u, h2, h⟩ := bindS h
  obtain rfl := Option.some.inj h
  have g := small9_of k 0 (by omega) h2
  rw [List.drop_zero] at g
  exact ⟨small8_of _ _ h1, g⟩
end Go.Proofs.Ytlldbmodidhidaa.P
namespace Go.Proofs.Ytlldbmodidhidaa.P
open Go.RowKit Go.Proofs.YtlldbmodidhidaaW.PrintWords Go.Proofs.YtlldbmodidhidaaW.PrintLast Go.Proofs.YtlldbmodidhidaaW.PrintMore
abbrev Edg := S51
/-- Where a pen is, its styles, and how many there were ahead. -/
structure Pen where
  x : Int
  y : Int
  l : Int
  r : Int
  n : Int
  fa : Int
  sa : Int
def sty (old n ahead : Int) : Int := if n < 0 then old else if n = 0 then 0 else wrap64 (ahead + n)
theorem style_eq (a n h : Int) : edge_style.f a n h = some (sty a n h) := by
  unfold edge_style.f sty
  by_cases c : n < 0
  · rw [if_pos c, if_pos c]
  · rw [if_neg c, if_neg c]
    by_cases d : n = 0
    · rw [if_pos d, if_pos d]
    · rw [if_neg d, if_neg d]
theorem plus_eq (a b c d : Int) : edge_plus.f a b c d = some (wrap64 (a + c), wrap64 (b + d)) := rfl
def pen (p : Pen) (q : Rec) (nf ns : Int) : Pen :=
  if q.f0 = 1 then ⟨q.f1, q.f2, p.l, p.r, p.n, p.fa, p.sa⟩ else if q.f0 = 2 then ⟨p.x, p.y, sty p.l q.f5 p.fa, sty p.r q.f6 p.fa, sty p.n q.f7 p.sa, p.fa, p.sa⟩
  else if q.f0 = 3 then ⟨p.x, p.y, 0, 0, 0, nf, ns⟩ else if q.f0 = 4 then ⟨wrap64 (p.x + q.f1), wrap64 (p.y + q.f2), p.l, p.r, p.n, p.fa, p.sa⟩
  else ⟨wrap64 (wrap64 (p.x + q.f3) + q.f1), wrap64 (wrap64 (p.y + q.f4) + q.f2), p.l, p.r, p.n, p.fa, p.sa⟩
def edg (p : Pen) (q : Rec) : List Edg :=
  if q.f0 = 4 then [⟨⟨p.x, p.y⟩, ⟨0, 0⟩, ⟨wrap64 (p.x + q.f1), wrap64 (p.y + q.f2)⟩, false, p.l, p.r, p.n⟩]
  else if q.f0 = 5 then [⟨⟨p.x, p.y⟩, ⟨wrap64 (p.x + q.f3), wrap64 (p.y + q.f4)⟩, ⟨wrap64 (wrap64 (p.x + q.f3) + q.f1), wrap64 (wrap64 (p.y + q.f4) + q.f2)⟩, true, p.l, p.r, p.n⟩] else []
def adF (q : Rec) : List Fil := if q.f0 = 3 then q.f8 else []
def adS (q : Rec) : List Lin := if q.f0 = 3 then q.f9 else []
def allE : Pen → List Fil → List Lin → List Rec → List Edg
  | _, _, _, [] => []
  | p, F, S, q :: t => edg p q ++ allE (pen p q (F.length : Int) (S.length : Int)) (F ++ adF q) (S ++ adS q) t
def allF : List Fil → List Rec → List Fil
  | F, [] => F
  | F, q :: t => allF (F ++ adF q) t
def allS' : List Lin → List Rec → List Lin
  | S, [] => S
  | S, q :: t => allS' (S ++ adS q) t
theorem adF_no {q : Rec} (h : q.f0 ≠ 3) : adF q = [] := by unfold adF; rw [if_neg h]
theorem adS_no {q : Rec} (h : q.f0 ≠ 3) : adS q = [] := by unfold adS; rw [if_neg h]
theorem edg_no {q : Rec} (p : Pen) (h : q.f0 ≠ 4) (g : q.f0 ≠ 5) : edg p q = [] := by unfold edg; rw [if_neg h, if_neg g]
theorem edg_len (p : Pen) (q : Rec) : (edg p q).length ≤ 1 := by
  unfold edg
  by_cases c : q.f0 = 4
  · rw [if_pos c]; exact Nat.le_refl _
  · rw [if_neg c]
    by_cases d : q.f0 = 5
    · rw [if_pos d]; exact Nat.le_refl _
    · rw [if_neg d]; exact Nat.zero_le _
theorem allE_len : ∀ (t : List Rec) (p : Pen) (F : List Fil) (S : List Lin), (allE p F S t).length ≤ t.length
  | [], _, _, _ => Nat.le_refl _
  | q :: t, p, F, S => by
    rw [allE, List.length_append, List.length_cons]
    have := edg_len p q
    have := allE_len t (pen p q (F.length : Int) (S.length : Int)) (F ++ adF q) (S ++ adS q)
    omega
theorem of_l0 {l : List Rec} (hl : l.length ≤ 600) (hs : ∀ r ∈ l, r.f8.length < 30 ∧ r.f9.length < 30) : ∀ (d i : Nat) (x y : Int) (F : List Fil) (S : List Lin) (E : List Edg) (p : Pen), d + i = l.length → GoodR x y (l.drop i) →
    F.length ≤ 30 * (i + 1) → S.length ≤ 30 * (i + 1) → E.length ≤ i → ∀ k, edge_Of.l0 (k + d + 1) l (l.length : Int) (i : Int) F S E p.x p.y p.l p.r p.n p.fa p.sa = some (allF F (l.drop i), allS' S (l.drop i), E ++ allE p F S (l.drop i), 0) := by
  intro d
  induction d with
  | zero =>
    intro i x y F S E p h _ _ _ _ k
    rw [edge_Of.l0, if_neg (by omega), List.drop_of_length_le (by omega), allF, allS', allE, List.append_nil]
  | succ d ih =>
    intro i x y F S E p h hg hF hS hE k
    have hi : i < l.length := by omega
    have hsz := hs _ (List.getElem_mem hi)
    rw [drop_rec l i hi] at hg ⊢
    obtain ⟨hsnd, hg⟩ := hg
    have hEl : E.length < 1759218604441 := by omega
    rw [show k + (d + 1) + 1 = (k + d + 1) + 1 by omega, edge_Of.l0, if_pos (lt_of h), if_pos (nn i), if_pos (lt_of h), rdR l i hi, ans_next (n := 1000) (small_max (by omega)) (by omega), allF, allS', allE]
    generalize hq : l[i] = q at *
    rcases hsnd with c | ⟨c, _⟩ | c | ⟨c, _⟩ | c
    · have e : pen p q (F.length : Int) (S.length : Int) = ⟨q.f1, q.f2, p.l, p.r, p.n, p.fa, p.sa⟩ := by unfold pen; rw [if_pos c]
      rw [if_pos c, edg_no p (by omega) (by omega), adF_no (by omega), adS_no (by omega), List.append_nil, List.append_nil, List.nil_append, e]
      exact ih (i + 1) _ _ F S E ⟨q.f1, q.f2, p.l, p.r, p.n, p.fa, p.sa⟩ (by omega) hg (by omega) (by omega) (by omega) k
    · have e : pen p q (F.length : Int) (S.length : Int) = ⟨p.x, p.y, sty p.l q.f5 p.fa, sty p.r q.f6 p.fa, sty p.n q.f7 p.sa, p.fa, p.sa⟩ := by unfold pen; rw [if_neg (by omega), if_pos c]
      rw [if_neg (by omega), if_pos c, style_eq, Option.bind_some, style_eq, Option.bind_some, style_eq, Option.bind_some, edg_no p (by omega) (by omega), adF_no (by omega), adS_no (by omega), List.append_nil, List.append_nil, List.nil_append, e]
      exact ih (i + 1) _ _ F S E ⟨p.x, p.y, sty p.l q.f5 p.fa, sty p.r q.f6 p.fa, sty p.n q.f7 p.sa, p.fa, p.sa⟩ (by omega) hg (by omega) (by omega) (by omega) k
    · have e : pen p q (F.length : Int) (S.length : Int) = ⟨p.x, p.y, 0, 0, 0, (F.length : Int), (S.length : Int)⟩ := by unfold pen; rw [if_neg (by omega), if_neg (by omega), if_pos c]
      have eF : adF q = q.f8 := by unfold adF; rw [if_pos c]
      have eS : adS q = q.f9 := by unfold adS; rw [if_pos c]
      rw [if_neg (by omega), if_neg (by omega), if_pos c, if_pos (by omega), if_pos (by omega), edg_no p (by omega) (by omega), List.nil_append, e, eF, eS]
      exact ih (i + 1) _ _ (F ++ q.f8) (S ++ q.f9) E ⟨p.x, p.y, 0, 0, 0, (F.length : Int), (S.length : Int)⟩ (by omega) hg (by rw [List.length_append]; omega) (by rw [List.length_append]; omega) (by omega) k
    · have e : pen p q (F.length : Int) (S.length : Int) = ⟨wrap64 (p.x + q.f1), wrap64 (p.y + q.f2), p.l, p.r, p.n, p.fa, p.sa⟩ := by unfold pen; rw [if_neg (by omega), if_neg (by omega), if_neg (by omega), if_pos c]
      have eE : edg p q = [⟨⟨p.x, p.y⟩, ⟨0, 0⟩, ⟨wrap64 (p.x + q.f1), wrap64 (p.y + q.f2)⟩, false, p.l, p.r, p.n⟩] := by unfold edg; rw [if_pos c]
      rw [if_neg (by omega), if_neg (by omega), if_neg (by omega), if_pos c, plus_eq, Option.bind_some, if_pos hEl, adF_no (by omega), adS_no (by omega), List.append_nil, List.append_nil, e, eE, ← List.append_assoc]
      exact ih (i + 1) _ _ F S (E ++ [⟨⟨p.x, p.y⟩, ⟨0, 0⟩, ⟨wrap64 (p.x + q.f1), wrap64 (p.y + q.f2)⟩, false, p.l, p.r, p.n⟩]) ⟨wrap64 (p.x + q.f1), wrap64 (p.y + q.f2), p.l, p.r, p.n, p.fa, p.sa⟩ (by omega) hg (by omega) (by omega) (by rw [List.length_append]; exact Nat.succ_le_succ hE) k
    · have e : pen p q (F.length : Int) (S.length : Int) = ⟨wrap64 (wrap64 (p.x + q.f3) + q.f1), wrap64 (wrap64 (p.y + q.f4) + q.f2), p.l, p.r, p.n, p.fa, p.sa⟩ := by unfold pen; rw [if_neg (by omega), if_neg (by omega), if_neg (by omega), if_neg (by omega)]
      have eE : edg p q = [⟨⟨p.x, p.y⟩, ⟨wrap64 (p.x + q.f3), wrap64 (p.y + q.f4)⟩, ⟨wrap64 (wrap64 (p.x + q.f3) + q.f1), wrap64 (wrap64 (p.y + q.f4) + q.f2)⟩, true, p.l, p.r, p.n⟩] := by unfold edg; rw [if_neg (by omega), if_pos c]
      rw [if_neg (by omega), if_neg (by omega), if_neg (by omega), if_neg (by omega), if_pos c, plus_eq, Option.bind_some, plus_eq, Option.bind_some, if_pos hEl, adF_no (by omega), adS_no (by omega), List.append_nil, List.append_nil, e, eE, ← List.append_assoc]
      exact ih (i + 1) _ _ F S (E ++ [⟨⟨p.x, p.y⟩, ⟨wrap64 (p.x + q.f3), wrap64 (p.y + q.f4)⟩, ⟨wrap64 (wrap64 (p.x + q.f3) + q.f1), wrap64 (wrap64 (p.y + q.f4) + q.f2)⟩, true, p.l, p.r, p.n⟩]) ⟨wrap64 (wrap64 (p.x + q.f3) + q.f1), wrap64 (wrap64 (p.y + q.f4) + q.f2), p.l, p.r, p.n, p.fa, p.sa⟩ (by omega) hg (by omega) (by omega) (by rw [List.length_append]; exact Nat.succ_le_succ hE) k
/-- The whole path: what it is, or that the shape is refused. -/
theorem of_eq {l : List Fil} {m : List Lin} {n : List Rec} (hl : FW l) (hm : m.length ≤ maxLen) (hn : RW n) (h1 : l.length < 30 ∧ m.length < 30) (h2 : n.length ≤ 600) (h3 : ∀ r ∈ n, r.f8.length < 30 ∧ r.f9.length < 30) (a b c d e : Int) :
    ∃ N, (GoodR (l.length : Int) (m.length : Int) n ∧ ∀ k, N ≤ k → edge_Of.f k a b c d e l m n = some (allF l n, allS' m n, allE ⟨0, 0, 0, 0, 0, 0, 0⟩ l m n, 0)) ∨ ∀ k, N ≤ k → edge_Of.f k a b c d e l m n = some ([], [], [], 1) := by
  obtain ⟨N, t, ht⟩ := shape_ans hl hm hn a b c d e
  refine ⟨N + n.length + 1, ?_⟩
  cases t with
  | false =>
    refine .inr (fun k hk => ?_)
    unfold edge_Of.f
    have : shape_Right.f k a b c d e l m n = some false := ht k (by omega)
    rw [this, Option.bind_some, if_neg (by simp)]
  | true =>
    have hg := shape_of hn.1 (ht N (Nat.le_refl _))
    refine .inl ⟨hg, fun k hk => ?_⟩
    unfold edge_Of.f
    have : shape_Right.f k a b c d e l m n = some true := ht k (by omega)
    rw [this, Option.bind_some, if_pos rfl, List.nil_append, List.nil_append, List.length_nil, List.length_nil, if_pos (by omega), if_pos (by omega)]
    have g := of_l0 h2 h3 n.length 0 _ _ l m [] ⟨0, 0, 0, 0, 0, 0, 0⟩ (by omega) (by rw [List.drop_zero]; exact hg) (by omega) (by omega) (Nat.le_refl _) (k - n.length - 1)
    rw [List.drop_zero, List.nil_append, show k - n.length - 1 + n.length + 1 = k by omega] at g
    exact g
end Go.Proofs.Ytlldbmodidhidaa.P
namespace Go.Proofs.Ytlldbmodidhidaa.Pure
open Go.RowKit Go.Proofs.Ytlldbmodidhidaa.P Go.Proofs.YtlldbmodidhidaaW.PrintWords Go.Proofs.YtlldbmodidhidaaW.PrintLast Go.Proofs.YtlldbmodidhidaaW.PrintMore
theorem awake_at : celluloidlaw15_awake.f 100 = some true := by kernel_rfl
theorem rounds_up {α : Type} {g : Nat → Option α} (h : ∀ k, LeO (g k) (g (k + 1))) {k k' : Nat} (hk : k ≤ k') {r : α} (hr : g k = some r) : g k' = some r := by
  obtain ⟨d, rfl⟩ : ∃ d, k' = k + d := ⟨k' - k, by omega⟩
  clear hk
  induction d with
  | zero => exact hr
  | succ d ih => exact h (k + d) r ih
/-- From some number of rounds on it is true. -/
def Tru (f : Nat → Option Bool) : Prop := ∃ N, ∀ k, N ≤ k → f k = some true
theorem tru_up (n : Nat) {f g : Nat → Option Bool} (h : Tru g) (e : ∀ k, f (k + n) = g k) : Tru f := by
  obtain ⟨N, d⟩ := h
  refine ⟨N + n, fun k hk => ?_⟩
  obtain ⟨k, rfl⟩ : ∃ m, k = m + n := ⟨k - n, by omega⟩
  rw [e k]
  exact d k (by omega)
theorem tru_awake : Tru (fun k => (celluloidlaw15_awake.f k).bind fun t => some t) :=
  ⟨100, fun k hk => by
    show ((celluloidlaw15_awake.f k).bind fun t => some t) = some true
    rw [rounds_up celluloidlaw15_awake.mono hk awake_at]; rfl⟩
theorem rdE (l : List Edg) (i : Nat) (h : i < l.length) : rd_T51 l (i : Int) = l[i] := by
  unfold rd_T51
  rw [Int.toNat_natCast, List.getD_eq_getElem?_getD, List.getElem?_eq_getElem h, Option.getD_some]
/-- A record, an edge, a pen: shifted. -/
def shR (X Y : Int) (q : Rec) : Rec := if q.f0 = 1 then ⟨q.f0, wrap64 (q.f1 + X), wrap64 (q.f2 + Y), q.f3, q.f4, q.f5, q.f6, q.f7, q.f8, q.f9⟩ else q
def shE (X Y : Int) (e : Edg) : Edg := ⟨⟨wrap64 (e.f0.f0 + X), wrap64 (e.f0.f1 + Y)⟩, (if e.f3 = true then ⟨wrap64 (e.f1.f0 + X), wrap64 (e.f1.f1 + Y)⟩ else e.f1), ⟨wrap64 (e.f2.f0 + X), wrap64 (e.f2.f1 + Y)⟩, e.f3, e.f4, e.f5, e.f6⟩
def shP (X Y : Int) (p : Pen) : Pen := ⟨wrap64 (p.x + X), wrap64 (p.y + Y), p.l, p.r, p.n, p.fa, p.sa⟩
theorem w_sw (a b c : Int) : wrap64 (wrap64 (a + b) + c) = wrap64 (wrap64 (a + c) + b) := by unfold wrap64; omega
theorem w_sw3 (a b c d : Int) : wrap64 (wrap64 (wrap64 (a + b) + c) + d) = wrap64 (wrap64 (wrap64 (a + c) + d) + b) := by unfold wrap64; omega
theorem shR_f0 (X Y : Int) (q : Rec) : (shR X Y q).f0 = q.f0 := by
  unfold shR
  by_cases c : q.f0 = 1
  · rw [if_pos c]
  · rw [if_neg c]
theorem shR_f8 (X Y : Int) (q : Rec) : (shR X Y q).f8 = q.f8 := by
  unfold shR
  by_cases c : q.f0 = 1
  · rw [if_pos c]
  · rw [if_neg c]
theorem shR_f9 (X Y : Int) (q : Rec) : (shR X Y q).f9 = q.f9 := by
  unfold shR
  by_cases c : q.f0 = 1
  · rw [if_pos c]
  · rw [if_neg c]
theorem adF_sh (X Y : Int) (q : Rec) : adF (shR X Y q) = adF q := by unfold adF; rw [shR_f0, shR_f8]
theorem adS_sh (X Y : Int) (q : Rec) : adS (shR X Y q) = adS q := by unfold adS; rw [shR_f0, shR_f9]
theorem pen_sh (X Y : Int) (p : Pen) (q : Rec) (a b : Int) : pen (shP X Y p) (shR X Y q) a b = shP X Y (pen p q a b) := by
  unfold shR
  by_cases c : q.f0 = 1
  · rw [if_pos c]
    unfold pen
    dsimp only
    rw [if_pos c, if_pos c]
    rfl
  · rw [if_neg c]
    unfold pen
    rw [if_neg c, if_neg c]
    by_cases c2 : q.f0 = 2
    · rw [if_pos c2, if_pos c2]; rfl
    · rw [if_neg c2, if_neg c2]
      by_cases c3 : q.f0 = 3
      · rw [if_pos c3, if_pos c3]; rfl
      · rw [if_neg c3, if_neg c3]
        by_cases c4 : q.f0 = 4
        · rw [if_pos c4, if_pos c4]
          unfold shP
          dsimp only
          rw [w_sw p.x X, w_sw p.y Y]
        · rw [if_neg c4, if_neg c4]
          unfold shP
          dsimp only
          rw [w_sw3 p.x X, w_sw3 p.y Y]
theorem edg_sh (X Y : Int) (p : Pen) (q : Rec) : edg (shP X Y p) (shR X Y q) = (edg p q).map (shE X Y) := by
  have e : edg (shP X Y p) (shR X Y q) = edg (shP X Y p) q := by
    unfold shR
    by_cases c : q.f0 = 1
    · rw [if_pos c, edg_no _ (by dsimp only; omega) (by dsimp only; omega), edg_no _ (by omega) (by omega)]
    · rw [if_neg c]
  rw [e]
  unfold edg
  by_cases c4 : q.f0 = 4
  · rw [if_pos c4, if_pos c4]
    unfold shP shE
    simp only [List.map_cons, List.map_nil]
    rw [if_neg (by simp), w_sw p.x X, w_sw p.y Y]
  · rw [if_neg c4, if_neg c4]
    by_cases c5 : q.f0 = 5
    · rw [if_pos c5, if_pos c5]
      unfold shP shE
      simp only [List.map_cons, List.map_nil]
      rw [if_pos (by simp), w_sw p.x X q.f3, w_sw p.y Y q.f4, w_sw (wrap64 (p.x + q.f3)) X, w_sw (wrap64 (p.y + q.f4)) Y]
    · rw [if_neg c5, if_neg c5]; rfl
theorem allE_sh (X Y : Int) : ∀ (t : List Rec) (p : Pen) (F : List Fil) (S : List Lin), allE (shP X Y p) F S (t.map (shR X Y)) = (allE p F S t).map (shE X Y)
  | [], _, _, _ => rfl
  | q :: t, p, F, S => by
    rw [List.map_cons, allE, allE, List.map_append, edg_sh, pen_sh, adF_sh, adS_sh, allE_sh X Y t]
/-- The two shapes' records: one more, ahead. -/
def hd (x y : Int) : Rec := ⟨1, x, y, 0, 0, 0, 0, 0, [], []⟩
theorem allE_hd (x y : Int) (F : List Fil) (S : List Lin) (t : List Rec) : allE ⟨0, 0, 0, 0, 0, 0, 0⟩ F S (hd x y :: t) = allE ⟨x, y, 0, 0, 0, 0, 0⟩ F S t := by
  rw [allE]
  have e1 : edg ⟨0, 0, 0, 0, 0, 0, 0⟩ (hd x y) = [] := edg_no _ (by unfold hd; dsimp only; omega) (by unfold hd; dsimp only; omega)
  have e2 : pen ⟨0, 0, 0, 0, 0, 0, 0⟩ (hd x y) (F.length : Int) (S.length : Int) = ⟨x, y, 0, 0, 0, 0, 0⟩ := by unfold pen hd; dsimp only; rw [if_pos rfl]
  have e3 : adF (hd x y) = [] := adF_no (by unfold hd; dsimp only; omega)
  have e4 : adS (hd x y) = [] := adS_no (by unfold hd; dsimp only; omega)
  rw [e1, e2, e3, e4, List.nil_append, List.append_nil, List.append_nil]
theorem wrap_wrap (a : Int) : wrap64 (0 + wrap64 a) = wrap64 a := by unfold wrap64; omega
theorem edges_sh (a b : Int) (F : List Fil) (S : List Lin) (t : List Rec) :
    allE ⟨0, 0, 0, 0, 0, 0, 0⟩ F S (hd (wrap64 a) (wrap64 b) :: t.map (shR (wrap64 a) (wrap64 b))) = (allE ⟨0, 0, 0, 0, 0, 0, 0⟩ F S (hd 0 0 :: t)).map (shE (wrap64 a) (wrap64 b)) := by
  rw [allE_hd, allE_hd, ← allE_sh]
  have e : shP (wrap64 a) (wrap64 b) ⟨0, 0, 0, 0, 0, 0, 0⟩ = ⟨wrap64 a, wrap64 b, 0, 0, 0, 0, 0⟩ := by unfold shP; dsimp only; rw [wrap_wrap, wrap_wrap]
  rw [e]
/-- What follows the loop over the records. -/
def tail (a b c0 c1 c2 c3 c4 : Int) (F : List Fil) (S : List Lin) (A B : List Rec) (k : Nat) : Option Bool :=
  (edge_Of.f k c0 c1 c2 c3 c4 F S A).bind fun s => (edge_Of.f k c0 c1 c2 c3 c4 F S B).bind fun t =>
    if s.2.2.2 = 0 then celluloidlaw15_EdgeShifts.j2 k a b (t.2.2.2 != 0) s.1 s.2.1 s.2.2.1 t.1 t.2.1 t.2.2.1 else celluloidlaw15_EdgeShifts.j2 k a b true s.1 s.2.1 s.2.2.1 t.1 t.2.1 t.2.2.1
theorem l0_go (a b c0 c1 c2 c3 c4 : Int) (F : List Fil) (S : List Lin) {l : List Rec} (hl : l.length ≤ 600) (k : Nat) : ∀ (d i : Nat) (A B : List Rec), d + i = l.length → A.length ≤ i + 1 → B.length ≤ i + 1 →
    celluloidlaw15_EdgeShifts.l0 (k + d + 1) a b l (l.length : Int) (i : Int) c0 c1 c2 c3 c4 F S A c0 c1 c2 c3 c4 F S B = tail a b c0 c1 c2 c3 c4 F S (A ++ l.drop i) (B ++ (l.drop i).map (shR (wrap64 a) (wrap64 b))) k := by
  intro d
  induction d with
  | zero =>
    intro i A B h _ _
    rw [celluloidlaw15_EdgeShifts.l0, if_neg (by omega), List.drop_of_length_le (by omega), List.map_nil, List.append_nil, List.append_nil]
    rfl
  | succ d ih =>
    intro i A B h hA hB
    have hi : i < l.length := by omega
    have hw := ans_next (i := i) (n := 1000) (small_max (by omega)) (by omega)
    rw [show k + (d + 1) + 1 = (k + d + 1) + 1 by omega, celluloidlaw15_EdgeShifts.l0, if_pos (lt_of h), if_pos (nn i), if_pos (lt_of h), if_pos (by omega), Option.bind_some, rdR l i hi, hw, drop_rec l i hi, List.map_cons]
    generalize l[i] = q
    have e1 : A ++ q :: l.drop (i + 1) = (A ++ [q]) ++ l.drop (i + 1) := by rw [List.append_assoc]; rfl
    have e2 : B ++ shR (wrap64 a) (wrap64 b) q :: (l.drop (i + 1)).map (shR (wrap64 a) (wrap64 b)) = (B ++ [shR (wrap64 a) (wrap64 b) q]) ++ (l.drop (i + 1)).map (shR (wrap64 a) (wrap64 b)) := by rw [List.append_assoc]; rfl
    rw [e1, e2]
    have key := ih (i + 1) (A ++ [q]) (B ++ [shR (wrap64 a) (wrap64 b) q]) (by omega) (by rw [List.length_append]; exact Nat.succ_le_succ hA) (by rw [List.length_append]; exact Nat.succ_le_succ hB)
    rw [← key]
    by_cases c : q.f0 = 1
    · rw [if_pos c, if_pos (by omega)]
      unfold shR
      rw [if_pos c]
    · rw [if_neg c, if_pos (by omega)]
      unfold shR
      rw [if_neg c]
theorem l1_go (a b : Int) (f h : List Fil) (g i : List Lin) (C : List Edg) (hC : C.length ≤ 1000) : ∀ (d j : Nat), d + j = C.length →
    Tru (fun k => celluloidlaw15_EdgeShifts.l1 k a b (C.length : Int) (j : Int) f g C h i (C.map (shE (wrap64 a) (wrap64 b)))) := by
  intro d
  induction d with
  | zero =>
    intro j hj
    refine tru_up 1 tru_awake (fun k => ?_)
    rw [celluloidlaw15_EdgeShifts.l1, if_neg (by omega), if_pos (by rw [List.length_map])]
  | succ d ih =>
    intro j hj
    have hlt : j < C.length := by omega
    have hw := ans_next (i := j) (n := 2000) (by unfold maxLen; omega) (by omega)
    have hD : (j : Int) < ((C.map (shE (wrap64 a) (wrap64 b))).length : Int) := by rw [List.length_map]; omega
    have eD : rd_T51 (C.map (shE (wrap64 a) (wrap64 b))) (j : Int) = shE (wrap64 a) (wrap64 b) C[j] := by
      rw [rdE _ j (by rw [List.length_map]; exact hlt), List.getElem_map]
    refine tru_up 2 (ih (j + 1) (by omega)) (fun k => ?_)
    rw [celluloidlaw15_EdgeShifts.l1, if_pos (by omega), if_neg (by omega), if_pos (nn j), if_pos (by omega), rdE C j hlt]
    generalize C[j] = e at *
    by_cases c : e.f3 = true
    · rw [if_pos c, celluloidlaw15_EdgeShifts.j4, if_pos (nn j), if_pos hD, eD, hw]
      unfold shE
      dsimp only
      rw [if_pos c]
      simp
    · rw [if_neg c, celluloidlaw15_EdgeShifts.j4, if_pos (nn j), if_pos hD, eD, hw]
      unfold shE
      dsimp only
      rw [if_neg c]
      simp
theorem j2_off (a b : Int) (f h : List Fil) (g i : List Lin) (C D : List Edg) : Tru (fun k => celluloidlaw15_EdgeShifts.j2 k a b true f g C h i D) :=
  tru_up 1 tru_awake (fun k => by rw [celluloidlaw15_EdgeShifts.j2, if_pos rfl])
theorem j2_on (a b : Int) (f h : List Fil) (g i : List Lin) (C : List Edg) (hC : C.length ≤ 1000) : Tru (fun k => celluloidlaw15_EdgeShifts.j2 k a b false f g C h i (C.map (shE (wrap64 a) (wrap64 b)))) :=
  tru_up 1 (l1_go a b f h g i C hC C.length 0 (by omega)) (fun k => by rw [celluloidlaw15_EdgeShifts.j2, if_neg (by simp)]; rfl)
theorem tail_ok (a b c0 c1 c2 c3 c4 : Int) {F : List Fil} {S : List Lin} {l : List Rec} (hF : FW F) (hS : S.length ≤ maxLen) (hR : RW l) (h1 : F.length < 30 ∧ S.length < 30) (h2 : l.length ≤ 500) (h3 : ∀ r ∈ l, r.f8.length < 30 ∧ r.f9.length < 30) :
    Tru (tail a b c0 c1 c2 c3 c4 F S (hd 0 0 :: l) (hd (wrap64 a) (wrap64 b) :: l.map (shR (wrap64 a) (wrap64 b)))) := by
  have rw_ : ∀ (x y : Int) (m : List Rec), RW m → m.length ≤ 500 → RW (hd x y :: m) := fun x y m hm hl => by
    refine ⟨by rw [List.length_cons]; unfold maxLen; omega, fun r hr => ?_⟩
    rcases List.mem_cons.mp hr with rfl | hr
    · refine ⟨⟨by unfold hd maxLen; simp, fun y hy => ?_⟩, by unfold hd maxLen; simp⟩
      unfold hd at hy
      exact absurd hy (by simp)
    · exact hm.2 r hr
  have sm_ : ∀ (x y : Int) (m : List Rec), (∀ r ∈ m, r.f8.length < 30 ∧ r.f9.length < 30) → ∀ r ∈ hd x y :: m, r.f8.length < 30 ∧ r.f9.length < 30 := fun x y m hm r hr => by
    rcases List.mem_cons.mp hr with rfl | hr
    · unfold hd; simp
    · exact hm r hr
  have hm : RW (l.map (shR (wrap64 a) (wrap64 b))) := by
    refine ⟨by rw [List.length_map]; exact hR.1, fun r hr => ?_⟩
    obtain ⟨q, hq, rfl⟩ := List.mem_map.mp hr
    rw [shR_f8, shR_f9]
    exact hR.2 q hq
  have hs : ∀ r ∈ l.map (shR (wrap64 a) (wrap64 b)), r.f8.length < 30 ∧ r.f9.length < 30 := fun r hr => by
    obtain ⟨q, hq, rfl⟩ := List.mem_map.mp hr
    rw [shR_f8, shR_f9]
    exact h3 q hq
  have hlm : (l.map (shR (wrap64 a) (wrap64 b))).length ≤ 500 := by rw [List.length_map]; exact h2
  obtain ⟨K, hK⟩ := of_eq hF hS (rw_ 0 0 l hR h2) h1 (by rw [List.length_cons]; omega) (sm_ 0 0 l h3) c0 c1 c2 c3 c4
  obtain ⟨M, hM⟩ := of_eq hF hS (rw_ (wrap64 a) (wrap64 b) _ hm hlm) h1 (by rw [List.length_cons]; omega) (sm_ (wrap64 a) (wrap64 b) _ hs) c0 c1 c2 c3 c4
  rcases hK with ⟨_, hK⟩ | hK
  · rcases hM with ⟨_, hM⟩ | hM
    · rw [edges_sh] at hM
      have hle : (allE ⟨0, 0, 0, 0, 0, 0, 0⟩ F S (hd 0 0 :: l)).length ≤ 1000 := Nat.le_trans (allE_len _ _ _ _) (by rw [List.length_cons]; omega)
      obtain ⟨L, hL⟩ := j2_on a b (allF F (hd 0 0 :: l)) (allF F (hd (wrap64 a) (wrap64 b) :: l.map (shR (wrap64 a) (wrap64 b)))) (allS' S (hd 0 0 :: l)) (allS' S (hd (wrap64 a) (wrap64 b) :: l.map (shR (wrap64 a) (wrap64 b)))) _ hle
      refine ⟨K + M + L, fun k hk => ?_⟩
      unfold tail
      rw [hK k (by omega), Option.bind_some, hM k (by omega), Option.bind_some, if_pos rfl]
      exact hL k (by omega)
    · obtain ⟨L, hL⟩ := j2_off a b (allF F (hd 0 0 :: l)) [] (allS' S (hd 0 0 :: l)) [] (allE ⟨0, 0, 0, 0, 0, 0, 0⟩ F S (hd 0 0 :: l)) []
      refine ⟨K + M + L, fun k hk => ?_⟩
      unfold tail
      rw [hK k (by omega), Option.bind_some, hM k (by omega), Option.bind_some, if_pos rfl]
      exact hL k (by omega)
  · rcases hM with ⟨_, hM⟩ | hM
    · obtain ⟨L, hL⟩ := j2_off a b [] (allF F (hd (wrap64 a) (wrap64 b) :: l.map (shR (wrap64 a) (wrap64 b)))) [] (allS' S (hd (wrap64 a) (wrap64 b) :: l.map (shR (wrap64 a) (wrap64 b)))) [] (allE ⟨0, 0, 0, 0, 0, 0, 0⟩ F S (hd (wrap64 a) (wrap64 b) :: l.map (shR (wrap64 a) (wrap64 b))))
      refine ⟨K + M + L, fun k hk => ?_⟩
      unfold tail
      rw [hK k (by omega), Option.bind_some, hM k (by omega), Option.bind_some, if_neg (by simp)]
      exact hL k (by omega)
    · obtain ⟨L, hL⟩ := j2_off a b [] [] [] [] [] []
      refine ⟨K + M + L, fun k hk => ?_⟩
      unfold tail
      rw [hK k (by omega), Option.bind_some, hM k (by omega), Option.bind_some, if_neg (by simp)]
      exact hL k (by omega)
theorem j0_off (a b c0 c1 c2 c3 c4 : Int) (F : List Fil) (S : List Lin) (l : List Rec) : Tru (fun k => celluloidlaw15_EdgeShifts.j0 k a b true c0 c1 c2 c3 c4 F S l) :=
  tru_up 1 tru_awake (fun k => by rw [celluloidlaw15_EdgeShifts.j0, if_pos rfl])
theorem EdgeShifts : celluloidlaw15_EdgeShifts.Pure := by
  intro s a b hs _ _
  obtain ⟨_, _, ⟨f1, f2⟩, ⟨g1, _⟩, ⟨r1, r2⟩⟩ := hs
  have hl : FW s.f2 := ⟨f1, fun y hy => (f2 y hy).2.2.2.2.1.1⟩
  have hn : RW s.f4 := ⟨r1, fun y hy => ⟨⟨(r2 y hy).2.2.2.2.2.2.2.2.1.1, fun z hz => ((r2 y hy).2.2.2.2.2.2.2.2.1.2 z hz).2.2.2.2.1.1⟩, (r2 y hy).2.2.2.2.2.2.2.2.2.1⟩⟩
  obtain ⟨N, t, ht⟩ := small_ans hl hn s.f0 s.f1.f0 s.f1.f1 s.f1.f2 s.f1.f3 (m := s.f3)
  obtain ⟨M, hM⟩ := j0_off a b s.f0 s.f1.f0 s.f1.f1 s.f1.f2 s.f1.f3 s.f2 s.f3 s.f4
  cases t with
  | false =>
    refine ⟨N + M, ?_⟩
    unfold celluloidlaw15_EdgeShifts.f
    have h1 : celluloidlaw15_small.f (N + M) s.f0 s.f1.f0 s.f1.f1 s.f1.f2 s.f1.f3 s.f2 s.f3 s.f4 = some false := ht _ (by omega)
    rw [h1, Option.bind_some, if_neg (by simp)]
    exact hM _ (by omega)
  | true =>
    obtain ⟨h1, h2, h3⟩ := small_of (ht N (Nat.le_refl _))
    by_cases c : (s.f4.length : Int) > 500
    · refine ⟨N + M, ?_⟩
      unfold celluloidlaw15_EdgeShifts.f
      have e1 : celluloidlaw15_small.f (N + M) s.f0 s.f1.f0 s.f1.f1 s.f1.f2 s.f1.f3 s.f2 s.f3 s.f4 = some true := ht _ (by omega)
      rw [e1, Option.bind_some, if_pos rfl, decide_eq_true c]
      exact hM _ (by omega)
    · obtain ⟨L, hL⟩ := tail_ok a b s.f0 s.f1.f0 s.f1.f1 s.f1.f2 s.f1.f3 hl g1 hn h1 (by omega) h3
      have e0 : ∀ k, celluloidlaw15_EdgeShifts.j0 (k + s.f4.length + 2) a b false s.f0 s.f1.f0 s.f1.f1 s.f1.f2 s.f1.f3 s.f2 s.f3 s.f4 = tail a b s.f0 s.f1.f0 s.f1.f1 s.f1.f2 s.f1.f3 s.f2 s.f3 (hd 0 0 :: s.f4) (hd (wrap64 a) (wrap64 b) :: s.f4.map (shR (wrap64 a) (wrap64 b))) k := fun k => by
        rw [show k + s.f4.length + 2 = (k + s.f4.length + 1) + 1 by omega, celluloidlaw15_EdgeShifts.j0, if_neg (by simp)]
        have g := l0_go a b s.f0 s.f1.f0 s.f1.f1 s.f1.f2 s.f1.f3 s.f2 s.f3 h2 k s.f4.length 0 [hd 0 0] [hd (wrap64 a) (wrap64 b)] (by omega) (Nat.le_refl _) (Nat.le_refl _)
        rw [List.drop_zero] at g
        exact g
      refine ⟨N + L + s.f4.length + 2, ?_⟩
      unfold celluloidlaw15_EdgeShifts.f
      have e1 : celluloidlaw15_small.f (N + L + s.f4.length + 2) s.f0 s.f1.f0 s.f1.f1 s.f1.f2 s.f1.f3 s.f2 s.f3 s.f4 = some true := ht _ (by omega)
      rw [e1, Option.bind_some, if_pos rfl, decide_eq_false c, e0]
      exact hL _ (by omega)
end Go.Proofs.Ytlldbmodidhidaa.Pure
