/- Places and colours of gradients: what the folding of a number, the look at a colour and at stops, and the colour at a place come to, in the program and in the document. -/
import Derived.Test.YtdphpilcokloeaaPx4
import Derived.Test.YtdphpilcokloeaaPx8
import Derived.Test.YtdphpilcokloeaaPx9
import Derived.Test.YtdphpilcokloeaaPx6
import Derived.Test.YtdphpilcokloeaaPx7
import Derived.Test.YtdphpilcokloeaaPx10
import Derived.Test.YtdphpilcokloeaaPx11
import Derived.Test.YtdphpilcokloeaaFixB
namespace Go.Proofs.Ytdphpilcokloeaa.P
open Go.RowKit Go.Proofs.YtdphpilcokloeaaW.PrintWords Go.Proofs.YtdphpilcokloeaaW.PrintLast Go.Proofs.YtdphpilcokloeaaW.PrintMore

/-! ### folding -/
theorem and_low (n : Int) (m : Nat) (hm : m ≤ 62) (c : Int) (hc : c = ((2 ^ m - 1 : Nat) : Int)) : Go.bits .and .i64 n c = n % ((2 ^ m : Nat) : Int) := by
  subst hc
  have hp := Nat.two_pow_pos m
  have hp2 : 2 ^ m ≤ 2 ^ 62 := Nat.pow_le_pow_right (by omega) hm
  have h1 : (BitVec.ofInt 64 ((2 ^ m - 1 : Nat) : Int)).toNat = 2 ^ m - 1 := by
    rw [BitVec.toNat_ofInt]
    generalize 2 ^ m = p at *
    have : (2 : Nat) ^ 64 = 18446744073709551616 := by decide
    rw [this]; omega
  have key : (BitVec.ofInt 64 n &&& BitVec.ofInt 64 ((2 ^ m - 1 : Nat) : Int)).toNat = (n % ((2 ^ 64 : Nat) : Int)).toNat % 2 ^ m := by
    rw [BitVec.toNat_and, BitVec.toNat_ofInt, h1, Nat.and_two_pow_sub_one_eq_mod]
  show IntKind.i64.wrap ((BitVec.ofInt 64 n &&& BitVec.ofInt 64 ((2 ^ m - 1 : Nat) : Int)).toNat : Nat) = n % ((2 ^ m : Nat) : Int)
  rw [key, IntKind.wrap_i64]
  have hdvd : ((2 ^ m : Nat) : Int) ∣ ((2 ^ 64 : Nat) : Int) := by
    rw [Int.natCast_dvd_natCast]; exact Nat.pow_dvd_pow 2 (by omega)
  have e : (((n % ((2 ^ 64 : Nat) : Int)).toNat % 2 ^ m : Nat) : Int) = n % ((2 ^ m : Nat) : Int) := by
    rw [Int.natCast_emod, Int.toNat_of_nonneg (Int.emod_nonneg _ (by decide)), Int.emod_emod_of_dvd _ hdvd]
  rw [e]
  have h0 := Int.emod_nonneg n (show ((2 ^ m : Nat) : Int) ≠ 0 by omega)
  have h2 := Int.emod_lt_of_pos n (show 0 < ((2 ^ m : Nat) : Int) by omega)
  have h62 : (2 : Nat) ^ 62 = 4611686018427387904 := by decide
  generalize n % ((2 ^ m : Nat) : Int) = z at *
  generalize 2 ^ m = p at *
  omega
theorem and511 (n : Int) : Go.bits .and .i64 n 511 = n % 512 := and_low n 9 (by omega) 511 (by decide)
theorem and255 (n : Int) : Go.bits .and .i64 n 255 = n % 256 := and_low n 8 (by omega) 255 (by decide)

/-- The place of a number. -/
def foldS (n spread : Int) : Int :=
  if spread = 0 then (if n < 0 then 0 else if n > 255 then 255 else n)
  else if spread = 1 then (if n % 512 > 255 then 511 - n % 512 else n % 512)
  else if spread = 2 then n % 256 else 0
theorem fold_eq (n s : Int) : ramp_Fold.f n s = some (foldS n s) := by
  unfold ramp_Fold.f foldS
  by_cases h0 : s = 0
  · rw [if_pos h0, if_pos h0]; congr 1; unfold mn mx; omega
  · rw [if_neg h0, if_neg h0]
    by_cases h1 : s = 1
    · rw [if_pos h1, if_pos h1, and511, w64_id (by omega) (by omega)]; congr 1; unfold mn; omega
    · rw [if_neg h1, if_neg h1]
      by_cases h2 : s = 2
      · rw [if_pos h2, if_pos h2, and255]
      · rw [if_neg h2, if_neg h2]
theorem mod_ref (n m : Int) (h0 : 0 < m) (h1 : m ≤ 1000) : celluloidref19_modulo.f n m = some (n % m) := by
  unfold celluloidref19_modulo.f
  rw [if_neg (by omega)]
  have l1 := Int.emod_nonneg n (show m ≠ 0 by omega)
  have l2 := Int.emod_lt_of_pos n h0
  by_cases hn : 0 ≤ n
  · rw [Int.tmod_eq_emod_of_nonneg hn, if_neg (by omega)]
  · have e : Int.tmod n m = -((-n) % m) := by
      have : n = -(-n) := by omega
      rw [this, Int.neg_tmod, Int.tmod_eq_emod_of_nonneg (by omega), Int.neg_neg]
    have d := Int.ediv_mul_add_emod (-n) m
    have r1 := Int.emod_nonneg (-n) (show m ≠ 0 by omega)
    have r2 := Int.emod_lt_of_pos (-n) h0
    rw [e]
    by_cases h : -((-n) % m) < 0
    · rw [if_pos h, w64_id (by omega) (by omega)]
      have : n = (m - (-n) % m) + (-((-n) / m) - 1) * m := by rw [Int.sub_mul, Int.neg_mul, Int.one_mul]; omega
      have h2 : n % m = m - (-n) % m := by
        rw [this, Int.add_mul_emod_self_right, Int.emod_eq_of_lt (by omega) (by omega), ← this]
      rw [h2]; congr 1; omega
    · rw [if_neg h]
      have hz : (-n) % m = 0 := by omega
      have : n = -((-n) / m) * m := by rw [Int.neg_mul]; omega
      have h2 : n % m = 0 := by rw [this, Int.mul_emod_left]
      rw [h2, hz]; rfl
theorem fold_ref (n s : Int) : celluloidref19_Fold.f n s = some (foldS n s) := by
  unfold celluloidref19_Fold.f foldS
  by_cases h0 : s = 0
  · rw [if_pos h0, if_pos h0]
    by_cases a : n < 0
    · rw [if_pos a, if_pos a]
    · rw [if_neg a, if_neg a]
      by_cases b : n > 255
      · rw [if_pos b, if_pos b]
      · rw [if_neg b, if_neg b]
  · rw [if_neg h0, if_neg h0]
    by_cases h1 : s = 1
    · rw [if_pos h1, if_pos h1, mod_ref n 512 (by omega) (by omega), Option.bind_some]
      by_cases a : n % 512 > 255
      · rw [if_pos a, if_pos a, w64_id (by omega) (by omega)]
      · rw [if_neg a, if_neg a]
    · rw [if_neg h1, if_neg h1]
      by_cases h2 : s = 2
      · rw [if_pos h2, if_pos h2, mod_ref n 256 (by omega) (by omega), Option.bind_some]
      · rw [if_neg h2, if_neg h2]
theorem foldS_bd (n s : Int) : 0 ≤ foldS n s ∧ foldS n s ≤ 255 := by
  unfold foldS; split
  · split
    · omega
    · split <;> omega
  · split
    · split <;> omega
    · split <;> omega

/-! ### colours -/
/-- Is a colour right? -/
def Col (r g b a : Int) : Prop := (0 ≤ r ∧ r ≤ 255) ∧ (0 ≤ g ∧ g ≤ 255) ∧ (0 ≤ b ∧ b ≤ 255) ∧ (0 ≤ a ∧ a ≤ 255)
instance (r g b a : Int) : Decidable (Col r g b a) := by unfold Col; infer_instance

theorem rd_cons_drop (l : List Int) (i : Nat) (h : i < l.length) : l.drop i = rd l (i : Int) :: l.drop (i + 1) := by
  rw [List.drop_eq_getElem_cons h]
  simp [rd, List.getD_eq_getElem?_getD, h]
theorem within_l0 (f t : Int) (l : List Int) (hl : l.length ≤ 1000) : ∀ (d i k : Nat), d + i = l.length → d < k → field_within.l0 k f t l (l.length : Int) (i : Int) = some (decide (∀ x ∈ l.drop i, f ≤ x ∧ x ≤ t)) := by
  intro d
  induction d with
  | zero =>
    intro i k h hk
    obtain ⟨k, rfl⟩ : ∃ m, k = m + 1 := ⟨k - 1, by omega⟩
    simp only [field_within.l0]
    rw [if_neg (by omega), List.drop_of_length_le (by omega)]; simp
  | succ d ih =>
    intro i k h hk
    obtain ⟨k, rfl⟩ : ∃ m, k = m + 1 := ⟨k - 1, by omega⟩
    simp only [field_within.l0]
    rw [if_pos (by omega), if_pos (by omega), if_pos (by omega), w64_id (by omega) (by omega), show (i : Int) + 1 = ((i + 1 : Nat) : Int) by omega, rd_cons_drop l i (by omega)]
    by_cases h1 : rd l (i : Int) < f
    · rw [if_pos h1, decide_eq_false]; intro hc; have := hc _ (List.mem_cons_self ..); omega
    · rw [if_neg h1]
      by_cases h2 : rd l (i : Int) > t
      · rw [if_pos h2, decide_eq_false]; intro hc; have := hc _ (List.mem_cons_self ..); omega
      · rw [if_neg h2, ih (i + 1) k (by omega) (by omega)]
        congr 1; rw [decide_eq_decide]
        constructor
        · intro hh x hx
          rcases List.mem_cons.mp hx with rfl | hx
          · omega
          · exact hh x hx
        · intro hh x hx; exact hh x (List.mem_cons_of_mem _ hx)
theorem within_eq (f t : Int) (l : List Int) (hl : l.length ≤ 1000) (k : Nat) (hk : 1001 ≤ k) : field_within.f k f t l = some (decide (∀ x ∈ l, f ≤ x ∧ x ≤ t)) := by
  unfold field_within.f
  exact within_l0 f t l hl l.length 0 k (by omega) (by omega)
theorem rgba_eq (r g b a : Int) (k : Nat) (hk : 1001 ≤ k) : field_RightRGBA.f k r g b a = some (decide (Col r g b a)) := by
  unfold field_RightRGBA.f
  rw [within_eq _ _ _ (by simp) k hk, Option.bind_some]
  congr 1; rw [decide_eq_decide]; unfold Col; simp
theorem rgba07_l0 (l : List Int) (hl : l.length ≤ 1000) : ∀ (d i k : Nat), d + i = l.length → d < k → celluloidref07_RGBA.l0 k l (l.length : Int) (i : Int) = some (decide (∀ x ∈ l.drop i, 0 ≤ x ∧ x ≤ 255)) := by
  intro d
  induction d with
  | zero =>
    intro i k h hk
    obtain ⟨k, rfl⟩ : ∃ m, k = m + 1 := ⟨k - 1, by omega⟩
    simp only [celluloidref07_RGBA.l0]
    rw [if_neg (by omega), List.drop_of_length_le (by omega)]; simp
  | succ d ih =>
    intro i k h hk
    obtain ⟨k, rfl⟩ : ∃ m, k = m + 1 := ⟨k - 1, by omega⟩
    simp only [celluloidref07_RGBA.l0]
    rw [if_pos (by omega), if_pos (by omega), if_pos (by omega), w64_id (by omega) (by omega), show (i : Int) + 1 = ((i + 1 : Nat) : Int) by omega, rd_cons_drop l i (by omega)]
    by_cases h1 : rd l (i : Int) < 0
    · rw [if_pos h1, decide_eq_false]; intro hc; have := hc _ (List.mem_cons_self ..); omega
    · rw [if_neg h1]
      by_cases h2 : rd l (i : Int) > 255
      · rw [if_pos h2, decide_eq_false]; intro hc; have := hc _ (List.mem_cons_self ..); omega
      · rw [if_neg h2, ih (i + 1) k (by omega) (by omega)]
        congr 1; rw [decide_eq_decide]
        constructor
        · intro hh x hx
          rcases List.mem_cons.mp hx with rfl | hx
          · omega
          · exact hh x hx
        · intro hh x hx; exact hh x (List.mem_cons_of_mem _ hx)
theorem rgba07_eq (r g b a : Int) (k : Nat) (hk : 1001 ≤ k) : celluloidref07_RGBA.f k r g b a = some (decide (Col r g b a)) := by
  unfold celluloidref07_RGBA.f
  rw [Option.bind_some]
  refine (rgba07_l0 [r, g, b, a] (by simp) 4 0 k rfl (by omega)).trans ?_
  congr 1; rw [decide_eq_decide]; unfold Col; simp

/-! ### stops -/
abbrev Stop := S32
abbrev st (l : List Stop) (i : Int) : Stop := rd_T32 l i
def ColS (s : Stop) : Prop := Col s.f1.f0 s.f1.f1 s.f1.f2 s.f1.f3
instance (s : Stop) : Decidable (ColS s) := by unfold ColS; infer_instance
/-- Are stops right, behind a ratio? -/
def okS : Int → List Stop → Bool
  | _, [] => true
  | a, s :: l => decide (a ≤ s.f0 ∧ s.f0 ≤ 255 ∧ ColS s) && okS s.f0 l
/-- Are stops right? -/
def rightS (l : List Stop) : Bool := okS 0 l && decide (0 < l.length)

theorem st_drop (l : List Stop) (i : Nat) (h : i < l.length) : l.drop i = st l (i : Int) :: l.drop (i + 1) := by
  rw [List.drop_eq_getElem_cons h]
  simp [st, rd_T32, List.getD_eq_getElem?_getD, h]

theorem right_l0 {l : List Stop} (hl : l.length ≤ 100) : ∀ (d i k : Nat) (a : Int), d + i = l.length → d + 1100 ≤ k → ramp_right.l0 k l a l (l.length : Int) (i : Int) = some (okS a (l.drop i) && decide (0 < l.length)) := by
  intro d
  induction d with
  | zero =>
    intro i k a h hk
    obtain ⟨k, rfl⟩ : ∃ m, k = m + 1 := ⟨k - 1, by omega⟩
    simp only [ramp_right.l0]
    rw [if_neg (by omega), List.drop_of_length_le (by omega)]
    simp only [okS, Bool.true_and]
    congr 1; rw [decide_eq_decide]; omega
  | succ d ih =>
    intro i k a h hk
    obtain ⟨k, rfl⟩ : ∃ m, k = m + 1 := ⟨k - 1, by omega⟩
    simp only [ramp_right.l0]
    rw [if_pos (by omega), if_pos (by omega), if_pos (by omega), w64_id (by omega) (by omega), show (i : Int) + 1 = ((i + 1 : Nat) : Int) by omega, st_drop l i (by omega)]
    simp only [okS]
    generalize hs : rd_T32 l (i : Int) = s
    have hs' : st l (i : Int) = s := hs
    rw [hs']
    by_cases h1 : s.f0 < a
    · rw [if_pos h1, decide_eq_false (by omega)]; rfl
    · rw [if_neg h1]
      by_cases h2 : s.f0 > 255
      · rw [if_pos h2, decide_eq_false (by omega)]; rfl
      · rw [if_neg h2, rgba_eq _ _ _ _ k (by omega), Option.bind_some]
        by_cases h3 : ColS s
        · rw [decide_eq_true (show Col _ _ _ _ from h3), if_pos rfl, ih (i + 1) k _ (by omega) (by omega), decide_eq_true (show a ≤ s.f0 ∧ s.f0 ≤ 255 ∧ ColS s from ⟨by omega, by omega, h3⟩), Bool.true_and]
        · rw [decide_eq_false (show ¬ Col _ _ _ _ from h3), if_neg (by simp), decide_eq_false (fun h => h3 h.2.2)]; rfl
theorem right_eq {l : List Stop} (hl : l.length ≤ 100) (k : Nat) (hk : 1300 ≤ k) : ramp_right.f k l = some (rightS l) := by
  unfold ramp_right.f
  exact right_l0 hl l.length 0 k 0 (by omega) (by omega)

theorem right19_l0 {l : List Stop} (hl : l.length ≤ 100) : ∀ (d i k : Nat) (a : Int), d + i = l.length → 0 ≤ a → (0 < i → a = (st l ((i - 1 : Nat) : Int)).f0) → (i = 0 → a = 0) → d + 1100 ≤ k → celluloidref19_Right.l0 k l (i : Int) = some (okS a (l.drop i) && decide (0 < l.length)) := by
  intro d
  induction d with
  | zero =>
    intro i k a h ha h1 h2 hk
    obtain ⟨k, rfl⟩ : ∃ m, k = m + 1 := ⟨k - 1, by omega⟩
    simp only [celluloidref19_Right.l0]
    rw [if_neg (by omega), List.drop_of_length_le (by omega)]
    simp only [okS, Bool.true_and]
    congr 1; rw [decide_eq_decide]; omega
  | succ d ih =>
    intro i k a h ha hp hz hk
    obtain ⟨k, rfl⟩ : ∃ m, k = m + 1 := ⟨k - 1, by omega⟩
    simp only [celluloidref19_Right.l0]
    have hnext : ∀ a', a' = (st l (i : Int)).f0 → 0 ≤ a' → celluloidref19_Right.l0 k l ((i + 1 : Nat) : Int) = some (okS a' (l.drop (i + 1)) && decide (0 < l.length)) :=
      fun a' e1 e2 => ih (i + 1) k a' (by omega) e2 (fun _ => by simpa using e1) (fun h => by omega) (by omega)
    rw [if_pos (by omega), if_pos (by omega), w64_id (n := (i : Int) + 1) (by omega) (by omega), show (i : Int) + 1 = ((i + 1 : Nat) : Int) by omega, st_drop l i (by omega)]
    simp only [okS]
    have hs : st l (i : Int) = rd_T32 l (i : Int) := rfl
    rw [← hs]
    generalize st l (i : Int) = s at *
    have last : ((celluloidref07_RGBA.f k s.f1.f0 s.f1.f1 s.f1.f2 s.f1.f3).bind fun t => if t = true then celluloidref19_Right.l0 k l ((i + 1 : Nat) : Int) else some false) = some (decide (ColS s) && okS s.f0 (l.drop (i + 1)) && decide (0 < l.length)) ∨ s.f0 < 0 := by
      rcases Int.lt_or_le s.f0 0 with hn | hn
      · exact .inr hn
      · left
        rw [rgba07_eq _ _ _ _ k (by omega), Option.bind_some]
        by_cases h3 : ColS s
        · rw [decide_eq_true (show Col _ _ _ _ from h3), if_pos rfl, hnext _ rfl hn, decide_eq_true h3, Bool.true_and]
        · rw [decide_eq_false (show ¬ Col _ _ _ _ from h3), if_neg (by simp), decide_eq_false h3]; rfl
    by_cases h1 : s.f0 < 0
    · rw [if_pos h1, decide_eq_false (by omega)]; rfl
    · rw [if_neg h1]
      have last := last.resolve_right h1
      by_cases h2 : s.f0 > 255
      · rw [if_pos h2, decide_eq_false (by omega)]; rfl
      · rw [if_neg h2]
        by_cases hi : (i : Int) > 0
        · rw [if_pos hi, w64_id (by omega) (by omega), if_pos (by omega), if_pos (by omega)]
          have e := hp (by omega)
          have e1 : (i : Int) - 1 = ((i - 1 : Nat) : Int) := by omega
          rw [e1]
          have e2 : rd_T32 l ((i - 1 : Nat) : Int) = st l ((i - 1 : Nat) : Int) := rfl
          rw [e2, ← e]
          by_cases h4 : s.f0 < a
          · rw [if_pos h4, decide_eq_false (by omega)]; rfl
          · rw [if_neg h4, last]
            by_cases h3 : ColS s
            · rw [decide_eq_true h3, decide_eq_true (show a ≤ s.f0 ∧ s.f0 ≤ 255 ∧ ColS s from ⟨by omega, by omega, h3⟩)]
            · rw [decide_eq_false h3, decide_eq_false (show ¬ (a ≤ s.f0 ∧ s.f0 ≤ 255 ∧ ColS s) from fun h => h3 h.2.2)]
        · rw [if_neg hi, last]
          have e := hz (by omega)
          by_cases h3 : ColS s
          · rw [decide_eq_true h3, decide_eq_true (show a ≤ s.f0 ∧ s.f0 ≤ 255 ∧ ColS s from ⟨by omega, by omega, h3⟩)]
          · rw [decide_eq_false h3, decide_eq_false (show ¬ (a ≤ s.f0 ∧ s.f0 ≤ 255 ∧ ColS s) from fun h => h3 h.2.2)]
theorem right19_eq {l : List Stop} (hl : l.length ≤ 100) (k : Nat) (hk : 1300 ≤ k) : celluloidref19_Right.f k l = some (rightS l) := by
  unfold celluloidref19_Right.f
  exact right19_l0 hl l.length 0 k 0 (by omega) (by omega) (fun h => by omega) (fun _ => rfl) (by omega)

/-- What right stops are. -/
theorem okS_at : ∀ {l : List Stop} {a : Int}, okS a l = true → ∀ i, i < l.length → a ≤ (st l (i : Int)).f0 ∧ (st l (i : Int)).f0 ≤ 255 ∧ ColS (st l (i : Int)) ∧ ∀ j, i ≤ j → j < l.length → (st l (i : Int)).f0 ≤ (st l (j : Int)).f0 := by
  intro l
  induction l with
  | nil => intro a _ i hi; simp at hi
  | cons s l ih =>
    intro a h i hi
    simp only [okS, Bool.and_eq_true, decide_eq_true_eq] at h
    obtain ⟨⟨h1, h2, h3⟩, h4⟩ := h
    have s0 : st (s :: l) ((0 : Nat) : Int) = s := rfl
    have sn : ∀ j : Nat, st (s :: l) ((j + 1 : Nat) : Int) = st l (j : Int) := by
      intro j; unfold st rd_T32; rw [Int.toNat_natCast, Int.toNat_natCast]; rfl
    cases i with
    | zero =>
      rw [s0]
      refine ⟨h1, h2, h3, fun j _ hj => ?_⟩
      cases j with
      | zero => rw [s0]; omega
      | succ j => rw [sn]; exact (ih h4 j (by simpa using hj)).1
    | succ i =>
      rw [sn]
      obtain ⟨g1, g2, g3, g4⟩ := ih h4 i (by simpa using hi)
      refine ⟨by omega, g2, g3, fun j hij hj => ?_⟩
      obtain ⟨j, rfl⟩ : ∃ m, j = m + 1 := ⟨j - 1, by omega⟩
      rw [sn]; exact g4 j (by omega) (by simpa using hj)
end Go.Proofs.Ytdphpilcokloeaa.P
