/- The colour at a place of right stops: the program's and the document's are one: between the stop that is not above the place and the next one. -/
import Derived.Test.YtdphpilcokloeaaRampA
import Derived.Test.YtdphpilcokloeaaPx6
import Derived.Test.YtdphpilcokloeaaPx7
import Derived.Test.YtdphpilcokloeaaPx10
import Derived.Test.YtdphpilcokloeaaPx11
namespace Go.Proofs.Ytdphpilcokloeaa.P
open Go.RowKit Go.Proofs.YtdphpilcokloeaaW.PrintWords Go.Proofs.YtdphpilcokloeaaW.PrintLast Go.Proofs.YtdphpilcokloeaaW.PrintMore

/-- A part of a colour, n of m on the way from a to b. -/
def mixS (a b n m : Int) : Int := a + (b - a) * n / m

theorem mix_bd {a b n m : Int} (ha : 0 ≤ a) (ha1 : a ≤ 255) (hb : 0 ≤ b) (hb1 : b ≤ 255) (hn : 0 ≤ n) (hm : 0 < m) (hnm : n ≤ m) (hm1 : m ≤ 255) :
    -65025 ≤ (b - a) * n ∧ (b - a) * n ≤ 65025 ∧ (b - a) * n / m * m ≤ (b - a) * n ∧ (b - a) * n < ((b - a) * n / m + 1) * m ∧ (a ≤ b → 0 ≤ (b - a) * n / m ∧ (b - a) * n / m ≤ b - a) ∧ (b ≤ a → b - a ≤ (b - a) * n / m ∧ (b - a) * n / m ≤ 0) := by
  have e := Int.ediv_mul_add_emod ((b - a) * n) m
  have l1 := Int.emod_nonneg ((b - a) * n) (show m ≠ 0 by omega)
  have l2 := Int.emod_lt_of_pos ((b - a) * n) hm
  refine ⟨?_, ?_, by omega, ?_, ?_, ?_⟩
  · have := Int.mul_le_mul_of_nonneg_right (show -255 ≤ b - a by omega) hn; omega
  · have := Int.mul_le_mul_of_nonneg_right (show b - a ≤ 255 by omega) hn; omega
  · rw [Int.add_mul, Int.one_mul]; omega
  · intro h
    have h0 : 0 ≤ (b - a) * n := Int.mul_nonneg (by omega) hn
    refine ⟨Int.ediv_nonneg h0 (by omega), ?_⟩
    have h1 : (b - a) * n ≤ (b - a) * m := Int.mul_le_mul_of_nonneg_left hnm (by omega)
    have : (b - a) * n / m ≤ (b - a) * m / m := Int.ediv_le_ediv hm h1
    rwa [Int.mul_ediv_cancel _ (by omega)] at this
  · intro h
    have h1 : (b - a) * m ≤ (b - a) * n := Int.mul_le_mul_of_nonpos_left (by omega) hnm
    have h2 : (b - a) * m / m ≤ (b - a) * n / m := Int.ediv_le_ediv hm h1
    rw [Int.mul_ediv_cancel _ (by omega)] at h2
    refine ⟨h2, ?_⟩
    have h3 : (b - a) * n ≤ 0 := Int.mul_nonpos_of_nonpos_of_nonneg (by omega) hn
    rcases Int.lt_or_le 0 ((b - a) * n / m) with h4 | h4
    · have : 1 * m ≤ (b - a) * n / m * m := Int.mul_le_mul_of_nonneg_right (by omega) (by omega)
      omega
    · exact h4

theorem mix_eq {a b n m : Int} (ha : 0 ≤ a) (ha1 : a ≤ 255) (hb : 0 ≤ b) (hb1 : b ≤ 255) (hn : 0 ≤ n) (hm : 0 < m) (hnm : n ≤ m) (hm1 : m ≤ 255) (k : Nat) (hk : 20 ≤ k) : ramp_mix.f k a b n m = some (mixS a b n m) := by
  obtain ⟨b1, b2, b3, b4, b5, b6⟩ := mix_bd ha ha1 hb hb1 hn hm hnm hm1
  unfold ramp_mix.f mixS
  rw [w64_id (n := b - a) (by omega) (by omega), w64_id (n := (b - a) * n) (by omega) (by omega), floor_eq (by unfold I64; omega) (by unfold I64; omega) k hk, Option.bind_some]
  unfold md fl
  rw [if_neg (by omega), if_pos hm, Int.mul_one]
  rcases Int.le_total a b with h | h
  · have := b5 h; rw [num_yes (by unfold I64; omega), w64_id (by omega) (by omega)]
  · have := b6 h; rw [num_yes (by unfold I64; omega), w64_id (by omega) (by omega)]

theorem between_l1 {a b n m : Int} (ha : 0 ≤ a) (ha1 : a ≤ 255) (hb : 0 ≤ b) (hb1 : b ≤ 255) (hn : 0 ≤ n) (hm : 0 < m) (hnm : n ≤ m) (hm1 : m ≤ 255) : ∀ (d k : Nat) (x : Int), (b - a) * n / m + d = x → x ≤ 255 → (a ≤ b → d = 0) → -255 ≤ x → d < k →
    celluloidref19_between.l1 k a b n m x = some (mixS a b n m) := by
  obtain ⟨b1, b2, b3, b4, b5, b6⟩ := mix_bd ha ha1 hb hb1 hn hm hnm hm1
  intro d
  induction d with
  | zero =>
    intro k x hx h1 h2 h3 hk
    obtain ⟨k, rfl⟩ : ∃ m, k = m + 1 := ⟨k - 1, by omega⟩
    simp only [celluloidref19_between.l1]
    have hx' : x = (b - a) * n / m := by omega
    have hr : wrap64 (a + x) = mixS a b n m := by rw [w64_id (by omega) (by omega), hx']; rfl
    have hxm : x * m ≤ (b - a) * n := by rw [hx']; exact b3
    have hxl : -65025 ≤ x * m ∧ x * m ≤ 65025 := by
      constructor
      · have := Int.mul_le_mul_of_nonneg_right h3 (show 0 ≤ m by omega); omega
      · omega
    rw [if_pos (by omega), hr]
    by_cases hba : b < a
    · rw [if_pos hba, w64_id (n := x * m) (by omega) (by omega), w64_id (n := b - a) (by omega) (by omega), w64_id (n := (b - a) * n) (by omega) (by omega), if_neg (by omega)]
    · rw [if_neg hba]
  | succ d ih =>
    intro k x hx h1 h2 h3 hk
    obtain ⟨k, rfl⟩ : ∃ m, k = m + 1 := ⟨k - 1, by omega⟩
    have hba : b < a := by
      rcases Int.lt_or_le b a with h | h
      · exact h
      · have := h2 h; omega
    simp only [celluloidref19_between.l1]
    have hlt : (b - a) * n < x * m := by
      have : ((b - a) * n / m + 1) * m ≤ x * m := Int.mul_le_mul_of_nonneg_right (by omega) (by omega)
      omega
    have hxl : -65025 ≤ x * m ∧ x * m ≤ 65025 := by
      constructor
      · have := Int.mul_le_mul_of_nonneg_right h3 (show 0 ≤ m by omega); omega
      · have := Int.mul_le_mul_of_nonneg_right h1 (show 0 ≤ m by omega); omega
    have := b6 (by omega)
    rw [if_pos (by omega), if_pos hba, w64_id (n := x * m) (by omega) (by omega), w64_id (n := b - a) (by omega) (by omega), w64_id (n := (b - a) * n) (by omega) (by omega), if_pos (by omega), w64_id (by omega) (by omega)]
    exact ih k (x - 1) (by omega) (by omega) (fun h => by omega) (by omega) (by omega)

theorem between_l0 {a b n m : Int} (ha : 0 ≤ a) (ha1 : a ≤ 255) (hb : 0 ≤ b) (hb1 : b ≤ 255) (hn : 0 ≤ n) (hm : 0 < m) (hnm : n ≤ m) (hm1 : m ≤ 255) (hab : a ≤ b) : ∀ (d k : Nat) (x : Int), x + d = (b - a) * n / m → 0 ≤ x → d + 5 < k →
    celluloidref19_between.l0 k a b n m x = some (mixS a b n m) := by
  obtain ⟨b1, b2, b3, b4, b5, b6⟩ := mix_bd ha ha1 hb hb1 hn hm hnm hm1
  have h5 := b5 hab
  intro d
  induction d with
  | zero =>
    intro k x hx h0 hk
    obtain ⟨k, rfl⟩ : ∃ m, k = m + 2 := ⟨k - 2, by omega⟩
    simp only [celluloidref19_between.l0, celluloidref19_between.j1]
    have hx' : x = (b - a) * n / m := by omega
    have hlt : (b - a) * n < (x + 1) * m := by rw [hx']; exact b4
    have hub : (x + 1) * m ≤ 256 * 255 := by
      have h1 : (x + 1) * m ≤ 256 * m := Int.mul_le_mul_of_nonneg_right (by omega) (by omega)
      omega
    rw [if_pos (by omega), if_pos (by omega), w64_id (n := x + 1) (by omega) (by omega), w64_id (n := (x + 1) * m) (by omega) (by omega), w64_id (n := b - a) (by omega) (by omega), w64_id (n := (b - a) * n) (by omega) (by omega), if_neg (by omega)]
    exact between_l1 ha ha1 hb hb1 hn hm hnm hm1 0 k x (by omega) (by omega) (fun _ => rfl) (by omega) (by omega)
  | succ d ih =>
    intro k x hx h0 hk
    obtain ⟨k, rfl⟩ : ∃ m, k = m + 1 := ⟨k - 1, by omega⟩
    simp only [celluloidref19_between.l0]
    have hle : (x + 1) * m ≤ (b - a) * n := by
      have : (x + 1) * m ≤ (b - a) * n / m * m := Int.mul_le_mul_of_nonneg_right (by omega) (by omega)
      omega
    have hlb : 0 ≤ (x + 1) * m := Int.mul_nonneg (by omega) (by omega)
    rw [if_pos (by omega), if_pos (by omega), w64_id (n := x + 1) (by omega) (by omega), w64_id (n := (x + 1) * m) (by omega) (by omega), w64_id (n := b - a) (by omega) (by omega), w64_id (n := (b - a) * n) (by omega) (by omega), if_pos (by omega)]
    exact ih k (x + 1) (by omega) (by omega) (by omega)

theorem between_eq {a b n m : Int} (ha : 0 ≤ a) (ha1 : a ≤ 255) (hb : 0 ≤ b) (hb1 : b ≤ 255) (hn : 0 ≤ n) (hm : 0 < m) (hnm : n ≤ m) (hm1 : m ≤ 255) (k : Nat) (hk : 600 ≤ k) : celluloidref19_between.f k a b n m = some (mixS a b n m) := by
  obtain ⟨b1, b2, b3, b4, b5, b6⟩ := mix_bd ha ha1 hb hb1 hn hm hnm hm1
  unfold celluloidref19_between.f
  by_cases hab : a ≤ b
  · have := b5 hab
    exact between_l0 ha ha1 hb hb1 hn hm hnm hm1 hab ((b - a) * n / m).toNat k 0 (by omega) (by omega) (by omega)
  · have := b6 (by omega)
    obtain ⟨k, rfl⟩ : ∃ m, k = m + 2 := ⟨k - 2, by omega⟩
    simp only [celluloidref19_between.l0, celluloidref19_between.j1]
    rw [if_pos (by omega), if_neg (by omega)]
    exact between_l1 ha ha1 hb hb1 hn hm hnm hm1 (-((b - a) * n / m)).toNat k 0 (by omega) (by omega) (fun h => by omega) (by omega) (by omega)

/-! ### the colour at a place -/
/-- The colour of a stop. -/
def colOf (s : Stop) : Int × Int × Int × Int := (s.f1.f0, s.f1.f1, s.f1.f2, s.f1.f3)
/-- Between two stops. -/
def mixCol (a b : Stop) (place : Int) : Int × Int × Int × Int :=
  (mixS a.f1.f0 b.f1.f0 (place - a.f0) (b.f0 - a.f0), mixS a.f1.f1 b.f1.f1 (place - a.f0) (b.f0 - a.f0), mixS a.f1.f2 b.f1.f2 (place - a.f0) (b.f0 - a.f0), mixS a.f1.f3 b.f1.f3 (place - a.f0) (b.f0 - a.f0))
/-- The stop that is not above the place, and all behind it are. -/
def At (l : List Stop) (place : Int) (i : Nat) : Prop := i < l.length ∧ (st l (i : Int)).f0 ≤ place ∧ ∀ j, i < j → j < l.length → place < (st l (j : Int)).f0
theorem At.unique {l : List Stop} {place : Int} {i j : Nat} (h : At l place i) (h' : At l place j) : i = j := by
  rcases Nat.lt_trichotomy i j with h1 | h1 | h1
  · have := h.2.2 j h1 h'.1; have := h'.2.1; omega
  · exact h1
  · have := h'.2.2 i h1 h.1; have := h.2.1; omega
/-- The colour there. -/
def colAt (l : List Stop) (place : Int) (i : Nat) : Int × Int × Int × Int := if i + 1 = l.length then colOf (st l (i : Int)) else mixCol (st l (i : Int)) (st l ((i + 1 : Nat) : Int)) place

section
variable {l : List Stop} {place : Int}
theorem mixes (hr : rightS l = true) {i : Nat} (h : At l place i) (hi : i + 1 < l.length) :
    let a := st l (i : Int); let b := st l ((i + 1 : Nat) : Int)
    ColS a ∧ ColS b ∧ 0 ≤ place - a.f0 ∧ 0 < b.f0 - a.f0 ∧ place - a.f0 ≤ b.f0 - a.f0 ∧ b.f0 - a.f0 ≤ 255 ∧ 0 ≤ a.f0 ∧ a.f0 ≤ 255 ∧ 0 ≤ b.f0 ∧ b.f0 ≤ 255 := by
  simp only [rightS, Bool.and_eq_true, decide_eq_true_eq] at hr
  obtain ⟨g1, g2, g3, g4⟩ := okS_at hr.1 i h.1
  obtain ⟨f1, f2, f3, f4⟩ := okS_at hr.1 (i + 1) hi
  have h2 := h.2.1
  have h3 := h.2.2 (i + 1) (by omega) hi
  exact ⟨g3, f3, by omega, by omega, by omega, by omega, by omega, by omega, by omega, by omega⟩

theorem color_j2 (hr : rightS l = true) (hl : l.length ≤ 100) (hp : 0 ≤ place) (hp1 : place ≤ 255) {i : Nat} (h : At l place i) (k : Nat) (hk : 30 ≤ k) : ramp_Color.j2 k l place (i : Int) = some (colAt l place i) := by
  obtain ⟨k, rfl⟩ : ∃ m, k = m + 1 := ⟨k - 1, by omega⟩
  have hi := h.1
  simp only [ramp_Color.j2]
  rw [if_pos (by omega), if_pos (by omega), w64_id (n := (i : Int) + 1) (by omega) (by omega), show (i : Int) + 1 = ((i + 1 : Nat) : Int) by omega]
  unfold colAt
  by_cases he : i + 1 = l.length
  · rw [if_pos (by omega), if_pos he]; rfl
  · rw [if_neg (by omega), if_neg he, if_pos (by omega), if_pos (by omega)]
    obtain ⟨c1, c2, c3, c4, c5, c6, c7, c8, c9, c10⟩ := mixes hr h (by omega)
    have e1 : rd_T32 l (i : Int) = st l (i : Int) := rfl
    have e2 : rd_T32 l ((i + 1 : Nat) : Int) = st l ((i + 1 : Nat) : Int) := rfl
    rw [e1, e2]
    generalize st l (i : Int) = a at *
    generalize st l ((i + 1 : Nat) : Int) = b at *
    unfold ColS Col at c1 c2
    rw [w64_id (n := place - a.f0) (by omega) (by omega), w64_id (n := b.f0 - a.f0) (by omega) (by omega)]
    rw [mix_eq (by omega) (by omega) (by omega) (by omega) c3 c4 c5 c6 k (by omega), Option.bind_some, mix_eq (by omega) (by omega) (by omega) (by omega) c3 c4 c5 c6 k (by omega), Option.bind_some,
      mix_eq (by omega) (by omega) (by omega) (by omega) c3 c4 c5 c6 k (by omega), Option.bind_some, mix_eq (by omega) (by omega) (by omega) (by omega) c3 c4 c5 c6 k (by omega), Option.bind_some]
    rfl

theorem color_l0 (hr : rightS l = true) (hl : l.length ≤ 100) (hp : 0 ≤ place) (hp1 : place ≤ 255) : ∀ (d i k : Nat), d + i = l.length → i < l.length → (st l (i : Int)).f0 ≤ place → d + 40 ≤ k → ∃ j, At l place j ∧ ramp_Color.l0 k l place (i : Int) = some (colAt l place j) := by
  have hr' := hr
  simp only [rightS, Bool.and_eq_true, decide_eq_true_eq] at hr'
  intro d
  induction d with
  | zero => intro i k h hi _ _; omega
  | succ d ih =>
    intro i k h hi hs hk
    obtain ⟨k, rfl⟩ : ∃ m, k = m + 1 := ⟨k - 1, by omega⟩
    simp only [ramp_Color.l0]
    rw [w64_id (n := (i : Int) + 1) (by omega) (by omega), show (i : Int) + 1 = ((i + 1 : Nat) : Int) by omega]
    by_cases h1 : i + 1 < l.length
    · rw [if_pos (by omega), if_pos (by omega)]
      have e2 : rd_T32 l ((i + 1 : Nat) : Int) = st l ((i + 1 : Nat) : Int) := rfl
      rw [e2]
      by_cases h2 : (st l ((i + 1 : Nat) : Int)).f0 ≤ place
      · rw [if_pos h2]; exact ih (i + 1) k (by omega) h1 h2 (by omega)
      · rw [if_neg h2]
        have hat : At l place i := ⟨hi, hs, fun j hj hjl => by
          have := (okS_at hr'.1 (i + 1) h1).2.2.2 j (by omega) hjl; omega⟩
        exact ⟨i, hat, color_j2 hr hl hp hp1 hat k (by omega)⟩
    · rw [if_neg (by omega)]
      have hat : At l place i := ⟨hi, hs, fun j hj hjl => by omega⟩
      exact ⟨i, hat, color_j2 hr hl hp hp1 hat k (by omega)⟩

/-- The program's colour. -/
theorem color_eq (hl : l.length ≤ 100) (k : Nat) (hk : 2000 ≤ k) :
    (rightS l = true ∧ 0 ≤ place ∧ place ≤ 255 → if place ≤ (st l 0).f0 then ramp_Color.f k l place = some (colOf (st l 0)) else ∃ i, At l place i ∧ ramp_Color.f k l place = some (colAt l place i)) ∧
    (¬ (rightS l = true ∧ 0 ≤ place ∧ place ≤ 255) → ramp_Color.f k l place = some (0, 0, 0, 0)) := by
  obtain ⟨k, rfl⟩ : ∃ m, k = m + 1 := ⟨k - 1, by omega⟩
  have zero : ramp_Color.j0 (k + 1) l place true = some (0, 0, 0, 0) := by simp only [ramp_Color.j0, if_true]
  constructor
  · rintro ⟨hr, hp, hp1⟩
    have hr' := hr
    simp only [rightS, Bool.and_eq_true, decide_eq_true_eq] at hr'
    have e : ramp_Color.f (k + 1) l place = if place ≤ (st l 0).f0 then some (colOf (st l 0)) else ramp_Color.l0 k l place 0 := by
      unfold ramp_Color.f
      rw [right_eq hl (k + 1) (by omega), Option.bind_some, if_pos hr, if_neg (by omega), decide_eq_false (by omega)]
      simp only [ramp_Color.j0]
      rw [if_neg (by simp), if_pos (by omega)]; rfl
    by_cases h0 : place ≤ (st l 0).f0
    · rw [if_pos h0]; rw [if_pos h0] at e; exact e
    · rw [if_neg h0]; rw [if_neg h0] at e; rw [e]
      exact color_l0 hr hl hp hp1 l.length 0 k (by omega) (by omega) (by show (st l 0).f0 ≤ place; omega) (by omega)
  · intro h
    unfold ramp_Color.f
    rw [right_eq hl (k + 1) (by omega), Option.bind_some]
    by_cases hr : rightS l = true
    · rw [if_pos hr]
      by_cases hp : place < 0
      · rw [if_pos hp, zero]
      · rw [if_neg hp, decide_eq_true (by
          rcases Int.lt_or_le 255 place with h1 | h1
          · exact h1
          · exact absurd ⟨hr, by omega, h1⟩ h), zero]
    · rw [if_neg hr, zero]

/-- The document's colour. -/
theorem color19_l0 (hr : rightS l = true) (hl : l.length ≤ 100) (hp : 0 ≤ place) (hp1 : place ≤ 255) : ∀ (i k : Nat), i ≤ l.length → (∀ j, i ≤ j → j < l.length → place < (st l (j : Int)).f0) → (∃ j, j < i ∧ (st l (j : Int)).f0 ≤ place) → i + 700 ≤ k → ∃ j, At l place j ∧ celluloidref19_Color.l0 k l place ((i : Int) - 1) = some (colAt l place j) := by
  intro i
  induction i with
  | zero => rintro k _ _ ⟨j, hj, _⟩ _; omega
  | succ i ih =>
    rintro k hi habove ⟨j, hj, hjp⟩ hk
    obtain ⟨k, rfl⟩ : ∃ m, k = m + 1 := ⟨k - 1, by omega⟩
    simp only [celluloidref19_Color.l0]
    rw [show ((i + 1 : Nat) : Int) - 1 = (i : Int) by omega, if_pos (by omega), if_pos (by omega), if_pos (by omega)]
    have e1 : rd_T32 l (i : Int) = st l (i : Int) := rfl
    rw [e1]
    by_cases h1 : (st l (i : Int)).f0 > place
    · rw [if_pos h1, w64_id (by omega) (by omega)]
      refine ih k (by omega) (fun m hm hml => ?_) ⟨j, ?_, hjp⟩ (by omega)
      · rcases Nat.lt_or_ge i m with h | h
        · exact habove m (by omega) hml
        · have : m = i := by omega
          subst this; omega
      · rcases Nat.lt_or_ge j i with h | h
        · exact h
        · have : j = i := by omega
          subst this; omega
    · have hat : At l place i := ⟨by omega, by omega, fun m hm hml => habove m (by omega) hml⟩
      refine ⟨i, hat, ?_⟩
      rw [if_neg h1, w64_id (n := (l.length : Int) - 1) (by omega) (by omega), w64_id (n := (i : Int) + 1) (by omega) (by omega), show (i : Int) + 1 = ((i + 1 : Nat) : Int) by omega]
      unfold colAt
      by_cases he : i + 1 = l.length
      · rw [if_pos (by omega), if_pos he]; rfl
      · rw [if_neg (by omega), if_neg he, if_pos (by omega), if_pos (by omega)]
        obtain ⟨c1, c2, c3, c4, c5, c6, c7, c8, c9, c10⟩ := mixes hr hat (by omega)
        have e2 : rd_T32 l ((i + 1 : Nat) : Int) = st l ((i + 1 : Nat) : Int) := rfl
        rw [e2]
        generalize st l (i : Int) = a at *
        generalize st l ((i + 1 : Nat) : Int) = b at *
        unfold ColS Col at c1 c2
        rw [w64_id (n := place - a.f0) (by omega) (by omega), w64_id (n := b.f0 - a.f0) (by omega) (by omega)]
        rw [between_eq (by omega) (by omega) (by omega) (by omega) c3 c4 c5 c6 k (by omega), Option.bind_some, between_eq (by omega) (by omega) (by omega) (by omega) c3 c4 c5 c6 k (by omega), Option.bind_some,
          between_eq (by omega) (by omega) (by omega) (by omega) c3 c4 c5 c6 k (by omega), Option.bind_some, between_eq (by omega) (by omega) (by omega) (by omega) c3 c4 c5 c6 k (by omega), Option.bind_some]
        rfl

theorem color19_eq (hr : rightS l = true) (hl : l.length ≤ 100) (hp : 0 ≤ place) (hp1 : place ≤ 255) (k : Nat) (hk : 2000 ≤ k) :
    if place ≤ (st l 0).f0 then celluloidref19_Color.f k l place = some (colOf (st l 0)) else ∃ i, At l place i ∧ celluloidref19_Color.f k l place = some (colAt l place i) := by
  have hr' := hr
  simp only [rightS, Bool.and_eq_true, decide_eq_true_eq] at hr'
  have e : celluloidref19_Color.f k l place = if place ≤ (st l 0).f0 then some (colOf (st l 0)) else celluloidref19_Color.l0 k l place ((l.length : Int) - 1) := by
    unfold celluloidref19_Color.f
    rw [if_pos (by omega), w64_id (by omega) (by omega)]; rfl
  by_cases h0 : place ≤ (st l 0).f0
  · rw [if_pos h0]; rw [if_pos h0] at e; exact e
  · rw [if_neg h0]; rw [if_neg h0] at e; rw [e]
    exact color19_l0 hr hl hp hp1 l.length k (Nat.le_refl _) (fun j h1 h2 => by omega) ⟨0, hr'.2, by show (st l 0).f0 ≤ place; omega⟩ (by omega)

/-- Both are one. -/
theorem colors_agree (hr : rightS l = true) (hl : l.length ≤ 100) (hp : 0 ≤ place) (hp1 : place ≤ 255) (k k' : Nat) (hk : 2000 ≤ k) (hk' : 2000 ≤ k') : ∃ c, ramp_Color.f k l place = some c ∧ celluloidref19_Color.f k' l place = some c := by
  have h1 := (color_eq (place := place) hl k hk).1 ⟨hr, hp, hp1⟩
  have h2 := color19_eq hr hl hp hp1 k' hk'
  by_cases h0 : place ≤ (st l 0).f0
  · rw [if_pos h0] at h1 h2; exact ⟨_, h1, h2⟩
  · rw [if_neg h0] at h1 h2
    obtain ⟨i, a1, a2⟩ := h1
    obtain ⟨j, b1, b2⟩ := h2
    have := a1.unique b1
    subst this
    exact ⟨_, a2, b2⟩
end
end Go.Proofs.Ytdphpilcokloeaa.P
