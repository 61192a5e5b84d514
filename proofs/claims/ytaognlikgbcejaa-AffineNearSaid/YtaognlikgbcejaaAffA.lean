/- Where a point goes by a matrix, on the grid, and where it comes from: what the program's functions come to, and the document's. -/
import Derived.Test.YtaognlikgbcejaaFixB
import Derived.Test.YtaognlikgbcejaaRefRoot
import Derived.Test.YtaognlikgbcejaaPx5
import Derived.Test.YtaognlikgbcejaaPx7
import Derived.Test.YtaognlikgbcejaaPx9
import Derived.Test.YtaognlikgbcejaaPx8
namespace Go.Proofs.Ytaognlikgbcejaa.P
open Go.RowKit Go.Proofs.YtaognlikgbcejaaW.PrintWords Go.Proofs.YtaognlikgbcejaaW.PrintLast Go.Proofs.YtaognlikgbcejaaW.PrintMore

/-! ### right matrices -/
theorem rd_cons_drop (l : List Int) (i : Nat) (h : i < l.length) : l.drop i = rd l (i : Int) :: l.drop (i + 1) := by
  rw [List.drop_eq_getElem_cons h]
  simp [rd, List.getD_eq_getElem?_getD, h]
theorem within_l0 (f t : Int) (l : List Int) (hl : l.length ≤ 1000) : ∀ (d i k : Nat), d + i = l.length → d < k → field_within.l0 k f t l (l.length : Int) (i : Int) = some (decide (∀ x ∈ l.drop i, f ≤ x ∧ x ≤ t)) := by
  intro d
  induction d with
  | zero =>
    intro i k h hk
    obtain ⟨k, rfl⟩ : ∃ m, k = m + 1 := ⟨k - 1, by omega⟩
    simp only [field_within.l0]
    rw [if_neg (by omega), List.drop_of_length_le (by omega)]; simp
  | succ d ih =>
    intro i k h hk
    obtain ⟨k, rfl⟩ : ∃ m, k = m + 1 := ⟨k - 1, by omega⟩
    simp only [field_within.l0]
    rw [if_pos (by omega), if_pos (by omega), if_pos (by omega), w64_id (by omega) (by omega), show (i : Int) + 1 = ((i + 1 : Nat) : Int) by omega, rd_cons_drop l i (by omega)]
    by_cases h1 : rd l (i : Int) < f
    · rw [if_pos h1, decide_eq_false]; intro hc; have := hc _ (List.mem_cons_self ..); omega
    · rw [if_neg h1]
      by_cases h2 : rd l (i : Int) > t
      · rw [if_pos h2, decide_eq_false]; intro hc; have := hc _ (List.mem_cons_self ..); omega
      · rw [if_neg h2, ih (i + 1) k (by omega) (by omega)]
        congr 1; rw [decide_eq_decide]
        constructor
        · intro hh x hx
          rcases List.mem_cons.mp hx with rfl | hx
          · omega
          · exact hh x hx
        · intro hh x hx; exact hh x (List.mem_cons_of_mem _ hx)
theorem within_eq (f t : Int) (l : List Int) (hl : l.length ≤ 1000) (k : Nat) (hk : 1001 ≤ k) : field_within.f k f t l = some (decide (∀ x ∈ l, f ≤ x ∧ x ≤ t)) := by
  unfold field_within.f
  exact within_l0 f t l hl l.length 0 k (by omega) (by omega)

/-- A matrix that is right. -/
def Mat (a b c d x y : Int) : Prop := (-4194304 ≤ a ∧ a ≤ 4194304) ∧ (-4194304 ≤ b ∧ b ≤ 4194304) ∧ (-4194304 ≤ c ∧ c ≤ 4194304) ∧ (-4194304 ≤ d ∧ d ≤ 4194304) ∧ (-1048576 ≤ x ∧ x ≤ 1048576) ∧ (-1048576 ≤ y ∧ y ≤ 1048576)
instance (a b c d x y : Int) : Decidable (Mat a b c d x y) := by unfold Mat; infer_instance
theorem matrix_eq (a b c d x y : Int) (k : Nat) (hk : 1001 ≤ k) : field_RightMatrix.f k a b c d x y = some (decide (Mat a b c d x y)) := by
  unfold field_RightMatrix.f
  rw [within_eq _ _ _ (by simp) k hk, within_eq _ _ _ (by simp) k hk]
  simp only [Option.bind_some, decide_eq_true_eq]
  by_cases h1 : ∀ v ∈ [a, b, c, d], -4194304 ≤ v ∧ v ≤ 4194304
  · rw [if_pos h1]; congr 1; rw [decide_eq_decide]; unfold Mat; simp at h1 ⊢; omega
  · rw [if_neg h1]; congr 1; symm; apply decide_eq_false; unfold Mat; simp at h1; intro h; exact absurd h.2.2.2.1 (by have := h1 h.1.1 h.1.2 h.2.1.1 h.2.1.2 h.2.2.1.1 h.2.2.1.2; omega)
theorem in_eq (n m : Int) (h : 0 ≤ m ∧ m ≤ 1073741824) : celluloidref07_in.f n m = some (decide (-m ≤ n ∧ n ≤ m)) := by
  unfold celluloidref07_in.f
  rw [w64_id (by omega) (by omega)]
  by_cases h1 : n ≥ -m
  · rw [if_pos h1]; congr 1; rw [decide_eq_decide]; omega
  · rw [if_neg h1]; congr 1; symm; apply decide_eq_false; omega
theorem matrix07_eq (a b c d x y : Int) : celluloidref07_Matrix.f a b c d x y = some (decide (Mat a b c d x y)) := by
  unfold celluloidref07_Matrix.f
  rw [in_eq _ _ (by omega), in_eq _ _ (by omega), in_eq _ _ (by omega), in_eq _ _ (by omega), in_eq _ _ (by omega), in_eq _ _ (by omega)]
  simp only [Option.bind_some, decide_eq_true_eq]
  unfold Mat
  by_cases h1 : -4194304 ≤ a ∧ a ≤ 4194304 <;> by_cases h2 : -4194304 ≤ b ∧ b ≤ 4194304 <;> by_cases h3 : -4194304 ≤ c ∧ c ≤ 4194304 <;> by_cases h4 : -4194304 ≤ d ∧ d ≤ 4194304 <;> by_cases h5 : -1048576 ≤ x ∧ x ≤ 1048576 <;> simp [h1, h2, h3, h4, h5]

/-! ### points -/
/-- A point of which no part is further than so much. -/
def Wi (x y m : Int) : Prop := -m ≤ x ∧ x ≤ m ∧ -m ≤ y ∧ y ≤ m
instance (x y m : Int) : Decidable (Wi x y m) := by unfold Wi; infer_instance
theorem awithin_eq (x y m : Int) (h : 0 ≤ m ∧ m ≤ 1073741824) : affine_within.f x y m = some (decide (Wi x y m)) := by
  unfold affine_within.f Wi
  rw [w64_id (by omega) (by omega)]
  repeat' split
  all_goals first
    | exact congrArg some (decide_eq_decide.mpr (by omega))
    | exact congrArg some (decide_eq_false (by omega)).symm
theorem far_eq (x y m : Int) (h : 0 ≤ m ∧ m ≤ 1073741824) : celluloidref14_Far.f x y m = some (decide (¬ Wi x y m)) := by
  unfold celluloidref14_Far.f Wi
  rw [w64_id (by omega) (by omega)]
  repeat' split
  all_goals first
    | exact congrArg some (decide_eq_true (by omega)).symm
    | exact congrArg some (decide_eq_decide.mpr (by omega))

theorem mb {x y B C : Int} (h1 : -B ≤ x) (h2 : x ≤ B) (h3 : -C ≤ y) (h4 : y ≤ C) : -(B * C) ≤ x * y ∧ x * y ≤ B * C := by
  have hB : 0 ≤ B := by omega
  have hx : x.natAbs ≤ B.toNat := by omega
  have hy : y.natAbs ≤ C.toNat := by omega
  have := mul_bound hx hy
  have e : ((B.toNat * C.toNat : Nat) : Int) = B * C := by
    rw [Int.natCast_mul, Int.toNat_of_nonneg (by omega), Int.toNat_of_nonneg (by omega)]
  omega

/-- A part of where a point goes. -/
def go1 (a c x p q : Int) : Int := a * p + c * q + x * 65536
theorem go1_bd {a c x p q : Int} (ha : -4194304 ≤ a ∧ a ≤ 4194304) (hc : -4194304 ≤ c ∧ c ≤ 4194304) (hx : -1048576 ≤ x ∧ x ≤ 1048576) (hw : Wi p q 1073741824) :
    -9007267974217728 ≤ go1 a c x p q ∧ go1 a c x p q ≤ 9007267974217728 ∧ wrap64 (wrap64 (wrap64 (a * p) + wrap64 (c * q)) + wrap64 (x * 65536)) = go1 a c x p q := by
  unfold Wi at hw; unfold go1
  have m1 := mb (y := p) (C := 1073741824) ha.1 ha.2 (by omega) (by omega)
  have m2 := mb (y := q) (C := 1073741824) hc.1 hc.2 (by omega) (by omega)
  refine ⟨by omega, by omega, ?_⟩
  rw [w64_id (n := a * p) (by omega) (by omega), w64_id (n := c * q) (by omega) (by omega), w64_id (n := x * 65536) (by omega) (by omega), w64_id (n := a * p + c * q) (by omega) (by omega), w64_id (by omega) (by omega)]

/-- Where a point goes. -/
def apS (a b c d x y p q : Int) : Int × Int × Int := if Mat a b c d x y ∧ Wi p q 1073741824 then (go1 a c x p q, go1 b d y p q, 0) else (0, 0, 1)
theorem apply_eq (a b c d x y p q : Int) (k : Nat) (hk : 1001 ≤ k) : affine_Apply.f k a b c d x y p q = some (apS a b c d x y p q) := by
  unfold affine_Apply.f apS
  rw [matrix_eq _ _ _ _ _ _ k hk, Option.bind_some]
  by_cases h : Mat a b c d x y
  · rw [decide_eq_true h, if_pos rfl, awithin_eq _ _ _ (by omega), Option.bind_some]
    by_cases h2 : Wi p q 1073741824
    · rw [decide_eq_true h2, if_pos rfl, if_pos ⟨h, h2⟩]
      obtain ⟨ha, hb, hc, hd, hx, hy⟩ := h
      rw [(go1_bd ha hc hx h2).2.2, (go1_bd hb hd hy h2).2.2]
    · rw [decide_eq_false h2, if_neg (by simp), if_neg (fun hh => h2 hh.2)]
  · rw [decide_eq_false h, if_neg (by simp), if_neg (fun hh => h hh.1)]
theorem applyR_eq (a b c d x y p q : Int) : celluloidref14_Apply.f a b c d x y p q = some (apS a b c d x y p q) := by
  unfold celluloidref14_Apply.f apS
  rw [matrix07_eq, Option.bind_some]
  by_cases h : Mat a b c d x y
  · rw [decide_eq_true h, if_pos rfl, far_eq _ _ _ (by omega), Option.bind_some]
    by_cases h2 : Wi p q 1073741824
    · rw [decide_eq_false (fun hh => hh h2), if_neg (by simp), if_pos ⟨h, h2⟩]
      obtain ⟨ha, hb, hc, hd, hx, hy⟩ := h
      rw [Int.mul_comm 65536 x, Int.mul_comm 65536 y, (go1_bd ha hc hx h2).2.2, (go1_bd hb hd hy h2).2.2]
    · rw [decide_eq_true h2, if_pos rfl, if_neg (fun hh => h2 hh.2)]
  · rw [decide_eq_false h, if_neg (by simp), if_neg (fun hh => h hh.1)]
theorem apS_bd (a b c d x y p q : Int) : (-9007267974217728 ≤ (apS a b c d x y p q).1 ∧ (apS a b c d x y p q).1 ≤ 9007267974217728) ∧ (-9007267974217728 ≤ (apS a b c d x y p q).2.1 ∧ (apS a b c d x y p q).2.1 ≤ 9007267974217728) := by
  unfold apS
  split
  · next h =>
    obtain ⟨⟨ha, hb, hc, hd, hx, hy⟩, h2⟩ := h
    have g1 := go1_bd ha hc hx h2
    have g2 := go1_bd hb hd hy h2
    exact ⟨⟨g1.1, g1.2.1⟩, ⟨g2.1, g2.2.1⟩⟩
  · exact ⟨⟨by decide, by decide⟩, ⟨by decide, by decide⟩⟩

/-! ### the grid -/
theorem floorR_eq {a b : Int} (hb : 0 < b) (h0 : -4611686018427387904 ≤ a) (h1 : a ≤ 4611686018427387904) : celluloidref14_floor.f a b = some (a / b) := by
  unfold celluloidref14_floor.f
  rw [if_neg (by omega)]
  have e := Int.ediv_mul_add_emod a b
  have l1 := Int.emod_nonneg a (show b ≠ 0 by omega)
  have l2 := Int.emod_lt_of_pos a hb
  have qb : -4611686018427387904 ≤ a / b ∧ a / b ≤ 4611686018427387904 := by
    constructor
    · rw [Int.le_ediv_iff_mul_le hb]; omega
    · have : a / b < 4611686018427387905 := by
        rw [Int.ediv_lt_iff_lt_mul hb]; omega
      omega
  by_cases h : 0 ≤ a
  · rw [Int.tmod_eq_emod_of_nonneg h, if_neg (by omega), Int.tdiv_eq_ediv_of_nonneg h, w64_id (by omega) (by omega)]
  · have em : Int.tmod a b = -((-a) % b) := by
      have : a = -(-a) := by omega
      rw [this, Int.neg_tmod, Int.tmod_eq_emod_of_nonneg (by omega), Int.neg_neg]
    have ed : Int.tdiv a b = -((-a) / b) := by
      have : a = -(-a) := by omega
      rw [this, Int.neg_tdiv, Int.tdiv_eq_ediv_of_nonneg (by omega), Int.neg_neg]
    have d' := Int.ediv_mul_add_emod (-a) b
    have r1 := Int.emod_nonneg (-a) (show b ≠ 0 by omega)
    have r2 := Int.emod_lt_of_pos (-a) hb
    rw [em, ed]
    by_cases hz : -((-a) % b) < 0
    · have hq : a / b = -((-a) / b) - 1 := by
        have : a = (b - (-a) % b) + (-((-a) / b) - 1) * b := by rw [Int.sub_mul, Int.neg_mul, Int.one_mul]; omega
        rw [this, Int.add_mul_ediv_right _ _ (by omega), Int.ediv_eq_zero_of_lt (by omega) (by omega), ← this]; omega
      rw [if_pos hz, w64_id (n := -((-a) / b)) (by omega) (by omega), w64_id (by omega) (by omega), hq]
    · have hq : a / b = -((-a) / b) := by
        have : a = -((-a) / b) * b := by rw [Int.neg_mul]; omega
        rw [this, Int.mul_ediv_cancel _ (by omega), ← this]
      rw [if_neg hz, w64_id (by omega) (by omega), hq]

/-- On the grid. -/
def snS (n : Int) : Int := 2 * ((16 * n + 327680) / 655360)
theorem snap_eq {n : Int} (h0 : -9007267974217728 ≤ n) (h1 : n ≤ 9007267974217728) (k : Nat) (hk : 20 ≤ k) : affine_snap.f k n = some (snS n) := by
  unfold affine_snap.f snS
  have e : rnd (n * 8) 327680 = (16 * n + 327680) / 655360 := by
    unfold rnd fl; rw [if_pos (by omega), show 2 * (n * 8) + 327680 = 16 * n + 327680 by omega, show (2 * 327680 : Int) = 655360 by omega]
  rw [w64_id (n := n * 8) (by omega) (by omega), round_eq (by unfold I64; omega) (by unfold I64; omega) k hk, Option.bind_some]
  unfold rd2
  rw [if_neg (by omega), e, num_yes (by unfold I64; omega), w64_id (by omega) (by omega)]
theorem snapR_eq {n : Int} (h0 : -9007267974217728 ≤ n) (h1 : n ≤ 9007267974217728) : celluloidref14_Snap.f n = some (snS n) := by
  unfold celluloidref14_Snap.f snS
  rw [w64_id (n := 16 * n) (by omega) (by omega), w64_id (n := 16 * n + 327680) (by omega) (by omega), floorR_eq (by omega) (by omega) (by omega), Option.bind_some, w64_id (by omega) (by omega)]

/-- Where a point goes, on the grid. -/
def grS (a b c d x y p q : Int) : Int × Int × Int :=
  if (apS a b c d x y p q).2.2 = 0 then (if Wi (snS (apS a b c d x y p q).1) (snS (apS a b c d x y p q).2.1) 16777216 then (snS (apS a b c d x y p q).1, snS (apS a b c d x y p q).2.1, 0) else (0, 0, 8)) else (0, 0, (apS a b c d x y p q).2.2)
theorem grid_eq (a b c d x y p q : Int) (k : Nat) (hk : 1001 ≤ k) : affine_Grid.f k a b c d x y p q = some (grS a b c d x y p q) := by
  have hb := apS_bd a b c d x y p q
  unfold affine_Grid.f grS
  rw [apply_eq _ _ _ _ _ _ _ _ k hk, Option.bind_some]
  generalize apS a b c d x y p q = r at *
  by_cases h : r.2.2 = 0
  · rw [if_pos h, if_pos h, snap_eq hb.1.1 hb.1.2 k (by omega), Option.bind_some, snap_eq hb.2.1 hb.2.2 k (by omega), Option.bind_some, awithin_eq _ _ _ (by omega), Option.bind_some]
    by_cases h2 : Wi (snS r.1) (snS r.2.1) 16777216
    · rw [decide_eq_true h2, if_pos rfl, if_pos h2]
    · rw [decide_eq_false h2, if_neg (by simp), if_neg h2]
  · rw [if_neg h, if_neg h]
theorem gridR_eq (a b c d x y p q : Int) : celluloidref14_Grid.f a b c d x y p q = some (grS a b c d x y p q) := by
  have hb := apS_bd a b c d x y p q
  unfold celluloidref14_Grid.f grS
  rw [applyR_eq _ _ _ _ _ _ _ _, Option.bind_some]
  generalize apS a b c d x y p q = r at *
  by_cases h : r.2.2 = 0
  · rw [if_pos h, if_pos h, snapR_eq hb.1.1 hb.1.2, Option.bind_some, snapR_eq hb.2.1 hb.2.2, Option.bind_some, far_eq _ _ _ (by omega), Option.bind_some]
    by_cases h2 : Wi (snS r.1) (snS r.2.1) 16777216
    · rw [decide_eq_false (fun hh => hh h2), if_neg (by simp), if_pos h2]
    · rw [decide_eq_true h2, if_pos rfl, if_neg h2]
  · rw [if_neg h, if_neg h]

/-! ### where a point comes from -/
/-- One unit's part of where it comes from, times the determinant. -/
def bk1 (d c x y p q : Int) : Int := d * (p * 20480 - x * 65536) - c * (q * 20480 - y * 65536)
theorem bk1_bd {d c x y p q : Int} (hd : -4194304 ≤ d ∧ d ≤ 4194304) (hc : -4194304 ≤ c ∧ c ≤ 4194304) (hx : -1048576 ≤ x ∧ x ≤ 1048576) (hy : -1048576 ≤ y ∧ y ≤ 1048576) (hw : Wi p q 16777216) :
    -3458764513820540928 ≤ bk1 d c x y p q ∧ bk1 d c x y p q ≤ 3458764513820540928 ∧ wrap64 (wrap64 (d * wrap64 (wrap64 (p * 20480) - wrap64 (x * 65536))) - wrap64 (c * wrap64 (wrap64 (q * 20480) - wrap64 (y * 65536)))) = bk1 d c x y p q := by
  unfold Wi at hw; unfold bk1
  have m1 := mb (x := d) (y := p * 20480 - x * 65536) (B := 4194304) (C := 412316860416) hd.1 hd.2 (by omega) (by omega)
  have m2 := mb (x := c) (y := q * 20480 - y * 65536) (B := 4194304) (C := 412316860416) hc.1 hc.2 (by omega) (by omega)
  refine ⟨by omega, by omega, ?_⟩
  rw [w64_id (n := p * 20480) (by omega) (by omega), w64_id (n := x * 65536) (by omega) (by omega), w64_id (n := q * 20480) (by omega) (by omega), w64_id (n := y * 65536) (by omega) (by omega), w64_id (n := p * 20480 - x * 65536) (by omega) (by omega), w64_id (n := q * 20480 - y * 65536) (by omega) (by omega), w64_id (n := d * (p * 20480 - x * 65536)) (by omega) (by omega), w64_id (n := c * (q * 20480 - y * 65536)) (by omega) (by omega), w64_id (by omega) (by omega)]
/-- The determinant. -/
def det (a b c d : Int) : Int := a * d - b * c
theorem det_bd {a b c d x y : Int} (h : Mat a b c d x y) : -35184372088832 ≤ det a b c d ∧ det a b c d ≤ 35184372088832 ∧ wrap64 (wrap64 (a * d) - wrap64 (b * c)) = det a b c d ∧ wrap64 (a * d) = a * d ∧ wrap64 (b * c) = b * c := by
  obtain ⟨ha, hb, hc, hd, hx, hy⟩ := h
  unfold det
  have m1 := mb ha.1 ha.2 hd.1 hd.2
  have m2 := mb hb.1 hb.2 hc.1 hc.2
  refine ⟨by omega, by omega, ?_, w64_id (by omega) (by omega), w64_id (by omega) (by omega)⟩
  rw [w64_id (n := a * d) (by omega) (by omega), w64_id (n := b * c) (by omega) (by omega), w64_id (by omega) (by omega)]
/-- Where a point of units comes from. -/
def bkS (a b c d x y p q : Int) : Int × Int × Bool :=
  if Mat a b c d x y ∧ Wi p q 16777216 ∧ det a b c d ≠ 0 then (fl (bk1 d c x y p q) (det a b c d), fl (bk1 a b y x q p) (det a b c d), true) else (0, 0, false)
theorem back_eq (a b c d x y p q : Int) (k : Nat) (hk : 2000 ≤ k) : affine_Back.f k a b c d x y p q = some (bkS a b c d x y p q) := by
  obtain ⟨k, rfl⟩ : ∃ m, k = m + 1 := ⟨k - 1, by omega⟩
  have no : ∀ e : Int, affine_Back.j0 (k + 1) e true a b c d x y p q = some (0, 0, false) := by intro e; rw [affine_Back.j0, if_pos rfl]
  unfold affine_Back.f bkS
  rw [matrix_eq _ _ _ _ _ _ _ (by omega), Option.bind_some]
  by_cases h : Mat a b c d x y
  · rw [decide_eq_true h, if_pos rfl, awithin_eq _ _ _ (by omega), Option.bind_some]
    by_cases h2 : Wi p q 16777216
    · have hdb := det_bd h
      rw [decide_eq_true h2, if_pos rfl, hdb.2.2.1]
      by_cases h3 : det a b c d = 0
      · rw [h3, show ((0 : Int) == 0) = true from rfl, no, if_neg (fun hh => hh.2.2 rfl)]
      · have hne : (det a b c d == 0) = false := by simp [h3]
        rw [hne, affine_Back.j0, if_neg (by simp), if_pos ⟨h, h2, h3⟩]
        obtain ⟨ha, hb, hc, hd, hx, hy⟩ := h
        have h2' : Wi q p 16777216 := by unfold Wi at *; omega
        have b1 := bk1_bd hd hc hx hy h2
        have b2 := bk1_bd ha hb hy hx h2'
        rw [b1.2.2, b2.2.2, floor_eq (by unfold I64; omega) (by unfold I64; omega) k (by omega), floor_eq (by unfold I64; omega) (by unfold I64; omega) k (by omega)]
        unfold md
        rw [if_neg h3, if_neg h3, Int.mul_one, Int.mul_one, num_yes, num_yes]
        · rfl
        · by_cases hi : I64 (fl (bk1 a b y x q p) (det a b c d))
          · exact hi
          · have := fl_over (by unfold I64; omega) (by unfold I64; omega) h3 hi; omega
        · by_cases hi : I64 (fl (bk1 d c x y p q) (det a b c d))
          · exact hi
          · have := fl_over (by unfold I64; omega) (by unfold I64; omega) h3 hi; omega
    · rw [decide_eq_false h2, if_neg (by simp), no, if_neg (fun hh => h2 hh.2.1)]
  · rw [decide_eq_false h, if_neg (by simp), no, if_neg (fun hh => h hh.1)]

/-! ### how much longer a length becomes -/
theorem scale_eq (a b c d x y : Int) (k : Nat) (hk : 4294967296 < k) : affine_Scale.f k a b c d x y = some (if Mat a b c d x y then ((isq (det a b c d).natAbs : Nat) : Int) else 0) := by
  unfold affine_Scale.f
  rw [matrix_eq _ _ _ _ _ _ _ (by omega), Option.bind_some]
  by_cases h : Mat a b c d x y
  · have hb := det_bd h
    rw [decide_eq_true h, if_pos rfl, if_pos h, hb.2.2.1, w64_id (n := -det a b c d) (by omega) (by omega)]
    have e : mx (det a b c d) (-det a b c d) = ((det a b c d).natAbs : Int) := by unfold mx; split <;> omega
    rw [e, root_eq _ (by omega) k hk, Option.bind_some]; rfl
  · rw [decide_eq_false h, if_neg (by simp), if_neg h]

theorem awake_eq (k : Nat) (hk : 4294967296 < k) : celluloidlaw14_awake.f k = some true := by
  unfold celluloidlaw14_awake.f celluloidlaw14_same.f
  simp only [Option.bind_some]
  rw [apply_eq _ _ _ _ _ _ _ _ k (by omega), grid_eq _ _ _ _ _ _ _ _ k (by omega), back_eq _ _ _ _ _ _ _ _ k (by omega), scale_eq _ _ _ _ _ _ k hk]
  have e1 : apS 65536 0 0 65536 0 0 20 40 = (1310720, 2621440, 0) := by decide
  have e2 : grS 65536 0 0 65536 0 0 20 40 = (64, 128, 0) := by decide
  have e3 : bkS 65536 0 0 65536 0 0 64 128 = (20, 40, true) := by decide
  have e4 : isq (det 65536 0 0 65536).natAbs = 65536 := isq_unique (by decide) (by decide)
  rw [e1, e2, e3, if_pos (by decide), e4]
  rfl
end Go.Proofs.Ytaognlikgbcejaa.P
