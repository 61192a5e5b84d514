/- Where any point of units comes from by any matrix is what the document says, or nowhere. -/
import Derived.Test.YtaognlikgbcejaaAffA
import Derived.Test.YtaognlikgbcejaaSayAffineBack
import Derived.Test.YtaognlikgbcejaaPx8
namespace Go.Proofs.Ytaognlikgbcejaa.Pure
open Go.RowKit Go.Proofs.Ytaognlikgbcejaa.P Go.Proofs.YtaognlikgbcejaaW.PrintWords Go.Proofs.YtaognlikgbcejaaW.PrintLast Go.Proofs.YtaognlikgbcejaaW.PrintMore

theorem fl_neg (p : Int) {c : Int} (h : ¬ 0 < c) : fl p c = (-p) / (-c) := by unfold fl; rw [if_neg h]
theorem fl_pos (p : Int) {c : Int} (h : 0 < c) : fl p c = p / c := by unfold fl; rw [if_pos h]

theorem backR_eq (a b c d x y p q : Int) (k : Nat) (hk : 10 ≤ k) : celluloidref14_Back.f k a b c d x y p q = some (bkS a b c d x y p q) := by
  obtain ⟨k, rfl⟩ : ∃ m, k = m + 1 := ⟨k - 1, by omega⟩
  have no : celluloidref14_Back.j0 (k + 1) true a b c d x y p q = some (0, 0, false) := by rw [celluloidref14_Back.j0, if_pos rfl]
  unfold celluloidref14_Back.f bkS
  rw [matrix07_eq, Option.bind_some]
  by_cases h : Mat a b c d x y
  · rw [decide_eq_true h, if_pos rfl, far_eq _ _ _ (by omega), Option.bind_some]
    by_cases h2 : Wi p q 16777216
    · have hdb := det_bd h
      rw [decide_eq_false (fun hh => hh h2), if_neg (by simp), hdb.2.2.2.1, hdb.2.2.2.2]
      by_cases h3 : det a b c d = 0
      · have : (a * d == b * c) = true := by unfold det at h3; simp; omega
        rw [this, no, if_neg (fun hh => hh.2.2 h3)]
      · have hne : (a * d == b * c) = false := by unfold det at h3; simp; omega
        rw [hne, celluloidref14_Back.j0, if_neg (by simp), if_pos (show Mat a b c d x y ∧ Wi p q 16777216 ∧ det a b c d ≠ 0 from ⟨h, h2, h3⟩)]
        obtain ⟨ha, hb, hc, hd, hx, hy⟩ := h
        have h2' : Wi q p 16777216 := by unfold Wi at *; omega
        have b1 := bk1_bd hd hc hx hy h2
        have b2 := bk1_bd ha hb hy hx h2'
        rw [Int.mul_comm 20480 p, Int.mul_comm 20480 q, Int.mul_comm 65536 x, Int.mul_comm 65536 y, hdb.2.2.1, b1.2.2, b2.2.2]
        by_cases hs : det a b c d < 0
        · rw [if_pos hs, w64_id (n := -bk1 d c x y p q) (by omega) (by omega), w64_id (n := -bk1 a b y x q p) (by omega) (by omega), w64_id (n := -det a b c d) (by omega) (by omega), floorR_eq (by omega) (by omega) (by omega), floorR_eq (by omega) (by omega) (by omega), fl_neg _ (by omega), fl_neg _ (by omega)]; rfl
        · rw [if_neg hs, floorR_eq (by omega) (by omega) (by omega), floorR_eq (by omega) (by omega) (by omega), fl_pos _ (by omega), fl_pos _ (by omega)]; rfl
    · rw [decide_eq_true h2, if_pos rfl, no, if_neg (fun hh => h2 hh.2.1)]
  · rw [decide_eq_false h, if_neg (by simp), no, if_neg (fun hh => h hh.1)]

theorem scaleR_eq {a b c d x y : Int} (h : Mat a b c d x y) (k : Nat) (hk : 40 ≤ k) : celluloidref14_Scale.f k a b c d x y = some ((isq (det a b c d).natAbs : Nat) : Int) := by
  have hb := det_bd h
  unfold celluloidref14_Scale.f
  rw [hb.2.2.1]
  by_cases hs : det a b c d < 0
  · rw [if_pos hs, w64_id (by omega) (by omega), ref_root _ (by omega) k hk, show (-det a b c d).toNat = (det a b c d).natAbs by omega]; rfl
  · rw [if_neg hs, ref_root _ (by omega) k hk, show (det a b c d).toNat = (det a b c d).natAbs by omega]; rfl

theorem AffineBack : celluloidlaw14_AffineBack.Pure := by
  intro m p _ _
  obtain ⟨k, hk⟩ : ∃ k : Nat, 4294967296 < k := ⟨_, Nat.lt_succ_self _⟩
  refine ⟨k, ?_⟩
  unfold celluloidlaw14_AffineBack.f
  rw [back_eq _ _ _ _ _ _ _ _ k (by omega), backR_eq _ _ _ _ _ _ _ _ k (by omega), matrix07_eq, scale_eq _ _ _ _ _ _ k hk, awake_eq k hk]
  generalize bkS m.f0 m.f1 m.f2 m.f3 m.f4 m.f5 p.f0 p.f1 = u
  by_cases h : Mat m.f0 m.f1 m.f2 m.f3 m.f4 m.f5
  · rw [scaleR_eq h k (by omega), decide_eq_true h, if_pos h]; simp
  · rw [decide_eq_false h, if_neg h]; simp
end Go.Proofs.Ytaognlikgbcejaa.Pure
