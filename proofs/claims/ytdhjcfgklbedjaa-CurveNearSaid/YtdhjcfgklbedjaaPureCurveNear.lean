/- Each point is at most one unit beside where the curve is; the middle of each piece at most three beside the curve's. -/
import Derived.Test.YtdhjcfgklbedjaaCurveB
import Derived.Test.YtdhjcfgklbedjaaSayCurveNear
import Derived.Test.YtdhjcfgklbedjaaPx8
namespace Go.Proofs.Ytdhjcfgklbedjaa.Pure
open Go.RowKit Go.Proofs.Ytdhjcfgklbedjaa.P Go.Proofs.YtdhjcfgklbedjaaW.PrintWords Go.Proofs.YtdhjcfgklbedjaaW.PrintLast Go.Proofs.YtdhjcfgklbedjaaW.PrintMore

/-- A number of the law's points. -/
def Pl (a : Int) : Prop := -1048576 ≤ a ∧ a ≤ 1048576
theorem Pl.pn {a : Int} (h : Pl a) : Pn a := by unfold Pl at h; unfold Pn; omega

theorem way_eq {a b c i n : Int} (ha : Pn a) (hb : Pn b) (hc : Pn c) (hi : 0 ≤ i) (hn : i ≤ n) (h1 : 1 ≤ n) (h2 : n ≤ 64) : celluloidlaw16_way.f a b c i n = some (wy a b c i n) := by
  unfold celluloidlaw16_way.f; rw [way_wrap ha hb hc hi hn h1 h2]

theorem beside_no {a b m : Int} (h1 : a - b ≤ m) (h2 : b - a ≤ m) (ha : -1000000000000000 ≤ a ∧ a ≤ 1000000000000000) (hb : -1000000000000000 ≤ b ∧ b ≤ 1000000000000000) : celluloidlaw16_beside.f a b m = some false := by
  unfold celluloidlaw16_beside.f
  rw [w64_id (n := a - b) (by omega) (by omega), w64_id (n := b - a) (by omega) (by omega), if_neg (by omega), decide_eq_false (by omega)]

/-- How far a point lies beside the curve's, times n times n. -/
theorem pt_near {a b c i n : Int} (h1 : 1 ≤ n) (h2 : n ≤ 64) : pt a b c i n * (n * n) - wy a b c i n ≤ n * n ∧ wy a b c i n - pt a b c i n * (n * n) ≤ n * n := by
  have hp := nn_pos h1 h2
  unfold pt
  rw [two_nn]
  generalize n * n = s at *
  obtain ⟨l, u⟩ := rnd_spec (wy a b c i n) (c := 2 * s) (by omega)
  generalize wy a b c i n = w at *
  generalize rnd w (2 * s) = r at *
  have e : r * (2 * s) = 2 * r * s := by rw [← Int.mul_assoc, Int.mul_comm r 2]
  omega

theorem wy_twice (a b c i n : Int) : wy a b c (2 * i) (2 * n) = 4 * wy a b c i n := by unfold wy; grind
theorem wy_mid (a b c i n : Int) : 2 * (wy a b c (i + 1) n + wy a b c i n) = wy a b c (2 * i + 1) (2 * n) + (a - 2 * b + c) := by unfold wy; grind

/-- One part of one step: where was the last point, and the next. -/
theorem step_ok {a b c i n was : Int} (ha : Pl a) (hb : Pl b) (hc : Pl c) (hi : 0 ≤ i) (hn : i < n) (h1 : 1 ≤ n) (h2 : n ≤ 32)
    (w1 : was * (n * n) - wy a b c i n ≤ n * n) (w2 : wy a b c i n - was * (n * n) ≤ n * n) (hw : Pl was) (hb1 : a - 2 * b + c ≤ 8 * (n * n)) (hb2 : -(a - 2 * b + c) ≤ 8 * (n * n)) (hpt : Pl (pt a b c (1 + i) n)) :
    celluloidlaw16_way.f a b c (wrap64 (wrap64 (2 * i) + 2)) (wrap64 (2 * n)) = some (4 * wy a b c (1 + i) n) ∧
    celluloidlaw16_way.f a b c (wrap64 (wrap64 (2 * i) + 1)) (wrap64 (2 * n)) = some (wy a b c (2 * i + 1) (2 * n)) ∧
    celluloidlaw16_beside.f (wrap64 (pt a b c (1 + i) n * wrap64 (wrap64 (4 * n) * n))) (4 * wy a b c (1 + i) n) (wrap64 (wrap64 (4 * n) * n)) = some false ∧
    celluloidlaw16_beside.f (wrap64 (Int.tdiv (wrap64 (wrap64 (pt a b c (1 + i) n + was) * wrap64 (wrap64 (4 * n) * n))) 2)) (wy a b c (2 * i + 1) (2 * n)) (wrap64 (3 * wrap64 (wrap64 (4 * n) * n))) = some false := by
  have hp := nn_pos h1 (by omega)
  obtain ⟨p1, p2⟩ := pt_near (a := a) (b := b) (c := c) (i := 1 + i) (n := n) h1 (by omega)
  have b1 := wy_bd (i := 1 + i) (n := n) ha.pn hb.pn hc.pn (by omega) (by omega) h1 (by omega)
  have b2 := wy_bd (i := 2 * i + 1) (n := 2 * n) ha.pn hb.pn hc.pn (by omega) (by omega) (by omega) (by omega)
  have mid := wy_mid a b c i n
  have e4 : 4 * n * n = 4 * (n * n) := Int.mul_assoc _ _ _
  rw [w64_id (n := 2 * i) (by omega) (by omega), w64_id (n := 2 * n) (by omega) (by omega), w64_id (n := 2 * i + 2) (by omega) (by omega), w64_id (n := 2 * i + 1) (by omega) (by omega), w64_id (n := 4 * n) (by omega) (by omega), e4, w64_id (n := 4 * (n * n)) (by omega) (by omega), w64_id (n := 3 * (4 * (n * n))) (by omega) (by omega)]
  rw [show i + 1 = 1 + i by omega] at mid
  refine ⟨?_, way_eq ha.pn hb.pn hc.pn (by omega) (by omega) (by omega) (by omega), ?_, ?_⟩
  · rw [way_eq ha.pn hb.pn hc.pn (by omega) (by omega) (by omega) (by omega), show 2 * i + 2 = 2 * (1 + i) by omega, wy_twice]
  · generalize pt a b c (1 + i) n = p at *
    generalize n * n = s at *
    have m1 := mb (x := p) (y := s) (B := 1048576) (C := 4096) hpt.1 hpt.2 (by omega) (by omega)
    have e : p * (4 * s) = 4 * (p * s) := by rw [← Int.mul_assoc, Int.mul_comm p 4, Int.mul_assoc]
    rw [e, w64_id (by omega) (by omega)]
    exact beside_no (by omega) (by omega) (by omega) (by omega)
  · generalize pt a b c (1 + i) n = p at *
    generalize n * n = s at *
    have m1 := mb (x := p) (y := s) (B := 1048576) (C := 4096) hpt.1 hpt.2 (by omega) (by omega)
    have m2 := mb (x := was) (y := s) (B := 1048576) (C := 4096) hw.1 hw.2 (by omega) (by omega)
    have e : (p + was) * (4 * s) = 2 * (2 * (p * s) + 2 * (was * s)) := by grind
    unfold Pl at hpt hw
    rw [w64_id (n := p + was) (by omega) (by omega), e, w64_id (n := 2 * (2 * (p * s) + 2 * (was * s))) (by omega) (by omega), Int.mul_tdiv_cancel_left _ (by omega), w64_id (by omega) (by omega)]
    exact beside_no (by omega) (by omega) (by omega) (by omega)

theorem CurveNear : celluloidlaw16_CurveNear.Pure := by
  intro x0 x1 x2 _ _ _
  refine ⟨2000, ?_⟩
  unfold celluloidlaw16_CurveNear.f
  generalize x0.f0 = a0
  generalize x0.f1 = a1
  generalize x1.f0 = b0
  generalize x1.f1 = b1
  generalize x2.f0 = c0
  generalize x2.f1 = c1
  have quit : ∀ (a0 a1 b0 b1 c0 c1 : Int), celluloidlaw16_CurveNear.j0 2000 true a0 a1 b0 b1 c0 c1 = some true := by
    intro a0 a1 b0 b1 c0 c1
    show celluloidlaw16_CurveNear.j0 (1999 + 1) true a0 a1 b0 b1 c0 c1 = some true
    rw [celluloidlaw16_CurveNear.j0, if_pos rfl, awake_eq 1999 (by omega)]; rfl
  rw [right_eq _ _ _ _ _ _ 2000 (by omega), Option.bind_some]
  by_cases h : Ev3 a0 a1 b0 b1 c0 c1
  · rw [decide_eq_true h, if_pos rfl]
    by_cases hm : mx (mx (mx (mx (mx a0 b0) c0) a1) b1) c1 > 1048576
    · rw [if_pos hm, quit]
    rw [if_neg hm]
    by_cases hm' : mn (mn (mn (mn (mn a0 b0) c0) a1) b1) c1 < -1048576
    · rw [if_pos hm', quit]
    rw [if_neg hm', bend_eq, if_pos h, Option.bind_some]
    by_cases hd : bd a0 a1 b0 b1 c0 c1 > 8192
    · rw [decide_eq_true hd, quit]
    rw [decide_eq_false hd]
    have pl : Pl a0 ∧ Pl b0 ∧ Pl c0 ∧ Pl a1 ∧ Pl b1 ∧ Pl c1 := by
      have u : ∀ x y M : Int, ¬ mx x y > M → ¬ x > M ∧ y ≤ M := by intro x y M h; unfold mx at h; split at h <;> omega
      have v : ∀ x y M : Int, ¬ mn x y < M → ¬ x < M ∧ M ≤ y := by intro x y M h; unfold mn at h; split at h <;> omega
      obtain ⟨q1, u1⟩ := u _ _ _ hm
      obtain ⟨q2, u2⟩ := u _ _ _ q1
      obtain ⟨q3, u3⟩ := u _ _ _ q2
      obtain ⟨q4, u4⟩ := u _ _ _ q3
      obtain ⟨q5, u5⟩ := u _ _ _ q4
      obtain ⟨r1, v1⟩ := v _ _ _ hm'
      obtain ⟨r2, v2⟩ := v _ _ _ r1
      obtain ⟨r3, v3⟩ := v _ _ _ r2
      obtain ⟨r4, v4⟩ := v _ _ _ r3
      obtain ⟨r5, v5⟩ := v _ _ _ r4
      unfold Pl
      refine ⟨⟨by omega, by omega⟩, ⟨by omega, by omega⟩, ⟨by omega, by omega⟩, ⟨by omega, by omega⟩, ⟨by omega, by omega⟩, ⟨by omega, by omega⟩⟩
    obtain ⟨pa0, pb0, pc0, pa1, pb1, pc1⟩ := pl
    have hl := cur_len a0 a1 b0 b1 c0 c1
    have hp := pcs_bd (bd a0 a1 b0 b1 c0 c1)
    have hat := cur_at a0 a1 b0 b1 c0 c1
    have hbend : bd a0 a1 b0 b1 c0 c1 ≤ 8 * (pcs (bd a0 a1 b0 b1 c0 c1) * pcs (bd a0 a1 b0 b1 c0 c1)) := by
      generalize bd a0 a1 b0 b1 c0 c1 = d at *
      unfold pcs; repeat' split
      all_goals omega
    have hb4 : a0 - 2 * b0 + c0 ≤ bd a0 a1 b0 b1 c0 c1 ∧ -(a0 - 2 * b0 + c0) ≤ bd a0 a1 b0 b1 c0 c1 ∧ a1 - 2 * b1 + c1 ≤ bd a0 a1 b0 b1 c0 c1 ∧ -(a1 - 2 * b1 + c1) ≤ bd a0 a1 b0 b1 c0 c1 := by
      have u : ∀ x y : Int, x ≤ mx x y ∧ y ≤ mx x y := by intro x y; unfold mx; split <;> omega
      unfold bd
      have u1 := u (a0 - 2 * b0 + c0) (-(a0 - 2 * b0 + c0))
      have u2 := u (a1 - 2 * b1 + c1) (-(a1 - 2 * b1 + c1))
      have u3 := u (mx (a0 - 2 * b0 + c0) (-(a0 - 2 * b0 + c0))) (mx (a1 - 2 * b1 + c1) (-(a1 - 2 * b1 + c1)))
      omega
    show celluloidlaw16_CurveNear.j0 (1999 + 1) false a0 a1 b0 b1 c0 c1 = some true
    rw [celluloidlaw16_CurveNear.j0, if_neg (by simp), flat_eq h 1999 (by omega), Option.bind_some]
    generalize cur a0 a1 b0 b1 c0 c1 = l at *
    generalize pcs (bd a0 a1 b0 b1 c0 c1) = n at *
    rw [hl]
    have go : ∀ (d i k : Nat) (w0 w1 : Int), i + d = l.length → 2 * d + 200 ≤ k → Pl w0 → Pl w1 → w0 * (n * n) - wy a0 b0 c0 i n ≤ n * n → wy a0 b0 c0 i n - w0 * (n * n) ≤ n * n → w1 * (n * n) - wy a1 b1 c1 i n ≤ n * n → wy a1 b1 c1 i n - w1 * (n * n) ≤ n * n →
        celluloidlaw16_CurveNear.l0 k n l n (i : Int) a0 a1 b0 b1 c0 c1 w0 w1 = some true := by
      intro d
      induction d with
      | zero =>
        intro i k w0 w1 hi hk _ _ _ _ _ _
        obtain ⟨k, rfl⟩ : ∃ m, k = m + 1 := ⟨k - 1, by omega⟩
        rw [celluloidlaw16_CurveNear.l0, if_neg (by omega), if_pos (by omega), awake_eq k (by omega)]; rfl
      | succ d ih =>
        intro i k w0 w1 hi hk g0 g1 f1 f2 f3 f4
        obtain ⟨k, rfl⟩ : ∃ m, k = m + 2 := ⟨k - 2, by omega⟩
        have lp : ∀ {a b c : Int}, Pl a → Pl b → Pl c → Pl (pt a b c (1 + i) n) := by
          intro a b c ha hb hc
          unfold Pl at ha hb hc ⊢
          have l := pt_lo (lo := -524288) (i := 1 + i) (n := n) ha.1 hb.1 hc.1 (by omega) (by omega) (by omega) (by omega)
          have u := pt_hi (hi' := 524288) (i := 1 + i) (n := n) ha.2 hb.2 hc.2 (by omega) (by omega) (by omega) (by omega)
          omega
        have px := lp pa0 pb0 pc0
        have py := lp pa1 pb1 pc1
        obtain ⟨t1, t2, t3, t4⟩ := step_ok (i := i) (n := n) (was := w0) pa0 pb0 pc0 (by omega) (by omega) (by omega) (by omega) f1 f2 g0 (by omega) (by omega) px
        obtain ⟨s1, s2, s3, s4⟩ := step_ok (i := i) (n := n) (was := w1) pa1 pb1 pc1 (by omega) (by omega) (by omega) (by omega) f3 f4 g1 (by omega) (by omega) py
        rw [celluloidlaw16_CurveNear.l0, if_pos (by omega), if_pos (by omega), if_pos (by omega), hat i (by omega), t1, s1, t2, s2]
        simp only [Option.bind_some]
        rw [t3, s3, t4, s4]
        simp only [Option.bind_some, Bool.false_eq_true, if_false]
        rw [celluloidlaw16_CurveNear.j2, if_neg (by simp), w64_id (by omega) (by omega)]
        have n1 := pt_near (a := a0) (b := b0) (c := c0) (i := 1 + i) (n := n) (by omega) (by omega)
        have n2 := pt_near (a := a1) (b := b1) (c := c1) (i := 1 + i) (n := n) (by omega) (by omega)
        have ei : ((i + 1 : Nat) : Int) = 1 + (i : Int) := by omega
        have := ih (i + 1) k (pt a0 b0 c0 (1 + i) n) (pt a1 b1 c1 (1 + i) n) (by omega) (by omega) px py (by rw [ei]; exact n1.1) (by rw [ei]; exact n1.2) (by rw [ei]; exact n2.1) (by rw [ei]; exact n2.2)
        exact this
    have s0 : ∀ a b c : Int, wy a b c ((0 : Nat) : Int) n = a * (n * n) := by intro a b c; unfold wy; grind
    have hs := nn_pos hp.1 (by omega)
    exact go _ 0 1999 a0 a1 (Nat.zero_add _) (by omega) pa0 pa1 (by rw [s0]; omega) (by rw [s0]; omega) (by rw [s0]; omega) (by rw [s0]; omega)
  · rw [decide_eq_false h, if_neg (by simp), quit]
end Go.Proofs.Ytdhjcfgklbedjaa.Pure
