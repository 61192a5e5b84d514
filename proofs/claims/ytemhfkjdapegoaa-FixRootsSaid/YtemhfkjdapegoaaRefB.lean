/- The document's answers of layer 1: differences and quotients of sizes, and what number a size is; the floor of a product by a number, the product, the sum, the order, the rounded quotient and the root. -/
import Derived.Test.YtemhfkjdapegoaaRefA
import Derived.Test.YtemhfkjdapegoaaFixC
import Derived.Test.YtemhfkjdapegoaaFixD
import Derived.Test.YtemhfkjdapegoaaPx3
import Derived.Test.YtemhfkjdapegoaaPx4
import Derived.Test.YtemhfkjdapegoaaPx5
import Derived.Test.YtemhfkjdapegoaaPx7
import Derived.Test.YtemhfkjdapegoaaPx6
import Derived.Test.YtemhfkjdapegoaaPx8
namespace Go.Proofs.Ytemhfkjdapegoaa.P
open Go.RowKit Go.Proofs.YtemhfkjdapegoaaW.PrintWords Go.Proofs.YtemhfkjdapegoaaW.PrintLast Go.Proofs.YtemhfkjdapegoaaW.PrintMore

/-! ### number -/
theorem number_l0 {l : List Int} (hd : Dig l) (hl : l.length ≤ 1000) (b : Bool) : ∀ (i k : Nat), i ≤ l.length → val (l.drop i) ≤ 9223372036854775808 → 2 * i + 2 ≤ k →
    celluloidref01_number.l0 k l b (-(val (l.drop i))) ((i : Int) - 1) = some (num (if b then -(val l) else val l)) := by
  intro i
  induction i with
  | zero =>
    intro k _ hv hk
    obtain ⟨k, rfl⟩ : ∃ m, k = m + 1 := ⟨k - 1, by omega⟩
    have h0 := val_nonneg hd
    simp only [celluloidref01_number.l0, List.drop_zero] at hv ⊢
    rw [if_neg (by omega)]
    cases b with
    | true => rw [if_pos rfl, if_pos rfl, num_yes (by unfold I64; omega)]
    | false =>
      rw [if_neg (show ¬ (false = true) by simp), if_neg (show ¬ (false = true) by simp)]
      by_cases h : val l = 9223372036854775808
      · rw [if_pos (by omega), num_no (by unfold I64; omega)]
      · rw [if_neg (by omega), num_yes (by unfold I64; omega), w64_id (by omega) (by omega), Int.neg_neg]
  | succ i ih =>
    intro k hi hv hk
    obtain ⟨k, rfl⟩ : ∃ m, k = m + 2 := ⟨k - 2, by omega⟩
    have hvd := val_drop l i
    have h1 := hd i
    have h2 := val_nonneg (hd.drop (i + 1))
    have h3 := val_nonneg hd
    have ht := val_take l i
    have hn := val_nonneg (hd.take i)
    have hB := B_pos i
    -- what lies above is not above the whole
    have hle : val (l.drop i) ≤ val l := by
      have : 1 * val (l.drop i) ≤ B i * val (l.drop i) := Int.mul_le_mul_of_nonneg_right (by omega) (val_nonneg (hd.drop i))
      omega
    have over : 9223372036854775808 < val l → some (0, false) = some (num (if b then -(val l) else val l)) := by
      intro h
      rw [num_no]
      unfold I64; split <;> omega
    have key : ∀ c : Bool, (c = true → 9223372036854775808 < val l) → celluloidref01_number.j1 (k + 1) l b (-(val (l.drop (i + 1)))) (i : Int) c = some (num (if b then -(val l) else val l)) := by
      intro c hc
      simp only [celluloidref01_number.j1]
      by_cases hct : c = true
      · rw [if_pos hct]; exact over (hc hct)
      · rw [if_neg hct]
        by_cases g1 : -(val (l.drop (i + 1))) < -140737488355328
        · rw [if_pos g1]; exact over (by omega)
        · rw [if_neg g1]
          have g5 : wrap64 (wrap64 (65536 * -(val (l.drop (i + 1)))) - rd l (i : Int)) = -(val (l.drop i)) ∨ 9223372036854775808 < val (l.drop i) := by
            by_cases g : 9223372036854775808 < val (l.drop i)
            · exact .inr g
            · left
              rw [w64_id (n := 65536 * -(val (l.drop (i + 1)))) (by omega) (by omega), w64_id (by omega) (by omega)]; omega
          by_cases g2 : -(val (l.drop (i + 1))) = -140737488355328
          · rw [if_pos g2, if_pos (by omega), if_pos (by omega)]
            by_cases g3 : rd l (i : Int) = 0
            · rw [if_pos g3]
              rcases g5 with g5 | g5
              · rw [g5, w64_id (by omega) (by omega)]; exact ih k (by omega) (by omega) (by omega)
              · omega
            · rw [if_neg g3]; exact over (by omega)
          · rw [if_neg g2, if_pos (by omega), if_pos (by omega)]
            rcases g5 with g5 | g5
            · rw [g5, w64_id (by omega) (by omega)]; exact ih k (by omega) (by omega) (by omega)
            · omega
    simp only [celluloidref01_number.l0]
    rw [show ((i + 1 : Nat) : Int) - 1 = (i : Int) by omega, if_pos (by omega)]
    by_cases h4 : (i : Int) > 3
    · rw [if_pos h4, if_pos (by omega), if_pos (by omega)]
      refine key _ (fun hc => ?_)
      have hne : rd l (i : Int) ≠ 0 := by simpa using hc
      -- a digit behind the fourth place
      have hBi : ∀ n, 4 ≤ n → 18446744073709551616 ≤ B n := by
        intro n hn
        induction hn with
        | refl => decide
        | step _ ih => rw [B_succ]; omega
      have hb4 := hBi i (by omega)
      have : B i * 1 ≤ B i * val (l.drop i) := Int.mul_le_mul_of_nonneg_left (by omega) (by omega)
      omega
    · rw [if_neg h4]; exact key _ (fun h => by cases h)

theorem number_eq {l : List Int} (hd : Dig l) (hl : l.length ≤ 1000) (b : Bool) (k : Nat) (hk : 3000 ≤ k) :
    celluloidref01_number.f k l b = some (num (if b then -(val l) else val l)) := by
  unfold celluloidref01_number.f
  have h0 : val (l.drop l.length) = 0 := by rw [List.drop_of_length_le (Nat.le_refl _)]; rfl
  have := number_l0 hd hl b l.length k (Nat.le_refl _) (by omega) (by omega)
  rw [h0] at this
  rw [w64_id (by omega) (by omega)]
  exact this

/-! ### one more -/
theorem one_l0 {l : List Int} (hd : Dig l) (hl : l.length ≤ 1000) : ∀ (d i k : Nat) (acc : List Int) (left : Int), d + i = l.length → acc.length = i → Dig acc → 0 ≤ left → left ≤ 1 → d < k →
    ∃ r c, celluloidref01_one.l0 k l acc left (i : Int) = some r ∧ r.length = l.length ∧ Dig r ∧ 0 ≤ c ∧ val r + B l.length * c = val acc + B i * (val (l.drop i) + left) := by
  intro d
  induction d with
  | zero =>
    intro i k acc left h ha hda h0 h1 hk
    obtain ⟨k, rfl⟩ : ∃ m, k = m + 1 := ⟨k - 1, by omega⟩
    refine ⟨acc, left, ?_, by omega, hda, h0, ?_⟩
    · simp only [celluloidref01_one.l0]; rw [if_neg (by omega)]
    · rw [List.drop_of_length_le (by omega), show l.length = i by omega]; simp [val]
  | succ d ih =>
    intro i k acc left h ha hda h0 h1 hk
    obtain ⟨k, rfl⟩ : ∃ m, k = m + 1 := ⟨k - 1, by omega⟩
    have hx := hd i
    have hv := val_drop l i
    obtain ⟨n, hn⟩ : ∃ n, n = rd l (i : Int) + left := ⟨_, rfl⟩
    obtain ⟨r, c, e1, e2, e3, e4, e5⟩ := ih (i + 1) k (acc ++ [n % 65536]) (n / 65536) (by omega) (by simp [ha]) (hda.append (by omega) (by omega)) (by omega) (by omega) (by omega)
    refine ⟨r, c, ?_, e2, e3, e4, ?_⟩
    · simp only [celluloidref01_one.l0]
      rw [if_pos (by omega), if_pos (by omega), if_pos (by omega), ← hn, w64_id (n := n) (by omega) (by omega), Int.tmod_eq_emod_of_nonneg (by omega), Int.tdiv_eq_ediv_of_nonneg (by omega), w64_id (n := n / 65536) (by omega) (by omega), w64_id (n := (i : Int) + 1) (by omega) (by omega), show (i : Int) + 1 = ((i + 1 : Nat) : Int) by omega]
      exact e1
    · rw [e5, val_append, ha, hv, B_succ]
      have hdm : n = 65536 * (n / 65536) + n % 65536 := by omega
      generalize n / 65536 = q at *
      generalize n % 65536 = s at *
      generalize val (l.drop (i + 1)) = V at *
      generalize B i = P at *
      grind

theorem one_eq {l : List Int} (hd : Dig l) (hl : l.length ≤ 1000) (hlt : val l + 1 < B l.length) (k : Nat) (hk : 3000 ≤ k) :
    ∃ r, celluloidref01_one.f k l = some r ∧ r.length = l.length ∧ Dig r ∧ val r = val l + 1 := by
  obtain ⟨r, c, e1, e2, e3, e4, e5⟩ := one_l0 hd hl l.length 0 k [] 1 (by omega) rfl Dig.nil (by omega) (by omega) (by omega)
  refine ⟨r, e1, e2, e3, ?_⟩
  have h0 := val_nonneg e3
  rw [B_zero, List.drop_zero] at e5
  simp only [val] at e5
  have hc : c = 0 := by
    rcases Int.lt_or_le 0 c with h | h
    · have : B l.length * 1 ≤ B l.length * c := Int.mul_le_mul_of_nonneg_left (by omega) (Int.le_of_lt (B_pos _))
      omega
    · omega
  subst hc
  omega

/-! ### differences -/
theorem minus_l0 {a b : List Int} (ha : Dig a) (hb : Dig b) (hl : a.length = b.length) (h1000 : a.length ≤ 1000) : ∀ (d i k : Nat) (acc : List Int) (left : Int), d + i = a.length → acc.length = i → Dig acc → 0 ≤ left → left ≤ 1 → d < k →
    ∃ r c, celluloidref01_minus.l0 k a b acc left (i : Int) = some r ∧ r.length = a.length ∧ Dig r ∧ 0 ≤ c ∧ val r - B a.length * c = val acc + B i * (val (a.drop i) - val (b.drop i) - left) := by
  intro d
  induction d with
  | zero =>
    intro i k acc left h hac hda h0 h1 hk
    obtain ⟨k, rfl⟩ : ∃ m, k = m + 1 := ⟨k - 1, by omega⟩
    refine ⟨acc, left, ?_, by omega, hda, h0, ?_⟩
    · simp only [celluloidref01_minus.l0]; rw [if_neg (by omega)]
    · rw [List.drop_of_length_le (by omega), List.drop_of_length_le (by omega), show a.length = i by omega]; simp only [val]; grind
  | succ d ih =>
    intro i k acc left h hac hda h0 h1 hk
    obtain ⟨k, rfl⟩ : ∃ m, k = m + 1 := ⟨k - 1, by omega⟩
    have hx := ha i; have hy := hb i
    have va := val_drop a i; have vb := val_drop b i
    obtain ⟨n, hn⟩ : ∃ n, n = rd a (i : Int) - rd b (i : Int) - left := ⟨_, rfl⟩
    have e0 : wrap64 (wrap64 (rd a (i : Int) - rd b (i : Int)) - left) = n := by
      rw [w64_id (n := rd a (i : Int) - rd b (i : Int)) (by omega) (by omega), w64_id (by omega) (by omega), hn]
    simp only [celluloidref01_minus.l0]
    rw [if_pos (by omega), if_pos (by omega), if_pos (by omega), e0, w64_id (n := (i : Int) + 1) (by omega) (by omega), show (i : Int) + 1 = ((i + 1 : Nat) : Int) by omega]
    by_cases hneg : n < 0
    · obtain ⟨r, c, e1, e2, e3, e4, e5⟩ := ih (i + 1) k (acc ++ [n + 65536]) 1 (by omega) (by simp [hac]) (hda.append (by omega) (by omega)) (by omega) (by omega) (by omega)
      refine ⟨r, c, ?_, e2, e3, e4, ?_⟩
      · rw [if_pos hneg, if_pos (by omega), w64_id (n := n + 65536) (by omega) (by omega)]; exact e1
      · rw [e5, val_append, hac, va, vb, B_succ]
        generalize val (a.drop (i + 1)) = V at *
        generalize val (b.drop (i + 1)) = U at *
        generalize B i = P at *
        grind
    · obtain ⟨r, c, e1, e2, e3, e4, e5⟩ := ih (i + 1) k (acc ++ [n]) 0 (by omega) (by simp [hac]) (hda.append (by omega) (by omega)) (by omega) (by omega) (by omega)
      refine ⟨r, c, ?_, e2, e3, e4, ?_⟩
      · rw [if_neg hneg, if_pos (by omega)]; exact e1
      · rw [e5, val_append, hac, va, vb, B_succ]
        generalize val (a.drop (i + 1)) = V at *
        generalize val (b.drop (i + 1)) = U at *
        generalize B i = P at *
        grind

theorem minus_eq {a b : List Int} (ha : Dig a) (hb : Dig b) (hl : a.length = b.length) (h1000 : a.length ≤ 1000) (hle : val b ≤ val a) (k : Nat) (hk : 3000 ≤ k) :
    ∃ r, celluloidref01_minus.f k a b = some r ∧ r.length = a.length ∧ Dig r ∧ val r = val a - val b := by
  obtain ⟨r, c, e1, e2, e3, e4, e5⟩ := minus_l0 ha hb hl h1000 a.length 0 k [] 0 (by omega) rfl Dig.nil (by omega) (by omega) (by omega)
  refine ⟨r, e1, e2, e3, ?_⟩
  have h0 := val_lt e3
  rw [e2] at h0
  rw [B_zero, List.drop_zero, List.drop_zero] at e5
  simp only [val] at e5
  have hc : c = 0 := by
    rcases Int.lt_or_le 0 c with h | h
    · have : B a.length * 1 ≤ B a.length * c := Int.mul_le_mul_of_nonneg_left (by omega) (Int.le_of_lt (B_pos _))
      omega
    · omega
  subst hc
  omega

/-! ### quotients -/
theorem B_le {n m : Nat} (h : n ≤ m) : B n ≤ B m := by
  induction h with
  | refl => omega
  | step _ ih => rw [B_succ]; have := B_pos n; omega

theorem val_first {l : List Int} (hd : Dig l) : val l % 65536 = rd l ((0 : Nat) : Int) := by
  have := val_drop l 0
  rw [List.drop_zero] at this
  have h := hd 0
  omega

/-- The first digit of what is even, and one more. -/
theorem val_inc {l : List Int} (hd : Dig l) (hl : 0 < l.length) (he : val l % 2 = 0) : Dig (l.set 0 (rd l ((0 : Nat) : Int) + 1)) ∧ val (l.set 0 (rd l ((0 : Nat) : Int) + 1)) = val l + 1 ∧ rd l ((0 : Nat) : Int) + 1 < 65536 := by
  have h1 := val_first hd
  have h2 := hd 0
  have h3 : rd l ((0 : Nat) : Int) % 2 = 0 := by omega
  refine ⟨hd.set 0 (by omega) (by omega), ?_, by omega⟩
  rw [val_set _ _ _ hl, B_zero]; omega

/-- One bit further. -/
theorem bit_step {M D t : Nat} (hD : 0 < D) :
    (M / 2 ^ t) = 2 * (M / 2 ^ (t + 1)) + M / 2 ^ t % 2 ∧
    (if D ≤ 2 * (M / 2 ^ (t + 1) % D) + M / 2 ^ t % 2 then M / 2 ^ t / D = 2 * (M / 2 ^ (t + 1) / D) + 1 ∧ M / 2 ^ t % D = 2 * (M / 2 ^ (t + 1) % D) + M / 2 ^ t % 2 - D
     else M / 2 ^ t / D = 2 * (M / 2 ^ (t + 1) / D) ∧ M / 2 ^ t % D = 2 * (M / 2 ^ (t + 1) % D) + M / 2 ^ t % 2) := by
  have e : M / 2 ^ (t + 1) = M / 2 ^ t / 2 := by rw [Nat.pow_succ, Nat.div_div_eq_div_mul]
  rw [e]
  generalize M / 2 ^ t = N
  have h1 := Nat.div_add_mod (N / 2) D
  have h2 := Nat.mod_lt (N / 2) hD
  have h3 : N = 2 * (N / 2) + N % 2 := by omega
  generalize hq : N / 2 / D = q at *
  generalize hr : N / 2 % D = r at *
  generalize hb : N % 2 = b at *
  have hb2 : b < 2 := by omega
  refine ⟨h3, ?_⟩
  have hN : N = D * (2 * q) + (2 * r + b) := by
    rw [Nat.mul_left_comm]; omega
  split
  · rename_i h
    have hN' : N = D * (2 * q + 1) + (2 * r + b - D) := by rw [Nat.mul_add]; omega
    constructor
    · rw [hN', Nat.mul_add_div hD, Nat.div_eq_of_lt (by omega), Nat.add_zero]
    · rw [hN', Nat.mul_add_mod, Nat.mod_eq_of_lt (by omega)]
  · rename_i h
    constructor
    · rw [hN, Nat.mul_add_div hD, Nat.div_eq_of_lt (by omega), Nat.add_zero]
    · rw [hN, Nat.mul_add_mod, Nat.mod_eq_of_lt (by omega)]

/-- A digit's bit is the number's. -/
theorem digit_bit {x V M t : Nat} (hM : M = x + 65536 * V) (ht : t < 16) : x / 2 ^ t % 2 = M / 2 ^ t % 2 := by
  have hp : (65536 : Nat) = 2 ^ t * (2 * 2 ^ (15 - t)) := by
    rw [← Nat.pow_succ', ← Nat.pow_add, show t + (15 - t + 1) = 16 by omega]
  rw [hM, hp, Nat.mul_assoc, Nat.add_mul_div_left _ _ (Nat.two_pow_pos t), Nat.mul_assoc]
  generalize 2 ^ (15 - t) * V = z
  omega

/-- Where the quotient of all bits that have been gone through stands. -/
structure DivAt (M D t : Nat) (q left : List Int) (i : Nat) (la ll : Nat) : Prop where
  hq : q.length = la
  hl : left.length = ll
  dq : Dig q
  dl : Dig left
  qi : rd q (i : Int) ≤ 65536 - 2 ^ t
  vq : val (q.drop i) = ((M / 2 ^ t / D * 2 ^ t : Nat) : Int)
  vl : val left = ((M / 2 ^ t % D : Nat) : Int)

theorem pow2_le {t : Nat} (h : t < 16) : 2 ^ t ≤ 32768 ∧ 1 ≤ 2 ^ t := by
  refine ⟨?_, Nat.two_pow_pos t⟩
  have : 2 ^ t ≤ 2 ^ 15 := Nat.pow_le_pow_right (by omega) (by omega)
  exact this

theorem pow2_cast (t : Nat) : ((2 : Int) ^ t) = ((2 ^ t : Nat) : Int) := by simp

/-- One bit. -/
theorem divide_bit {a d : List Int} {M D : Nat} (hda : Dig a) (hdd : Dig d) (h100 : d.length ≤ 1000) (hD : 0 < D) (hvd : val d = (D : Int)) (hroom : 2 * (D : Int) < B d.length) {i : Nat} (hi : i < a.length) (hM : val (a.drop i) = (M : Int))
    {t : Nat} (ht : t < 16) {q left : List Int} (h : DivAt M D (t + 1) q left i a.length d.length) (k : Nat) (hk : 1200000 ≤ k) :
    ∃ q' left', celluloidref01_divide.l2 (k + 2) a q left d (i : Int) ((2 ^ t : Nat) : Int) = celluloidref01_divide.l2 k a q' left' d (i : Int) (((2 ^ t : Nat) : Int) / 2) ∧ DivAt M D t q' left' i a.length d.length ∧ ∀ j, j < i → rd q' (j : Nat) = rd q (j : Nat) := by
  obtain ⟨p1, p2⟩ := pow2_le ht
  obtain ⟨b1, b2⟩ := bit_step (M := M) (t := t) hD
  have hlen := h.hl; have hql := h.hq
  -- twice what is left
  obtain ⟨tw, t1, t2, t3, t4⟩ := times_list h.dl (show Dig [2] from Dig.cons (by omega) (by omega) Dig.nil) (by omega) (by simp) (k + 1) (by omega)
  have hm := Nat.mod_lt (M / 2 ^ (t + 1)) hD
  have v2 : val tw = 2 * ((M / 2 ^ (t + 1) % D : Nat) : Int) := by
    rw [t4, h.vl]; simp only [val]; omega
  have hsplit := val_take tw d.length
  have hd0 : val (tw.drop d.length) = 0 := by
    have h0 := val_nonneg (t3.take d.length)
    have h1 := val_nonneg (t3.drop d.length)
    rcases Int.lt_or_le 0 (val (tw.drop d.length)) with hc | hc
    · have : B d.length * 1 ≤ B d.length * val (tw.drop d.length) := Int.mul_le_mul_of_nonneg_left (by omega) (Int.le_of_lt (B_pos _))
      omega
    · omega
  have vt : val (tw.take d.length) = 2 * ((M / 2 ^ (t + 1) % D : Nat) : Int) := by rw [hd0] at hsplit; omega
  have lt : (tw.take d.length).length = d.length := by rw [List.length_take, t2]; simp; omega
  have dt : Dig (tw.take d.length) := t3.take _
  -- the bit
  have hx := hda i
  have hbit : Int.tmod (wrap64 (Int.tdiv (rd a (i : Int)) ((2 ^ t : Nat) : Int))) 2 = ((M / 2 ^ t % 2 : Nat) : Int) := by
    obtain ⟨x, hx'⟩ := Int.eq_ofNat_of_zero_le hx.1
    have hV := val_nonneg (hda.drop (i + 1))
    obtain ⟨V, hV'⟩ := Int.eq_ofNat_of_zero_le hV
    have hv := val_drop a i
    have hM' : M = x + 65536 * V := by omega
    rw [hx', Int.tdiv_eq_ediv_of_nonneg (by omega), ← Int.natCast_ediv]
    have hxl : x / 2 ^ t ≤ x := Nat.div_le_self _ _
    rw [← digit_bit hM' ht]
    generalize x / 2 ^ t = z at *
    rw [w64_id (by omega) (by omega), Int.tmod_eq_emod_of_nonneg (by omega)]
    omega
  -- what is left, and the bit
  have hlow : ∃ y, Dig y ∧ y.length = d.length ∧ val y = 2 * ((M / 2 ^ (t + 1) % D : Nat) : Int) + ((M / 2 ^ t % 2 : Nat) : Int) ∧
      celluloidref01_divide.l2 (k + 2) a q left d (i : Int) ((2 ^ t : Nat) : Int) = celluloidref01_divide.j3 (k + 1) a q y d (i : Int) ((2 ^ t : Nat) : Int) := by
    have hpos : 0 < d.length := by
      rcases Nat.eq_zero_or_pos d.length with h0 | h0
      · have : d = [] := List.length_eq_zero_iff.mp h0
        rw [this] at hvd; simp only [val] at hvd; omega
      · exact h0
    have base : celluloidref01_divide.l2 (k + 2) a q left d (i : Int) ((2 ^ t : Nat) : Int) = if ((M / 2 ^ t % 2 : Nat) : Int) = 1 then celluloidref01_divide.j3 (k + 1) a q ((tw.take d.length).set 0 (wrap64 (rd (tw.take d.length) 0 + 1))) d (i : Int) ((2 ^ t : Nat) : Int) else celluloidref01_divide.j3 (k + 1) a q (tw.take d.length) d (i : Int) ((2 ^ t : Nat) : Int) := by
      simp only [celluloidref01_divide.l2]
      rw [if_pos (by omega), t1, Option.bind_some, if_pos (by omega), if_pos (by rw [t2]; simp; omega), Option.bind_some, if_pos (by omega), if_pos (by omega), if_neg (by omega), hbit, show ((left.length : Int)).toNat = d.length by omega, if_pos (show (0 : Int) < ((tw.take d.length).length : Int) by omega)]
      rfl
    by_cases hb : ((M / 2 ^ t % 2 : Nat) : Int) = 1
    · rw [if_pos hb] at base
      obtain ⟨c1, c2, c3⟩ := val_inc dt (by omega) (by omega)
      have c4 := dt 0
      rw [w64_id (n := rd (tw.take d.length) 0 + 1) (by have := c4.1; simp at this; omega) (by have := c3; simp at this; omega)] at base
      exact ⟨_, c1, by rw [List.length_set, lt], by rw [c2, vt, hb], base⟩
    · rw [if_neg hb] at base
      exact ⟨_, dt, lt, by rw [vt]; omega, base⟩
  obtain ⟨y, y1, y2, y3, y4⟩ := hlow
  have hbz := Nat.mod_lt (M / 2 ^ t) (show 0 < 2 by omega)
  have hqi := h.qi
  have hq0 := h.dq i
  have hvq := h.vq
  have hqd := val_drop q i
  have hpow : (2 : Int) ^ (t + 1) = 2 * ((2 ^ t : Nat) : Int) := by rw [Int.pow_succ, pow2_cast]; omega
  have hdiv2 : wrap64 (Int.tdiv ((2 ^ t : Nat) : Int) 2) = ((2 ^ t : Nat) : Int) / 2 := by
    rw [Int.tdiv_eq_ediv_of_nonneg (by omega), w64_id (by omega) (by omega)]
  rw [y4]
  simp only [celluloidref01_divide.j3]
  rw [order_eq y1 hdd y2 (by omega) k (by omega), Option.bind_some, y3, hvd]
  rw [hpow] at hqi
  have hmulT : M / 2 ^ (t + 1) / D * 2 ^ (t + 1) = 2 * (M / 2 ^ (t + 1) / D) * 2 ^ t := by rw [Nat.pow_succ, Nat.mul_comm (2 ^ t) 2, ← Nat.mul_assoc, Nat.mul_comm _ 2]
  rw [hmulT] at hvq
  by_cases hge : D ≤ 2 * (M / 2 ^ (t + 1) % D) + M / 2 ^ t % 2
  · rw [if_pos hge] at b2
    obtain ⟨b3, b4⟩ := b2
    rw [if_pos (by unfold cmpV; rw [if_neg (by omega)]; split <;> omega)]
    obtain ⟨z, z1, z2, z3, z4⟩ := minus_eq y1 hdd y2 (by omega) (by rw [y3, hvd]; omega) k (by omega)
    rw [z1, Option.bind_some, if_pos (by omega), if_pos (by omega), hdiv2, w64_id (n := rd q (i : Int) + ((2 ^ t : Nat) : Int)) (by omega) (by omega), Int.toNat_natCast]
    refine ⟨q.set i (rd q (i : Int) + ((2 ^ t : Nat) : Int)), z, rfl, ⟨by simp [hql], by omega, h.dq.set _ (by omega) (by omega), z3, ?_, ?_, ?_⟩, ?_⟩
    · rw [rd_set, if_pos ⟨rfl, by omega⟩, pow2_cast]; omega
    · have hs := val_drop (q.set i (rd q (i : Int) + ((2 ^ t : Nat) : Int))) i
      have hdr : (q.set i (rd q (i : Int) + ((2 ^ t : Nat) : Int))).drop (i + 1) = q.drop (i + 1) := List.drop_set_of_lt (by omega)
      rw [rd_set, if_pos ⟨rfl, by omega⟩, hdr] at hs
      rw [hs, b3, Nat.add_mul, Nat.one_mul]
      omega
    · rw [z4, y3, hvd, b4]; omega
    · intro j hj; rw [rd_set, if_neg (by omega)]
  · rw [if_neg hge] at b2
    obtain ⟨b3, b4⟩ := b2
    rw [if_neg (by unfold cmpV; rw [if_pos (by omega)]; omega), hdiv2]
    refine ⟨q, y, rfl, ⟨hql, y2, h.dq, y1, ?_, ?_, ?_⟩, fun _ _ => rfl⟩
    · rw [pow2_cast]; omega
    · rw [hvq, b3]
    · rw [y3, b4]; omega

/-- All bits of a digit. -/
theorem divide_bits {a d : List Int} {M D : Nat} (hda : Dig a) (hdd : Dig d) (h100 : d.length ≤ 1000) (hD : 0 < D) (hvd : val d = (D : Int)) (hroom : 2 * (D : Int) < B d.length) {i : Nat} (hi : i < a.length) (hal : a.length ≤ 1000) (hM : val (a.drop i) = (M : Int))
    (k : Nat) (hk : 1200000 ≤ k) : ∀ (t : Nat), t ≤ 16 → ∀ (q left : List Int), DivAt M D t q left i a.length d.length →
    ∃ q' left', celluloidref01_divide.l2 (k + 2 * t + 1) a q left d (i : Int) (((2 ^ t : Nat) : Int) / 2) = celluloidref01_divide.l1 k a q' left' d ((i : Int) - 1) ∧ DivAt M D 0 q' left' i a.length d.length ∧ ∀ j, j < i → rd q' (j : Nat) = rd q (j : Nat) := by
  intro t
  induction t with
  | zero =>
    intro _ q left h
    refine ⟨q, left, ?_, h, fun _ _ => rfl⟩
    simp only [celluloidref01_divide.l2]
    rw [if_neg (by simp), w64_id (by omega) (by omega)]
  | succ t ih =>
    intro ht q left h
    have e : ((2 ^ (t + 1) : Nat) : Int) / 2 = ((2 ^ t : Nat) : Int) := by rw [Nat.pow_succ]; omega
    obtain ⟨q1, l1, e1, e2, e3⟩ := divide_bit hda hdd h100 hD hvd hroom hi hM (t := t) (by omega) h (k + 2 * t + 1) (by omega)
    obtain ⟨q2, l2, f1, f2, f3⟩ := ih (by omega) q1 l1 e2
    refine ⟨q2, l2, ?_, f2, fun j hj => by rw [f3 j hj, e3 j hj]⟩
    rw [e, show k + 2 * (t + 1) + 1 = k + 2 * t + 1 + 2 by omega, e1, f1]

/-- All digits. -/
theorem divide_digits {a d : List Int} {D : Nat} (hda : Dig a) (hdd : Dig d) (h100 : d.length ≤ 1000) (hD : 0 < D) (hvd : val d = (D : Int)) (hroom : 2 * (D : Int) < B d.length) (hal : a.length ≤ 1000) :
    ∀ (i : Nat) (M k : Nat) (q left : List Int), i ≤ a.length → val (a.drop i) = (M : Int) → q.length = a.length → left.length = d.length → Dig q → Dig left → (∀ j, j < i → rd q (j : Nat) = 0) → val (q.drop i) = ((M / D : Nat) : Int) → val left = ((M % D : Nat) : Int) → 1200000 + 100 * i ≤ k →
      ∃ q', celluloidref01_divide.l1 k a q left d ((i : Int) - 1) = some (q', decide (val a % D = 0)) ∧ q'.length = a.length ∧ Dig q' ∧ val q' = val a / D := by
  intro i
  induction i with
  | zero =>
    intro M k q left _ hM hql hll hq hl hz hvq hvl hk
    obtain ⟨k, rfl⟩ : ∃ m, k = m + 1 := ⟨k - 1, by omega⟩
    rw [List.drop_zero] at hM hvq
    refine ⟨q, ?_, hql, hq, ?_⟩
    · simp only [celluloidref01_divide.l1]
      rw [if_neg (by omega), nought_eq hl (by omega) k (by omega), Option.bind_some, hvl, hM, Int.natCast_emod]
    · rw [hvq, hM, Int.natCast_ediv]
  | succ i ih =>
    intro M k q left hi hM hql hll hq hl hz hvq hvl hk
    obtain ⟨k, rfl⟩ : ∃ m, k = m + 34 := ⟨k - 34, by omega⟩
    have hv := val_drop a i
    have hx := hda i
    obtain ⟨x, hx'⟩ := Int.eq_ofNat_of_zero_le hx.1
    obtain ⟨M1, hM1⟩ := Int.eq_ofNat_of_zero_le (val_nonneg (hda.drop i))
    have hM1e : M1 = x + 65536 * M := by omega
    have hdiv : M1 / 2 ^ 16 = M := by rw [hM1e]; omega
    have hqd := val_drop q i
    rw [hz i (by omega)] at hqd
    obtain ⟨q1, l1, e1, e2, e3⟩ := divide_bits hda hdd h100 hD hvd hroom (i := i) (by omega) hal hM1 k (by omega) 16 (Nat.le_refl _) q left
      ⟨hql, hll, hq, hl, by rw [hz i (by omega)]; decide, by rw [hqd, hvq, hdiv]; omega, by rw [hdiv, hvl]⟩
    have hp1 := e2.vq
    have hp2 := e2.vl
    rw [Nat.pow_zero, Nat.div_one] at hp1 hp2
    rw [Nat.mul_one] at hp1
    obtain ⟨q', f1, f2, f3, f4⟩ := ih M1 k q1 l1 (by omega) hM1 e2.hq e2.hl e2.dq e2.dl (fun j hj => by rw [e3 j hj]; exact hz j (by omega)) hp1 hp2 (by omega)
    refine ⟨q', ?_, f2, f3, f4⟩
    rw [← f1, ← e1, show k + 34 = (k + 2 * 16 + 1) + 1 by omega]
    simp only [celluloidref01_divide.l1]
    rw [show ((i + 1 : Nat) : Int) - 1 = (i : Int) by omega, if_pos (by omega)]
    rfl

/-- The divisor, laid into a longer list. -/
theorem divide_l0 {a b : List Int} (q left : List Int) (hb : Dig b) (hla : a.length ≤ 1000) : ∀ (n i k : Nat) (d : List Int), n + i = b.length → b.length ≤ d.length → d.length ≤ 1000 → Dig d → (∀ j, i ≤ j → rd d (j : Nat) = 0) → (∀ j, j < i → rd d (j : Nat) = rd b (j : Nat)) →
    ∃ d', celluloidref01_divide.l0 (k + n + 1) a b q left d (i : Int) = celluloidref01_divide.l1 k a q left d' ((a.length : Int) - 1) ∧ d'.length = d.length ∧ Dig d' ∧ ∀ j : Nat, rd d' (j : Int) = rd b (j : Int) := by
  intro n
  induction n with
  | zero =>
    intro i k d h hl h1 hd hz he
    refine ⟨d, ?_, rfl, hd, ?_⟩
    · simp only [celluloidref01_divide.l0]
      rw [if_neg (by omega), w64_id (by omega) (by omega)]
    · intro j
      rcases Nat.lt_or_ge j i with hj | hj
      · exact he j hj
      · rw [hz j hj, rd_out b (by omega)]
  | succ n ih =>
    intro i k d h hl h1 hd hz he
    have hbi := hb i
    obtain ⟨d', e1, e2, e3, e4⟩ := ih (i + 1) k (d.set i (rd b (i : Int))) (by omega) (by simpa using hl) (by simpa using h1) (hd.set _ hbi.1 hbi.2)
      (fun j hj => by rw [rd_set, if_neg (by omega)]; exact hz j (by omega))
      (fun j hj => by
        rw [rd_set]
        by_cases hji : i = j
        · subst hji; rw [if_pos ⟨rfl, by omega⟩]
        · rw [if_neg (by omega)]; exact he j (by omega))
    refine ⟨d', ?_, by simpa using e2, e3, e4⟩
    rw [← e1, show k + (n + 1) + 1 = (k + n + 1) + 1 by omega]
    simp only [celluloidref01_divide.l0]
    rw [if_pos (by omega), if_pos (by omega), if_pos (by omega), w64_id (by omega) (by omega), show (i : Int) + 1 = ((i + 1 : Nat) : Int) by omega, Int.toNat_natCast]

/-- Two lists of the same digits. -/
theorem val_ext : ∀ {a b : List Int}, (∀ j : Nat, rd a (j : Int) = rd b (j : Int)) → val a = val b := by
  intro a
  induction a with
  | nil =>
    intro b h
    induction b with
    | nil => rfl
    | cons d b ih =>
      have h0 := h 0; rw [rd_nil, rd_zero] at h0
      have := ih (fun j => by have := h (j + 1); rw [rd_nil, rd_succ] at this; rw [rd_nil]; exact this)
      simp only [val] at this ⊢; omega
  | cons d a ih =>
    intro b h
    cases b with
    | nil =>
      have h0 := h 0; rw [rd_nil, rd_zero] at h0
      have := ih (b := []) (fun j => by have := h (j + 1); rw [rd_nil, rd_succ] at this; rw [rd_nil]; exact this)
      simp only [val] at this ⊢; omega
    | cons e b =>
      have h0 := h 0; rw [rd_zero, rd_zero] at h0
      have := ih (b := b) (fun j => by have := h (j + 1); rwa [rd_succ, rd_succ] at this)
      simp only [val]; omega

theorem divide_eq {a b : List Int} {D : Nat} (ha : Dig a) (hb : Dig b) (hla : a.length ≤ 900) (hlb : b.length + 1 ≤ a.length + 1) (hD : 0 < D) (hvb : val b = (D : Int)) (k : Nat) (hk : 1400000 ≤ k) :
    ∃ q, celluloidref01_divide.f k a b = some (q, decide (val a % D = 0)) ∧ q.length = a.length ∧ Dig q ∧ val q = val a / D := by
  obtain ⟨d, e1, e2, e3, e4⟩ := divide_l0 (a := a) (b := b) (List.replicate a.length 0) (List.replicate (a.length + 1) 0) hb (by omega) b.length 0 (k - b.length - 1) (List.replicate (a.length + 1) 0) (by omega) (by simp; omega) (by simp; omega) (Dig.zeros _)
    (fun j _ => (val_eq_zero (Dig.zeros (a.length + 1))).mp (val_zeros _) j) (fun j hj => by omega)
  rw [List.length_replicate] at e2
  have hvd : val d = (D : Int) := by rw [val_ext e4, hvb]
  have hlt := val_lt hb
  have hroom : 2 * (D : Int) < B d.length := by
    rw [e2, B_succ]
    have := B_le (show b.length ≤ a.length by omega)
    have := B_pos b.length
    omega
  have hzero : ∀ j : Nat, rd (List.replicate a.length (0 : Int)) (j : Int) = 0 := fun j => (val_eq_zero (Dig.zeros a.length)).mp (val_zeros _) j
  obtain ⟨q, f1, f2, f3, f4⟩ := divide_digits ha e3 (by omega) hD hvd hroom (by omega) a.length 0 (k - b.length - 1) (List.replicate a.length 0) (List.replicate (a.length + 1) 0) (Nat.le_refl _)
    (by rw [List.drop_of_length_le (Nat.le_refl _)]; rfl) (by simp) (by simp; omega) (Dig.zeros _) (Dig.zeros _) (fun j _ => hzero j)
    (by rw [List.drop_of_length_le (by simp)]; simp [val]) (by rw [val_zeros]; simp) (by omega)
  refine ⟨q, ?_, f2, f3, f4⟩
  unfold celluloidref01_divide.f
  rw [if_pos (by omega), if_pos (by omega), w64_id (by omega) (by omega), if_pos (by omega), if_pos (by omega), ← f1, ← e1, show k - b.length - 1 + b.length + 1 = k by omega, show ((a.length : Int)).toNat = a.length by omega, show ((a.length : Int) + 1).toNat = a.length + 1 by omega]
  rfl
end Go.Proofs.Ytemhfkjdapegoaa.P
