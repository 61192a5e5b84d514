/- Each part of a colour at a place lies between those of the stops; at a place that one stop alone has it is the stop's colour. -/
import Derived.Test.YtdphpilcokloeaaRampAwake
import Derived.Test.YtdphpilcokloeaaSayRampLies
namespace Go.Proofs.Ytdphpilcokloeaa.Pure
open Go.RowKit Go.Proofs.Ytdphpilcokloeaa.P Go.Proofs.YtdphpilcokloeaaW.PrintWords Go.Proofs.YtdphpilcokloeaaW.PrintLast Go.Proofs.YtdphpilcokloeaaW.PrintMore

/-- What is between the least and the greatest of all stops so far. -/
def Bq (l : List Stop) (f : Stop → Int) (lo hi : Int) (t : Nat) : Prop := ∀ j, j < t → lo ≤ f (st l (j : Int)) ∧ f (st l (j : Int)) ≤ hi
theorem Bq.step {l : List Stop} {f : Stop → Int} {lo hi : Int} {t : Nat} (h : Bq l f lo hi t) : Bq l f (mn lo (f (st l (t : Int)))) (mx hi (f (st l (t : Int)))) (t + 1) := by
  intro j hj
  by_cases e : j = t
  · subst e; unfold mn mx; constructor <;> split <;> omega
  · have := h j (by omega); unfold mn mx; constructor <;> split <;> omega
/-- A number that two stops bound. -/
def Bd (l : List Stop) (f : Stop → Int) (c : Int) : Prop := (∃ j, j < l.length ∧ f (st l (j : Int)) ≤ c) ∧ (∃ j, j < l.length ∧ c ≤ f (st l (j : Int)))
theorem Bq.ends {l : List Stop} {f : Stop → Int} {lo hi c : Int} (h : Bq l f lo hi l.length) (hc : Bd l f c) : ¬ c < lo ∧ ¬ c > hi := by
  obtain ⟨⟨j, hj, h1⟩, ⟨j', hj', h2⟩⟩ := hc
  have a := (h j hj).1
  have b := (h j' hj').2
  omega
theorem mix_between {a b n m : Int} (ha : 0 ≤ a) (ha1 : a ≤ 255) (hb : 0 ≤ b) (hb1 : b ≤ 255) (hn : 0 ≤ n) (hm : 0 < m) (hnm : n ≤ m) (hm1 : m ≤ 255) : (a ≤ mixS a b n m ∨ b ≤ mixS a b n m) ∧ (mixS a b n m ≤ a ∨ mixS a b n m ≤ b) := by
  obtain ⟨_, _, _, _, b5, b6⟩ := mix_bd ha ha1 hb hb1 hn hm hnm hm1
  unfold mixS
  rcases Int.le_total a b with h | h
  · have := b5 h; omega
  · have := b6 h; omega
theorem bd_mix {l : List Stop} {f : Stop → Int} {i : Nat} (hi : i + 1 < l.length) {a b n m : Int} (ea : f (st l (i : Int)) = a) (eb : f (st l ((i + 1 : Nat) : Int)) = b)
    (h : (a ≤ mixS a b n m ∨ b ≤ mixS a b n m) ∧ (mixS a b n m ≤ a ∨ mixS a b n m ≤ b)) : Bd l f (mixS a b n m) := by
  obtain ⟨h1, h2⟩ := h
  constructor
  · rcases h1 with h1 | h1
    · exact ⟨i, by omega, by omega⟩
    · exact ⟨i + 1, hi, by omega⟩
  · rcases h2 with h2 | h2
    · exact ⟨i, by omega, by omega⟩
    · exact ⟨i + 1, hi, by omega⟩
theorem bd_self {l : List Stop} (f : Stop → Int) {i : Nat} (hi : i < l.length) : Bd l f (f (st l (i : Int))) := ⟨⟨i, hi, Int.le_refl _⟩, ⟨i, hi, Int.le_refl _⟩⟩
/-- All four parts. -/
def Bd4 (l : List Stop) (c : Int × Int × Int × Int) : Prop := Bd l (fun s => s.f1.f0) c.1 ∧ Bd l (fun s => s.f1.f1) c.2.1 ∧ Bd l (fun s => s.f1.f2) c.2.2.1 ∧ Bd l (fun s => s.f1.f3) c.2.2.2
theorem bd_col {l : List Stop} {i : Nat} (hi : i < l.length) : Bd4 l (colOf (st l (i : Int))) :=
  ⟨bd_self (fun s => s.f1.f0) hi, bd_self (fun s => s.f1.f1) hi, bd_self (fun s => s.f1.f2) hi, bd_self (fun s => s.f1.f3) hi⟩
theorem bd_at {l : List Stop} {place : Int} (hr : rightS l = true) {i : Nat} (h : At l place i) : Bd4 l (colAt l place i) := by
  unfold colAt
  by_cases he : i + 1 = l.length
  · rw [if_pos he]; exact bd_col h.1
  · rw [if_neg he]
    have hi := h.1
    obtain ⟨c1, c2, c3, c4, c5, c6, _, _, _, _⟩ := mixes hr h (by omega)
    unfold ColS Col at c1 c2
    unfold mixCol
    refine ⟨bd_mix (f := fun s => s.f1.f0) (by omega) rfl rfl ?_, bd_mix (f := fun s => s.f1.f1) (by omega) rfl rfl ?_, bd_mix (f := fun s => s.f1.f2) (by omega) rfl rfl ?_, bd_mix (f := fun s => s.f1.f3) (by omega) rfl rfl ?_⟩ <;>
      exact mix_between (by omega) (by omega) (by omega) (by omega) c3 c4 c5 c6

/-- At a stop's own place, the last one of these: its colour. -/
theorem mix_zero (a b m : Int) : mixS a b 0 m = a := by unfold mixS; simp
theorem at_self {l : List Stop} {place : Int} {i : Nat} (e : (st l (i : Int)).f0 = place) : colAt l place i = colOf (st l (i : Int)) := by
  unfold colAt
  split
  · rfl
  · unfold mixCol colOf; rw [e, Int.sub_self, mix_zero, mix_zero, mix_zero, mix_zero]

/-- The rounds: 'i' is the last stop that is not above the place. -/
theorem lies_l0 {l : List Stop} {place : Int} (hl : l.length ≤ 20) (i : Nat) (hi : i < l.length) (hm : ∀ j : Nat, j < l.length → (st l (j : Int)).f0 = place → j ≤ i ∧ (st l (i : Int)).f0 = place) (c : Int × Int × Int × Int) (hb : Bd4 l c) (hc : (st l (i : Int)).f0 = place → (∀ j, j < l.length → (st l (j : Int)).f0 = place → j = i) → c = colOf (st l (i : Int))) :
    ∀ (d t k : Nat) (n lo0 lo1 lo2 lo3 hi0 hi1 hi2 hi3 t0 t1 t2 t3 : Int), t + d = l.length → d + 2100 ≤ k → 0 ≤ n → n ≤ t →
      Bq l (fun s => s.f1.f0) lo0 hi0 t → Bq l (fun s => s.f1.f1) lo1 hi1 t → Bq l (fun s => s.f1.f2) lo2 hi2 t → Bq l (fun s => s.f1.f3) lo3 hi3 t →
      (0 < n → ∃ j, j < t ∧ (st l (j : Int)).f0 = place) → (n ≤ 1 → ∀ j j', j < t → j' < t → (st l (j : Int)).f0 = place → (st l (j' : Int)).f0 = place → j = j') → (n = 0 → ∀ j, j < t → (st l (j : Int)).f0 ≠ place) →
      (i < t → (st l (i : Int)).f0 = place → (t0, t1, t2, t3) = colOf (st l (i : Int))) →
      celluloidlaw19_RampLies.l0 k place n l (l.length : Int) (t : Int) c.1 c.2.1 c.2.2.1 c.2.2.2 lo0 lo1 lo2 lo3 hi0 hi1 hi2 hi3 t0 t1 t2 t3 = some true := by
  intro d
  induction d with
  | zero =>
    intro t k n lo0 lo1 lo2 lo3 hi0 hi1 hi2 hi3 t0 t1 t2 t3 ht hk hn0 hn1 q0 q1 q2 q3 g1 g2 g3 g4
    obtain ⟨k, rfl⟩ : ∃ m, k = m + 1 := ⟨k - 1, by omega⟩
    obtain rfl : t = l.length := by omega
    obtain ⟨b0, b1, b2, b3⟩ := hb
    have e0 := q0.ends b0
    have e1 := q1.ends b1
    have e2 := q2.ends b2
    have e3 := q3.ends b3
    rw [celluloidlaw19_RampLies.l0, if_neg (by omega), if_neg e0.1, if_neg e0.2, if_neg e1.1, if_neg e1.2, if_neg e2.1, if_neg e2.2, if_neg e3.1, if_neg e3.2]
    by_cases h1 : n = 1
    · rw [if_pos h1]
      obtain ⟨j, hj, hjp⟩ := g1 (by omega)
      have hij := (hm j hj hjp).2
      have ec := hc hij (fun j' hj' hp' => g2 (by omega) j' i hj' hi hp' hij)
      have et := g4 hi hij
      rw [← et] at ec
      subst ec
      rw [if_pos (by simp), awake_eq k (by omega)]; rfl
    · rw [if_neg h1, awake_eq k (by omega)]; rfl
  | succ d ih =>
    intro t k n lo0 lo1 lo2 lo3 hi0 hi1 hi2 hi3 t0 t1 t2 t3 ht hk hn0 hn1 q0 q1 q2 q3 g1 g2 g3 g4
    obtain ⟨k, rfl⟩ : ∃ m, k = m + 1 := ⟨k - 1, by omega⟩
    rw [celluloidlaw19_RampLies.l0, if_pos (by omega), if_pos (by omega), if_pos (by omega), w64_id (n := (t : Int) + 1) (by omega) (by omega)]
    by_cases hp : (st l (t : Int)).f0 = place
    · rw [if_pos hp, w64_id (n := n + 1) (by omega) (by omega)]
      refine ih (t + 1) k (n + 1) _ _ _ _ _ _ _ _ _ _ _ _ (by omega) (by omega) (by omega) (by omega) q0.step q1.step q2.step q3.step (fun _ => ⟨t, by omega, hp⟩) ?_ (fun h => by omega) ?_
      · intro hn j j' hj hj' p1 p2
        have z := g3 (by omega)
        have a1 : j = t := by
          rcases Nat.lt_or_ge j t with h | h
          · exact absurd p1 (z j h)
          · omega
        have a2 : j' = t := by
          rcases Nat.lt_or_ge j' t with h | h
          · exact absurd p2 (z j' h)
          · omega
        omega
      · intro hit _
        have := (hm t (by omega) hp).1
        have : i = t := by omega
        subst this; rfl
    · rw [if_neg hp]
      refine ih (t + 1) k n _ _ _ _ _ _ _ _ _ _ _ _ (by omega) (by omega) (by omega) (by omega) q0.step q1.step q2.step q3.step (fun h => ?_) ?_ ?_ ?_
      · obtain ⟨j, hj, h'⟩ := g1 h; exact ⟨j, by omega, h'⟩
      · intro hn j j' hj hj' p1 p2
        have a1 : j < t := by
          rcases Nat.lt_or_ge j t with h | h
          · exact h
          · have : j = t := by omega
            subst this; exact absurd p1 hp
        have a2 : j' < t := by
          rcases Nat.lt_or_ge j' t with h | h
          · exact h
          · have : j' = t := by omega
            subst this; exact absurd p2 hp
        exact g2 hn j j' a1 a2 p1 p2
      · intro hn j hj p1
        rcases Nat.lt_or_ge j t with h | h
        · exact g3 hn j h p1
        · have : j = t := by omega
          subst this; exact hp p1
      · intro hit hpi
        rcases Nat.lt_or_ge i t with h | h
        · exact g4 h hpi
        · have : i = t := by omega
          subst this; exact absurd hpi hp

theorem exists_at {l : List Stop} {place : Int} (h : (st l 0).f0 ≤ place) (hl : 0 < l.length) : ∃ i, At l place i := by
  have go : ∀ (d t : Nat), t + d = l.length → t ≥ 1 → (∀ j, t ≤ j → j < l.length → place < (st l (j : Int)).f0) → ∃ i, At l place i := by
    intro d t
    induction t generalizing d with
    | zero => intro _ h1; omega
    | succ t ih =>
      intro ht _ hh
      by_cases hp : (st l (t : Int)).f0 ≤ place
      · exact ⟨t, by omega, hp, fun j hj hjl => hh j (by omega) hjl⟩
      · have : t ≠ 0 := by intro e; subst e; exact hp h
        exact ih (d + 1) (by omega) (by omega) (fun j hj hjl => by
          rcases Nat.lt_or_ge t j with h' | h'
          · exact hh j (by omega) hjl
          · have : j = t := by omega
            subst this; omega)
  exact go 0 l.length (by omega) (by omega) (fun j hj hjl => by omega)

theorem RampLies : celluloidlaw19_RampLies.Pure := by
  intro l place hl hp
  obtain ⟨k, hk⟩ : ∃ k : Nat, 3000 ≤ k := ⟨3000, by omega⟩
  refine ⟨k + 1, ?_⟩
  unfold celluloidlaw19_RampLies.f
  have none_ : ∀ b : Bool, b = true → celluloidlaw19_RampLies.j0 (k + 1) l place b = some true := by
    intro b hb
    rw [celluloidlaw19_RampLies.j0, if_pos hb, awake_eq k (by omega)]; rfl
  by_cases h20 : (l.length : Int) > 20
  · rw [if_pos h20]; exact none_ _ rfl
  · rw [if_neg h20, right19_eq (by omega) (k + 1) (by omega), Option.bind_some]
    by_cases hr : rightS l = true
    · rw [if_pos hr]
      by_cases hn : place < 0
      · rw [if_pos hn]; exact none_ _ rfl
      · rw [if_neg hn]
        by_cases h255 : place > 255
        · exact none_ _ (decide_eq_true h255)
        · rw [decide_eq_false h255, celluloidlaw19_RampLies.j0, if_neg (by simp)]
          have hr' := hr
          simp only [rightS, Bool.and_eq_true, decide_eq_true_eq] at hr'
          have hce := (color_eq (l := l) (place := place) (by omega) k (by omega)).1 ⟨hr, by omega, by omega⟩
          have run : ∀ (i : Nat) (c : Int × Int × Int × Int), i < l.length → (∀ j : Nat, j < l.length → (st l (j : Int)).f0 = place → j ≤ i ∧ (st l (i : Int)).f0 = place) → Bd4 l c →
              ((st l (i : Int)).f0 = place → (∀ j, j < l.length → (st l (j : Int)).f0 = place → j = i) → c = colOf (st l (i : Int))) → ramp_Color.f k l place = some c →
              ((ramp_Color.f k l place).bind fun bt198 => (if 0 < (l.length : Int) then (celluloidlaw19_RampLies.l0 k place 0 l (l.length : Int) 0 bt198.1 bt198.2.1 bt198.2.2.1 bt198.2.2.2 ((rd_T32 l 0).f1.f0) ((rd_T32 l 0).f1.f1) ((rd_T32 l 0).f1.f2) ((rd_T32 l 0).f1.f3) ((rd_T32 l 0).f1.f0) ((rd_T32 l 0).f1.f1) ((rd_T32 l 0).f1.f2) ((rd_T32 l 0).f1.f3) 0 0 0 0) else (none))) = some true := by
            intro i c hi hm hb hc hcol
            rw [hcol, Option.bind_some, if_pos (by omega)]
            refine lies_l0 (by omega) i hi hm c hb hc l.length 0 k 0 _ _ _ _ _ _ _ _ _ _ _ _ (by omega) (by omega) (by omega) (by omega) ?_ ?_ ?_ ?_ (fun h => by omega) (fun _ j j' h => by omega) (fun _ j h => by omega) (fun h => by omega) <;>
              exact fun j h => by omega
          by_cases h0 : place ≤ (st l 0).f0
          · rw [if_pos h0] at hce
            by_cases he : (st l 0).f0 = place
            · obtain ⟨i, hi⟩ := exists_at (l := l) (place := place) (by omega) (by omega)
              refine run i _ hi.1 (fun j hj hjp => ?_) (bd_col (i := 0) (by omega)) (fun e u => ?_) hce
              · have hle : j ≤ i := by
                  rcases Nat.lt_or_ge i j with h | h
                  · have := hi.2.2 j h hj; omega
                  · exact h
                have := (okS_at hr'.1 j hj).2.2.2 i hle hi.1
                have := hi.2.1
                exact ⟨hle, by omega⟩
              · have := u 0 (by omega) he
                subst this; rfl
            · refine run 0 _ (by omega) (fun j hj hjp => ?_) (bd_col (i := 0) (by omega)) (fun e u => rfl) hce
              have := (okS_at hr'.1 0 (by omega)).2.2.2 j (by omega) hj
              have e0 : (st l ((0 : Nat) : Int)).f0 = (st l 0).f0 := rfl
              omega
          · rw [if_neg h0] at hce
            obtain ⟨i, hi, hc⟩ := hce
            refine run i _ hi.1 (fun j hj hjp => ?_) (bd_at hr hi) (fun e _ => at_self e) hc
            have hle : j ≤ i := by
              rcases Nat.lt_or_ge i j with h | h
              · have := hi.2.2 j h hj; omega
              · exact h
            have := (okS_at hr'.1 j hj).2.2.2 i hle hi.1
            have := hi.2.1
            exact ⟨hle, by omega⟩
    · rw [if_neg hr]; exact none_ _ rfl
end Go.Proofs.Ytdphpilcokloeaa.Pure
