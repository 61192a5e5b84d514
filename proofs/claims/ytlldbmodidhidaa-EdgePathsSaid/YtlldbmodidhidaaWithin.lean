/- shape.within: whether all numbers lie from one to another one: the walks of it, of its function literal, and of the library's two functions that it hands the literal to. -/
import Derived.Test.YtlldbmodidhidaaProg
import Derived.Test.YtlldbmodidhidaaWWords
import Derived.Test.YtlldbmodidhidaaWLast
import Derived.Test.YtlldbmodidhidaaWMore
import Derived.Test.YtlldbmodidhidaaWAt
import Derived.WalkKit
import Derived.Deep.LoopGhost
import Derived.Deep.Draws
import Derived.KernelRfl
namespace Go.Proofs.Ytlldbmodidhidaa.P
open Go.RowKit Go.Proofs.YtlldbmodidhidaaW.PrintWords Go.Proofs.YtlldbmodidhidaaW.PrintLast Go.Proofs.YtlldbmodidhidaaW.PrintMore
set_option linter.unusedVariables false
theorem within_lit (x a b : Int) (p q : Nat) (w : World) (hp : w.cell? ⟨p, 0, none⟩ = some (.int .i64 a)) (hq : w.cell? ⟨q, 0, none⟩ = some (.int .i64 b)) (r : Bool) (hr : r = decide (¬ (a ≤ x ∧ x ≤ b))) :
    Calls Try.prog 39 #[.int .i64 x, .pointer (some ⟨p, 0, none⟩), .pointer (some ⟨q, 0, none⟩)] w fun e w' => e = .returned (.bool r) ∧ Drawn0 w w' := by
  by_cases h1 : x < a
  · have e : r = true := by rw [hr]; apply decide_eq_true; omega
    have h1' : decide (x < a) = true := decide_eq_true h1
    clear hr h1
    subst e
    go_enter Try.func39, Try.ntmps39
    go_wp2
    go_ret
    exact ⟨by first | rfl | (simp; done) | (simp [*]; done), by repeat (first | exact Drawn0.refl _ | apply Drawn0.step)⟩
  · have h1' : decide (x < a) = false := decide_eq_false h1
    have e : r = decide (b < x) := by rw [hr]; apply decide_eq_decide.mpr; omega
    clear hr h1
    subst e
    go_enter Try.func39, Try.ntmps39
    go_wp2
    go_ret
    exact ⟨by first | rfl | (simp; done) | (simp [*]; done), by repeat (first | exact Drawn0.refl _ | apply Drawn0.step)⟩
def IdxPost (a b : Int) (l : List Int) (w : World) (e : Ending) (w' : World) : Prop := ∃ r : Int, e = .returned (.int .i64 r) ∧ Aside0 (0 ≤ r ↔ ¬ ∀ x ∈ l, a ≤ x ∧ x ≤ b) ∧ Drawn0 w w'
set_option maxHeartbeats 2000000 in
set_option maxRecDepth 100000 in
theorem within_index (a b : Int) (p q : Nat) (A : Option Addr) (c : Nat) (l : List Int) (w : World) (hp : w.cell? ⟨p, 0, none⟩ = some (.int .i64 a)) (hq : w.cell? ⟨q, 0, none⟩ = some (.int .i64 b)) (hr : Kd.C (Kd.int .i64) w A l.length l) (hc : l.length ≤ c) (hm : l.length ≤ 9223372036854775807) :
    Calls Try.prog 50 #[.slice A l.length c, .func (.func 39) #[] #[.pointer (some ⟨p, 0, none⟩), .pointer (some ⟨q, 0, none⟩)]] w (IdxPost a b l w) := by
  have HP := Aside0.mk hp
  have HQ := Aside0.mk hq
  have HR := Aside0.mk hr
  clear hp hq hr
  go_enter Try.func50, Try.ntmps50
  go_wp2
  go_loopg [5, 8] l.length (fun gg _ s8 wr => ∃ kk : Nat, s8 = .int .i64 kk ∧ Aside0 (kk ≤ l.length ∧ l.length - kk ≤ gg ∧ ∀ j : Nat, j < kk → a ≤ rd l j ∧ rd l j ≤ b) ∧ Drawn0 w wr)
  case atStart => exact ⟨0, rfl, ⟨Nat.zero_le _, by omega, fun j hj => by omega⟩, Drawn0.refl _⟩
  case round =>
    obtain ⟨kk, rfl, HA, ⟨m1, rfl⟩⟩ := hrel
    by_cases hlt : kk < l.length
    · have c1 : decide ((kk : Int) < (l.length : Int)) = true := decide_eq_true (by omega)
      have c2 : decide (kk < l.length) = true := decide_eq_true hlt
      obtain ⟨ad, ee, hx⟩ := Kd.at_int HR.out (kk : Int) (by omega) (by omega)
      cases ee
      simp only [Int.toNat_natCast] at hx
      have p1 : 0 ≤ (kk : Int) := by omega
      have q1 : (kk : Int) < (l.length : Int) := by omega
      have W1 : wrap64 ((kk : Int) + 1) = ((kk + 1 : Nat) : Int) := by unfold wrap64; omega
      replace W1 := Aside0.mk W1
      have hok : ∀ x : Int, x = rd l (kk : Int) → (¬ ∀ y ∈ l, a ≤ y ∧ y ≤ b) ∨ (a ≤ x ∧ x ≤ b) := by
        rintro x rfl
        by_cases h : a ≤ rd l (kk : Int) ∧ rd l (kk : Int) ≤ b
        · exact .inr h
        · refine .inl fun hh => h (hh _ ?_)
          have : rd l (kk : Int) = l[kk] := by simp [rd, List.getD_eq_getElem?_getD, hlt]
          rw [this]; exact List.getElem_mem _
      replace hok := Aside0.mk hok
      generalize hy : rd l (kk : Int) = y at hx
      replace hy := Aside0.mk hy
      by_cases ho : a ≤ y ∧ y ≤ b
      · have hd : false = decide (¬ (a ≤ y ∧ y ≤ b)) := (decide_eq_false (fun h => h ho)).symm
        replace ho := Aside0.mk ho
        replace hd := Aside0.mk hd
        replace p1 := eq_true p1
        replace q1 := eq_true q1
        clear hlt hm hc
        go_wp2_with (go_at_call 39; go_loud (refine (within_lit _ a b p q _ (by exact HP.out) (by exact HQ.out) false hd.out).mono ?_); rintro e w' ⟨rfl, ⟨nd, rfl⟩⟩)
        go_roundg (l.length - (kk + 1))
        case measure => have := HA.out; have := of_eq_true q1; omega
        case rel =>
          refine ⟨kk + 1, ?_, ?_, by repeat (first | exact Drawn0.refl _ | apply Drawn0.step)⟩
          · first | rfl | (rw [← W1.out]) | (congr 1; omega)
          · refine ⟨by have := of_eq_true q1; omega, Nat.le_refl _, fun j hj => ?_⟩
            by_cases e : j = kk
            · subst e; rw [hy.out]; exact ho.out
            · exact HA.out.2.2 j (by omega)
      · have hd : true = decide (¬ (a ≤ y ∧ y ≤ b)) := (decide_eq_true ho).symm
        have hno : ¬ ∀ z ∈ l, a ≤ z ∧ z ≤ b := by
          rcases hok.out y hy.out.symm with h | h
          · exact h
          · exact absurd h ho
        replace hno := Aside0.mk hno
        replace hd := Aside0.mk hd
        replace p1 := eq_true p1
        replace q1 := eq_true q1
        clear hlt hm hc ho
        go_wp2_with (go_at_call 39; go_loud (refine (within_lit _ a b p q _ (by exact HP.out) (by exact HQ.out) true hd.out).mono ?_); rintro e w' ⟨rfl, ⟨nd, rfl⟩⟩)
        go_ret
        exact ⟨_, rfl, ⟨fun _ => hno.out, fun _ => by omega⟩, by repeat (first | exact Drawn0.refl _ | apply Drawn0.step)⟩
    · have c1 : decide ((kk : Int) < (l.length : Int)) = false := decide_eq_false (by omega)
      have c2 : decide (kk < l.length) = false := decide_eq_false hlt
      have hall : ∀ z ∈ l, a ≤ z ∧ z ≤ b := by
        intro z hz
        obtain ⟨i, hi, rfl⟩ := List.getElem_of_mem hz
        have := HA.out.2.2 i (by omega)
        have e : rd l (i : Int) = l[i] := by simp [rd, List.getD_eq_getElem?_getD, hi]
        rw [e] at this; exact this
      replace hall := Aside0.mk hall
      clear hlt hm hc
      go_wp2
      go_ret
      exact ⟨_, rfl, ⟨fun h => absurd h (by decide), fun h => absurd hall.out h⟩, by repeat (first | exact Drawn0.refl _ | apply Drawn0.step)⟩
theorem within_contains (a b : Int) (p q : Nat) (A : Option Addr) (c : Nat) (l : List Int) (w : World) (hp : w.cell? ⟨p, 0, none⟩ = some (.int .i64 a)) (hq : w.cell? ⟨q, 0, none⟩ = some (.int .i64 b)) (hr : Kd.C (Kd.int .i64) w A l.length l) (hc : l.length ≤ c) (hm : l.length ≤ 9223372036854775807) :
    Calls Try.prog 38 #[.slice A l.length c, .func (.func 39) #[] #[.pointer (some ⟨p, 0, none⟩), .pointer (some ⟨q, 0, none⟩)]] w fun e w' => e = .returned (.bool (!decide (∀ x ∈ l, a ≤ x ∧ x ≤ b))) ∧ Drawn0 w w' := by
  have hcon := within_index a b p q A c l w hp hq hr hc hm
  clear hp hq hr hc hm
  generalize hz : (!decide (∀ x ∈ l, a ≤ x ∧ x ≤ b)) = z
  replace hz := Aside0.mk hz
  replace hcon := Aside0.mk hcon
  go_enter Try.func38, Try.ntmps38
  go_wp2_with (go_at_call 50; refine hcon.out.mono ?_; rintro e w' ⟨r, rfl, hr, ⟨nd, rfl⟩⟩)
  go_ret
  refine ⟨?_, by repeat (first | exact Drawn0.refl _ | apply Drawn0.step)⟩
  have : decide (0 ≤ r) = z := by
    rw [← hz.out]
    by_cases h : 0 ≤ r
    · rw [decide_eq_true h, decide_eq_false (hr.out.mp h)]; rfl
    · have : ∀ x ∈ l, a ≤ x ∧ x ≤ b := Decidable.byContradiction fun hh => h (hr.out.mpr hh)
      rw [decide_eq_false h, decide_eq_true this]; rfl
  first | rfl | (simp [this]; done) | (rw [this]; rfl) | (go_simp; rw [this])
theorem within_walk (a b : Int) (A : Option Addr) (c : Nat) (l : List Int) (w : World) (hr : Kd.C (Kd.int .i64) w A l.length l) (hc : l.length ≤ c) :
    Calls Try.prog 29 #[.int .i64 a, .int .i64 b, .slice A l.length c] w fun e w' => e = .returned (.bool (decide (∀ x ∈ l, a ≤ x ∧ x ≤ b))) ∧ Below w.heap.size w w' := by
  have hm := hr.2.1
  have HR := Aside0.mk hr
  have HB := Aside0.mk (Below.refl w.heap.size w)
  clear hr
  go_enter Try.func29, Try.ntmps29
  go_wp2_with (go_at_call 38; refine (within_contains a b _ _ A c l _ ?hp ?hq ?hr hc hm).mono ?_; (case hp => go_simp); (case hq => go_simp); (case hr => repeat (first | exact HR.out | (with_reducible refine Kd.C_alloc ?_ _) | (with_reducible refine Kd.C_drewN ?_ _) | (with_reducible refine Kd.C_drew ?_))); rintro e w' ⟨rfl, ⟨nd, rfl⟩⟩)
  go_ret
  exact ⟨by first | rfl | (simp; done) | (simp [*]; done), by repeat (first | (with_reducible first | exact HB.out | apply below_alloc | apply pw_below_drewN | apply below_drew1) | exact HB.out)⟩
end Go.Proofs.Ytlldbmodidhidaa.P
