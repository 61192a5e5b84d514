/- Walks by cw.py (wip/tool): plain functions that tell what the program answers, and the proofs that the program comes to these answers, for all arguments of their kinds. -/
import Derived.Test.YtlldbmodidhidaaCx7
import Derived.Test.YtlldbmodidhidaaCwR
namespace Go.Proofs.Ytlldbmodidhidaa.P
open Go.RowKit Go.Proofs.YtlldbmodidhidaaW.PrintWords Go.Proofs.YtlldbmodidhidaaW.PrintLast Go.Proofs.YtlldbmodidhidaaW.PrintMore
attribute [local go_sem] max2_int min2_int max_two min_two max_three min_three max_four min_four max_five min_five max_six min_six
set_option linter.unusedVariables false
set_option linter.unusedSimpArgs false

/-! ### celluloidref09_one: function 36 -/
mutual
def celluloidref09_one.j0 : Nat → Int → Int → Bool → Int → Int → Int → Int → Int → Int → Int → Int → List (S65) → List (S79) → Option (Bool)
  | 0, _, _, _, _, _, _, _, _, _, _, _, _, _ => none
  | k + 1, x1, x2, x7, x307000, x307001, x307002, x307003, x307004, x307005, x307006, x307007, x307008, x307009 => if x307003 = 0 then (celluloidref09_one.j1 k x1 x2 x7 (decide ((wrap64 ((x307008.length : Int) + (x307009.length : Int))) > 0)) (x307004 != 0) x307000 x307001 x307002 x307003 x307004 x307005 x307006 x307007 x307008 x307009) else (celluloidref09_one.j1 k x1 x2 x7 (decide ((wrap64 ((x307008.length : Int) + (x307009.length : Int))) > 0)) true x307000 x307001 x307002 x307003 x307004 x307005 x307006 x307007 x307008 x307009)
def celluloidref09_one.j1 : Nat → Int → Int → Bool → Bool → Bool → Int → Int → Int → Int → Int → Int → Int → Int → List (S65) → List (S79) → Option (Bool)
  | 0, _, _, _, _, _, _, _, _, _, _, _, _, _, _, _ => none
  | k + 1, x1, x2, x7, x8, x9, x307000, x307001, x307002, x307003, x307004, x307005, x307006, x307007, x307008, x307009 => if x307001 = 0 then (celluloidref09_one.j2 k x1 x2 x7 x8 x9 (x307002 != 0) x307000 x307001 x307002 x307003 x307004 x307005 x307006 x307007 x307008 x307009) else (celluloidref09_one.j2 k x1 x2 x7 x8 x9 true x307000 x307001 x307002 x307003 x307004 x307005 x307006 x307007 x307008 x307009)
def celluloidref09_one.j2 : Nat → Int → Int → Bool → Bool → Bool → Bool → Int → Int → Int → Int → Int → Int → Int → Int → List (S65) → List (S79) → Option (Bool)
  | 0, _, _, _, _, _, _, _, _, _, _, _, _, _, _, _, _ => none
  | k + 1, x1, x2, x7, x8, x9, x10, x307000, x307001, x307002, x307003, x307004, x307005, x307006, x307007, x307008, x307009 => if x307000 = 1 then (if x7 = true then (some false) else (if x8 = true then (some false) else (if x9 = true then (some false) else ((celluloidref09_in.f x307001 (-1048576) 1048576).bind fun t307 => (if t307 = true then ((celluloidref09_in.f x307002 (-1048576) 1048576).bind fun t308 => (some t308)) else (some false)))))) else (if x307000 = 2 then (if x307005 > (-1) then (if x8 = true then (some false) else (if x9 = true then (some false) else (if x10 = true then (some false) else ((celluloidref09_in.f x307005 (-1) x1).bind fun t309 => (if t309 = true then ((celluloidref09_in.f x307006 (-1) x1).bind fun t310 => (if t310 = true then ((celluloidref09_in.f x307007 (-1) x2).bind fun t311 => (some t311)) else (some false))) else (some false)))))) else (if x307006 > (-1) then (if x8 = true then (some false) else (if x9 = true then (some false) else (if x10 = true then (some false) else ((celluloidref09_in.f x307005 (-1) x1).bind fun t312 => (if t312 = true then ((celluloidref09_in.f x307006 (-1) x1).bind fun t313 => (if t313 = true then ((celluloidref09_in.f x307007 (-1) x2).bind fun t314 => (some t314)) else (some false))) else (some false)))))) else (if x8 = true then (some false) else (if x9 = true then (some false) else (if x10 = true then (some false) else (if x307007 > (-1) then ((celluloidref09_in.f x307005 (-1) x1).bind fun t315 => (if t315 = true then ((celluloidref09_in.f x307006 (-1) x1).bind fun t316 => (if t316 = true then ((celluloidref09_in.f x307007 (-1) x2).bind fun t317 => (some t317)) else (some false))) else (some false))) else (some false))))))) else (if x307000 = 3 then (if x7 = true then (some false) else (if x9 = true then (some false) else (if x10 = true then (some false) else ((celluloidref08_Right.f k x307008 x307009).bind fun t318 => (some t318))))) else (if x307000 = 4 then (if x7 = true then (some false) else (if x8 = true then (some false) else (if x9 = true then (some false) else ((celluloidref09_in.f x307001 (-65536) 65535).bind fun t319 => (if t319 = true then ((celluloidref09_in.f x307002 (-65536) 65535).bind fun t320 => (some t320)) else (some false)))))) else (if x307000 = 5 then (if x7 = true then (some false) else (if x8 = true then (some false) else ((celluloidref09_in.f x307001 (-65536) 65535).bind fun t321 => (if t321 = true then ((celluloidref09_in.f x307002 (-65536) 65535).bind fun t322 => (if t322 = true then ((celluloidref09_in.f x307003 (-65536) 65535).bind fun t323 => (if t323 = true then ((celluloidref09_in.f x307004 (-65536) 65535).bind fun t324 => (some t324)) else (some false))) else (some false))) else (some false))))) else (some false)))))
end
def celluloidref09_one.f (k : Nat) (a0_0 : Int) (a0_1 : Int) (a0_2 : Int) (a0_3 : Int) (a0_4 : Int) (a0_5 : Int) (a0_6 : Int) (a0_7 : Int) (l0_8 : List (S65)) (l0_9 : List (S79)) (a1 : Int) (a2 : Int) : Option (Bool) := if a0_5 = 0 then (if a0_6 = 0 then (celluloidref09_one.j0 k a1 a2 (a0_7 != 0) a0_0 a0_1 a0_2 a0_3 a0_4 a0_5 a0_6 a0_7 l0_8 l0_9) else (celluloidref09_one.j0 k a1 a2 true a0_0 a0_1 a0_2 a0_3 a0_4 a0_5 a0_6 a0_7 l0_8 l0_9)) else (celluloidref09_one.j0 k a1 a2 true a0_0 a0_1 a0_2 a0_3 a0_4 a0_5 a0_6 a0_7 l0_8 l0_9)
theorem celluloidref09_one.mono_l : ∀ k, (∀ y0 y1 y2 y3 y4 y5 y6 y7 y8 y9 y10 y11 y12, LeO (celluloidref09_one.j0 k y0 y1 y2 y3 y4 y5 y6 y7 y8 y9 y10 y11 y12) (celluloidref09_one.j0 (k + 1) y0 y1 y2 y3 y4 y5 y6 y7 y8 y9 y10 y11 y12)) ∧ (∀ y0 y1 y2 y3 y4 y5 y6 y7 y8 y9 y10 y11 y12 y13 y14, LeO (celluloidref09_one.j1 k y0 y1 y2 y3 y4 y5 y6 y7 y8 y9 y10 y11 y12 y13 y14) (celluloidref09_one.j1 (k + 1) y0 y1 y2 y3 y4 y5 y6 y7 y8 y9 y10 y11 y12 y13 y14)) ∧ (∀ y0 y1 y2 y3 y4 y5 y6 y7 y8 y9 y10 y11 y12 y13 y14 y15, LeO (celluloidref09_one.j2 k y0 y1 y2 y3 y4 y5 y6 y7 y8 y9 y10 y11 y12 y13 y14 y15) (celluloidref09_one.j2 (k + 1) y0 y1 y2 y3 y4 y5 y6 y7 y8 y9 y10 y11 y12 y13 y14 y15))
  | 0 => ⟨fun _ _ _ _ _ _ _ _ _ _ _ _ _ r h => by simp [celluloidref09_one.j0] at h, fun _ _ _ _ _ _ _ _ _ _ _ _ _ _ _ r h => by simp [celluloidref09_one.j1] at h, fun _ _ _ _ _ _ _ _ _ _ _ _ _ _ _ _ r h => by simp [celluloidref09_one.j2] at h⟩
  | k + 1 => by
    obtain ⟨ih0, ih1, ih2⟩ := celluloidref09_one.mono_l k
    refine ⟨?_, ?_, ?_⟩
    · intro y0 y1 y2 y3 y4 y5 y6 y7 y8 y9 y10 y11 y12
      unfold celluloidref09_one.j0
      repeat' first
      | with_reducible exact ih0 _ _ _ _ _ _ _ _ _ _ _ _ _
      | with_reducible exact ih1 _ _ _ _ _ _ _ _ _ _ _ _ _ _ _
      | with_reducible exact ih2 _ _ _ _ _ _ _ _ _ _ _ _ _ _ _ _
      | with_reducible exact celluloidref08_Right.mono _ _ _
      | with_reducible exact LeO.refl _
      | with_reducible exact LeO.none _
      | with_reducible refine LeO.ite ?_ ?_
      | with_reducible refine LeO.bind ?_ (fun _ => ?_)
    · intro y0 y1 y2 y3 y4 y5 y6 y7 y8 y9 y10 y11 y12 y13 y14
      unfold celluloidref09_one.j1
      repeat' first
      | with_reducible exact ih0 _ _ _ _ _ _ _ _ _ _ _ _ _
      | with_reducible exact ih1 _ _ _ _ _ _ _ _ _ _ _ _ _ _ _
      | with_reducible exact ih2 _ _ _ _ _ _ _ _ _ _ _ _ _ _ _ _
      | with_reducible exact celluloidref08_Right.mono _ _ _
      | with_reducible exact LeO.refl _
      | with_reducible exact LeO.none _
      | with_reducible refine LeO.ite ?_ ?_
      | with_reducible refine LeO.bind ?_ (fun _ => ?_)
    · intro y0 y1 y2 y3 y4 y5 y6 y7 y8 y9 y10 y11 y12 y13 y14 y15
      unfold celluloidref09_one.j2
      repeat' first
      | with_reducible exact ih0 _ _ _ _ _ _ _ _ _ _ _ _ _
      | with_reducible exact ih1 _ _ _ _ _ _ _ _ _ _ _ _ _ _ _
      | with_reducible exact ih2 _ _ _ _ _ _ _ _ _ _ _ _ _ _ _ _
      | with_reducible exact celluloidref08_Right.mono _ _ _
      | with_reducible exact LeO.refl _
      | with_reducible exact LeO.none _
      | with_reducible refine LeO.ite ?_ ?_
      | with_reducible refine LeO.bind ?_ (fun _ => ?_)
theorem celluloidref09_one.mono : ∀ a0 a1 a2 a3 a4 a5 a6 a7 a8 a9 a10 a11 k, LeO (celluloidref09_one.f k a0 a1 a2 a3 a4 a5 a6 a7 a8 a9 a10 a11) (celluloidref09_one.f (k + 1) a0 a1 a2 a3 a4 a5 a6 a7 a8 a9 a10 a11) := by
  intro a0 a1 a2 a3 a4 a5 a6 a7 a8 a9 a10 a11 k
  obtain ⟨ih0, ih1, ih2⟩ := celluloidref09_one.mono_l k
  unfold celluloidref09_one.f
  repeat' first
      | with_reducible exact ih0 _ _ _ _ _ _ _ _ _ _ _ _ _
      | with_reducible exact ih1 _ _ _ _ _ _ _ _ _ _ _ _ _ _ _
      | with_reducible exact ih2 _ _ _ _ _ _ _ _ _ _ _ _ _ _ _ _
      | with_reducible exact celluloidref08_Right.mono _ _ _
      | with_reducible exact LeO.refl _
      | with_reducible exact LeO.none _
      | with_reducible refine LeO.ite ?_ ?_
      | with_reducible refine LeO.bind ?_ (fun _ => ?_)
set_option maxHeartbeats 8000000 in
set_option maxRecDepth 100000 in
theorem celluloidref09_one.cn {a0_0 a0_1 a0_2 a0_3 a0_4 a0_5 a0_6 a0_7 a1 a2 : Int} {k : Nat} {A0_8 : Option Addr} {n0_8 c0_8 : Nat} {l0_8 : List (S65)} {A0_9 : Option Addr} {n0_9 c0_9 : Nat} {l0_9 : List (S79)} {r : Bool} {w : World} (h : celluloidref09_one.f k a0_0 a0_1 a0_2 a0_3 a0_4 a0_5 a0_6 a0_7 l0_8 l0_9 a1 a2 = some r) (hr0_8 : Kd.C k65 w A0_8 n0_8 l0_8) (hc0_8 : n0_8 ≤ c0_8) (hr0_9 : Kd.C k79 w A0_9 n0_9 l0_9) (hc0_9 : n0_9 ≤ c0_9) :
    Calls Try.prog 36 #[.agg #[.int .i64 a0_0, .int .i64 a0_1, .int .i64 a0_2, .int .i64 a0_3, .int .i64 a0_4, .int .i64 a0_5, .int .i64 a0_6, .int .i64 a0_7, .slice A0_8 n0_8 c0_8, .slice A0_9 n0_9 c0_9], .int .i64 a1, .int .i64 a2] w fun e w' => e = .returned (.bool r) ∧ Below w.heap.size w w' := by
  obtain rfl := hr0_8.1
  obtain rfl := hr0_9.1
  have HC0_8 := za hr0_8; have HL0_8 := za hc0_8; clear hr0_8 hc0_8
  have HC0_9 := za hr0_9; have HL0_9 := za hc0_9; clear hr0_9 hc0_9
  have hu49 := Try.underlying49
  unfold celluloidref09_one.f at h
  have HC := za h; clear h
  go_enter Try.func36, Try.ntmps36
  go_upto_region 1 with (fail)
  (try simp only [Act.put, q1, q2, q3])
  go_cut [7] (fun v7 wc => ∃ (kq : Nat) (x7_3 : Bool), v7 = .bool x7_3 ∧ Aside0 (celluloidref09_one.j0 kq a1 a2 x7_3 a0_0 a0_1 a0_2 a0_3 a0_4 a0_5 a0_6 a0_7 l0_8 l0_9 = some r) ∧ Aside0 (wc.heap[w.heap.size]? = some (.cells #[.int .i64 a0_0, .int .i64 a0_1, .int .i64 a0_2, .int .i64 a0_3, .int .i64 a0_4, .int .i64 a0_5, .int .i64 a0_6, .int .i64 a0_7, (.slice A0_8 l0_8.length c0_8), (.slice A0_9 l0_9.length c0_9)] 49 (0, 0))) ∧ Aside0 (Below w.heap.size w wc))
  case first =>
    have h := HC.out; clear HC
    repeat' first
      | (with_reducible replace h := zs h)
      | (with_reducible replace h := zez h (by assumption) (by decide))
      | (with_reducible replace h := zb h; obtain ⟨t, A, h⟩ := h)
      | (with_reducible first | replace h := z1 h | replace h := z0 h | replace h := zep h (by assumption) | replace h := zen h (by assumption) | replace h := zcp h (by assumption) | replace h := zcn h (by assumption) | replace h := zbp h (by assumption) | replace h := zbn h (by assumption))
      | (with_reducible (first | replace h := zx h | replace h := zt h); obtain ⟨rfl, h⟩ | ⟨rfl, h⟩ := h)
      | (with_reducible (first | replace h := zd h | replace h := zl h | replace h := zm h); obtain ⟨c, h⟩ | ⟨c, h⟩ := h)
      | (with_reducible (first | replace h := ze h | replace h := zg h); obtain ⟨c, c', h⟩ | ⟨c, c', h⟩ := h)
      | (with_reducible replace h := zt h; obtain ⟨c, h⟩ | ⟨c, h⟩ := h)
      | (with_reducible replace h := Option.some.inj h; subst h)
      | (with_reducible exact (zn h).elim)
    all_goals
      try (have H' := za h; clear h)
      go_wp2_with (first
      | ((with_reducible refine zq ?_); first | go_quiet ((first | (go_at_call 22; refine Calls.quiet_of ((celluloidref09_in.cn (by assumption : Aside0 _).out).mono fun _ _ h => ⟨h.1, h.2.out⟩)))))
      | (go_at_call 24; refine (celluloidref08_Right.cn (by assumption : Aside0 _).out ?_ ?_ ?_ ?_).mono ?_; (focus with_reducible first | exact znil | exact zC (by assumption)); (first | exact Nat.le_refl _ | exact (by assumption : Aside0 _).out); (focus with_reducible first | exact znil | exact zC (by assumption)); (first | exact Nat.le_refl _ | exact (by assumption : Aside0 _).out); rintro e w' ⟨rfl, hb⟩; obtain ⟨hb, hc, hf⟩ := zk hb; have hy := zy w w'; simp only [zL, Nat.add_zero] at hy)
      | (go_at_call 22; refine (celluloidref09_in.cn (by assumption : Aside0 _).out).mono ?_; rintro e w' ⟨rfl, ⟨n, rfl⟩⟩))
      go_meet
      case rel => (refine ⟨_, _, ?_, H', ⟨by (with_reducible repeat (first | exact (by assumption : Aside0 _).out | (refine znew ?_; simp only [World.size_alloc, World.heap_drewN, heap_drew]; done) | refine blk_alloc ?_ _ | refine blk_drewN ?_ _ | refine blk_drew ?_ | refine blk_below ?_ Bs.out | apply zput | (refine zfar ?_ ?_; (focus omega)))) <;> rfl⟩, ⟨Bw.out⟩⟩; all_goals first | rfl | (simp; done) | (simp [*]; done))
  case rest =>
    obtain ⟨kq, x7_3, rfl, HA, BK0, HB⟩ := hcut
    have HB := Bw.mk HB.out; clear HC
    cases kq with
    | zero => exact absurd HA.out (by simp [celluloidref09_one.j0])
    | succ kq =>
      have HC := HA.out; simp only [celluloidref09_one.j0] at HC; replace HC := za HC; clear HA
      obtain ⟨hc0, hf0, hz0⟩ := zo BK0.out
      have HN : Lw w wc 1 := ⟨by have := blk_lt BK0.out; omega⟩
      go_upto_region 3 with (fail)
      (try simp only [Act.put, q1, q2, q3])
      go_cut [9] (fun v9 wc => ∃ (kq : Nat) (x9_10 : Bool), v9 = .bool x9_10 ∧ Aside0 (celluloidref09_one.j1 kq a1 a2 x7_3 (decide ((wrap64 ((l0_8.length : Int) + (l0_9.length : Int))) > 0)) x9_10 a0_0 a0_1 a0_2 a0_3 a0_4 a0_5 a0_6 a0_7 l0_8 l0_9 = some r) ∧ Aside0 (wc.heap[w.heap.size]? = some (.cells #[.int .i64 a0_0, .int .i64 a0_1, .int .i64 a0_2, .int .i64 a0_3, .int .i64 a0_4, .int .i64 a0_5, .int .i64 a0_6, .int .i64 a0_7, (.slice A0_8 l0_8.length c0_8), (.slice A0_9 l0_9.length c0_9)] 49 (0, 0))) ∧ Aside0 (Below w.heap.size w wc))
      case first =>
        have h := HC.out; clear HC
        repeat' first
          | (with_reducible replace h := zs h)
          | (with_reducible replace h := zez h (by assumption) (by decide))
          | (with_reducible replace h := zb h; obtain ⟨t, A, h⟩ := h)
          | (with_reducible first | replace h := z1 h | replace h := z0 h | replace h := zep h (by assumption) | replace h := zen h (by assumption) | replace h := zcp h (by assumption) | replace h := zcn h (by assumption) | replace h := zbp h (by assumption) | replace h := zbn h (by assumption))
          | (with_reducible (first | replace h := zx h | replace h := zt h); obtain ⟨rfl, h⟩ | ⟨rfl, h⟩ := h)
          | (with_reducible (first | replace h := zd h | replace h := zl h | replace h := zm h); obtain ⟨c, h⟩ | ⟨c, h⟩ := h)
          | (with_reducible (first | replace h := ze h | replace h := zg h); obtain ⟨c, c', h⟩ | ⟨c, c', h⟩ := h)
          | (with_reducible replace h := zt h; obtain ⟨c, h⟩ | ⟨c, h⟩ := h)
          | (with_reducible replace h := Option.some.inj h; subst h)
          | (with_reducible exact (zn h).elim)
        all_goals
          try (have H' := za h; clear h)
          go_wp2_with (first
          | ((with_reducible refine zq ?_); first | go_quiet ((first | (go_at_call 22; refine Calls.quiet_of ((celluloidref09_in.cn (by assumption : Aside0 _).out).mono fun _ _ h => ⟨h.1, h.2.out⟩)))))
          | (go_at_call 24; refine (celluloidref08_Right.cn (by assumption : Aside0 _).out ?_ ?_ ?_ ?_).mono ?_; (focus with_reducible first | exact znil | exact zC (by assumption)); (first | exact Nat.le_refl _ | exact (by assumption : Aside0 _).out); (focus with_reducible first | exact znil | exact zC (by assumption)); (first | exact Nat.le_refl _ | exact (by assumption : Aside0 _).out); rintro e w' ⟨rfl, hb⟩; obtain ⟨hb, hc, hf⟩ := zk hb; have hy := zy w w'; simp only [zL, Nat.add_zero] at hy; have hy := zy wc w'; simp only [zL, Nat.add_zero] at hy)
          | (go_at_call 22; refine (celluloidref09_in.cn (by assumption : Aside0 _).out).mono ?_; rintro e w' ⟨rfl, ⟨n, rfl⟩⟩))
          go_meet
          case rel => (refine ⟨_, _, ?_, H', ⟨by (with_reducible repeat (first | exact (by assumption : Aside0 _).out | (refine znew ?_; simp only [World.size_alloc, World.heap_drewN, heap_drew]; done) | refine blk_alloc ?_ _ | refine blk_drewN ?_ _ | refine blk_drew ?_ | refine blk_below ?_ Bs.out | apply zput | (refine zfar ?_ ?_; (focus omega)))) <;> rfl⟩, ⟨Bw.out⟩⟩; all_goals first | rfl | (simp; done) | (simp [*]; done))
      case rest =>
        obtain ⟨kq, x9_10, rfl, HA, BK0, HB⟩ := hcut
        have HB := Bw.mk HB.out; clear HC
        cases kq with
        | zero => exact absurd HA.out (by simp [celluloidref09_one.j1])
        | succ kq =>
          have HC := HA.out; simp only [celluloidref09_one.j1] at HC; replace HC := za HC; clear HA
          obtain ⟨hc0, hf0, hz0⟩ := zo BK0.out
          have HN : Lw w wc 1 := ⟨by have := blk_lt BK0.out; omega⟩
          go_upto_region 4 with (fail)
          (try simp only [Act.put, q1, q2, q3])
          go_cut [10] (fun v10 wc => ∃ (kq : Nat) (x10_15 : Bool), v10 = .bool x10_15 ∧ Aside0 (celluloidref09_one.j2 kq a1 a2 x7_3 (decide ((wrap64 ((l0_8.length : Int) + (l0_9.length : Int))) > 0)) x9_10 x10_15 a0_0 a0_1 a0_2 a0_3 a0_4 a0_5 a0_6 a0_7 l0_8 l0_9 = some r) ∧ Aside0 (wc.heap[w.heap.size]? = some (.cells #[.int .i64 a0_0, .int .i64 a0_1, .int .i64 a0_2, .int .i64 a0_3, .int .i64 a0_4, .int .i64 a0_5, .int .i64 a0_6, .int .i64 a0_7, (.slice A0_8 l0_8.length c0_8), (.slice A0_9 l0_9.length c0_9)] 49 (0, 0))) ∧ Aside0 (Below w.heap.size w wc))
          case first =>
            have h := HC.out; clear HC
            repeat' first
              | (with_reducible replace h := zs h)
              | (with_reducible replace h := zez h (by assumption) (by decide))
              | (with_reducible replace h := zb h; obtain ⟨t, A, h⟩ := h)
              | (with_reducible first | replace h := z1 h | replace h := z0 h | replace h := zep h (by assumption) | replace h := zen h (by assumption) | replace h := zcp h (by assumption) | replace h := zcn h (by assumption) | replace h := zbp h (by assumption) | replace h := zbn h (by assumption))
              | (with_reducible (first | replace h := zx h | replace h := zt h); obtain ⟨rfl, h⟩ | ⟨rfl, h⟩ := h)
              | (with_reducible (first | replace h := zd h | replace h := zl h | replace h := zm h); obtain ⟨c, h⟩ | ⟨c, h⟩ := h)
              | (with_reducible (first | replace h := ze h | replace h := zg h); obtain ⟨c, c', h⟩ | ⟨c, c', h⟩ := h)
              | (with_reducible replace h := zt h; obtain ⟨c, h⟩ | ⟨c, h⟩ := h)
              | (with_reducible replace h := Option.some.inj h; subst h)
              | (with_reducible exact (zn h).elim)
            all_goals
              try (have H' := za h; clear h)
              go_wp2_with (first
              | ((with_reducible refine zq ?_); first | go_quiet ((first | (go_at_call 22; refine Calls.quiet_of ((celluloidref09_in.cn (by assumption : Aside0 _).out).mono fun _ _ h => ⟨h.1, h.2.out⟩)))))
              | (go_at_call 24; refine (celluloidref08_Right.cn (by assumption : Aside0 _).out ?_ ?_ ?_ ?_).mono ?_; (focus with_reducible first | exact znil | exact zC (by assumption)); (first | exact Nat.le_refl _ | exact (by assumption : Aside0 _).out); (focus with_reducible first | exact znil | exact zC (by assumption)); (first | exact Nat.le_refl _ | exact (by assumption : Aside0 _).out); rintro e w' ⟨rfl, hb⟩; obtain ⟨hb, hc, hf⟩ := zk hb; have hy := zy w w'; simp only [zL, Nat.add_zero] at hy; have hy := zy wc w'; simp only [zL, Nat.add_zero] at hy)
              | (go_at_call 22; refine (celluloidref09_in.cn (by assumption : Aside0 _).out).mono ?_; rintro e w' ⟨rfl, ⟨n, rfl⟩⟩))
              go_meet
              case rel => (refine ⟨_, _, ?_, H', ⟨by (with_reducible repeat (first | exact (by assumption : Aside0 _).out | (refine znew ?_; simp only [World.size_alloc, World.heap_drewN, heap_drew]; done) | refine blk_alloc ?_ _ | refine blk_drewN ?_ _ | refine blk_drew ?_ | refine blk_below ?_ Bs.out | apply zput | (refine zfar ?_ ?_; (focus omega)))) <;> rfl⟩, ⟨Bw.out⟩⟩; all_goals first | rfl | (simp; done) | (simp [*]; done))
          case rest =>
            obtain ⟨kq, x10_15, rfl, HA, BK0, HB⟩ := hcut
            have HB := Bw.mk HB.out; clear HC
            cases kq with
            | zero => exact absurd HA.out (by simp [celluloidref09_one.j2])
            | succ kq =>
              have HC := HA.out; simp only [celluloidref09_one.j2] at HC; replace HC := za HC; clear HA
              obtain ⟨hc0, hf0, hz0⟩ := zo BK0.out
              have HN : Lw w wc 1 := ⟨by have := blk_lt BK0.out; omega⟩
              have h := HC.out; clear HC
              refine zG (fun G hG => ?_)
              iterate 16 (all_goals (try (first
                  | (with_reducible replace h := zs h)
                  | (with_reducible replace h := zez h (by assumption) (by decide))
                  | (with_reducible replace h := zb h; obtain ⟨t, A, h⟩ := h)
                  | (with_reducible first | replace h := z1 h | replace h := z0 h | replace h := zep h (by assumption) | replace h := zen h (by assumption) | replace h := zcp h (by assumption) | replace h := zcn h (by assumption) | replace h := zbp h (by assumption) | replace h := zbn h (by assumption))
                  | (with_reducible (first | replace h := zx h | replace h := zt h); obtain ⟨c, h⟩ | ⟨c, h⟩ := h)
                  | (with_reducible (first | replace h := zd h | replace h := zl h | replace h := zm h); obtain ⟨c, h⟩ | ⟨c, h⟩ := h)
                  | (with_reducible (first | replace h := ze h | replace h := zg h); obtain ⟨c, c', h⟩ | ⟨c, c', h⟩ := h)
                  | (with_reducible replace h := zt h; obtain ⟨c, h⟩ | ⟨c, h⟩ := h)
                  | (with_reducible replace h := Option.some.inj h; subst h)
                  | (with_reducible exact (zn h).elim)
                  | (obtain _ | kq := kq; exact absurd h (by simp [celluloidref09_one.j0, celluloidref09_one.j1, celluloidref09_one.j2]); simp only [celluloidref09_one.j0, celluloidref09_one.j1, celluloidref09_one.j2, if_true, if_false, Bool.false_eq_true] at h))))
              all_goals subst hG
              all_goals
                try (have H' := za h; clear h)
                go_wp2_with (first
                  | ((with_reducible refine zq ?_); first | go_quiet ((first | (go_at_call 22; refine Calls.quiet_of ((celluloidref09_in.cn (by assumption : Aside0 _).out).mono fun _ _ h => ⟨h.1, h.2.out⟩)))))
                  | (go_at_call 24; refine (celluloidref08_Right.cn (by assumption : Aside0 _).out ?_ ?_ ?_ ?_).mono ?_; (focus with_reducible first | exact znil | exact zC (by assumption)); (first | exact Nat.le_refl _ | exact (by assumption : Aside0 _).out); (focus with_reducible first | exact znil | exact zC (by assumption)); (first | exact Nat.le_refl _ | exact (by assumption : Aside0 _).out); rintro e w' ⟨rfl, hb⟩; obtain ⟨hb, hc, hf⟩ := zk hb; have hy := zy w w'; simp only [zL, Nat.add_zero] at hy; have hy := zy wc w'; simp only [zL, Nat.add_zero] at hy)
                  | (go_at_call 22; refine (celluloidref09_in.cn (by assumption : Aside0 _).out).mono ?_; rintro e w' ⟨rfl, ⟨n, rfl⟩⟩))
              all_goals first
                | (go_ret; exact ⟨rfl, Bw.out⟩)

end Go.Proofs.Ytlldbmodidhidaa.P
