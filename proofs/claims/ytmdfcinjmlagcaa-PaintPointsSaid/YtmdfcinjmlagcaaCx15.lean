/- Walks by cw.py (wip/tool): plain functions that tell what the program answers, and the proofs that the program comes to these answers, for all arguments of their kinds. -/
import Derived.Test.YtmdfcinjmlagcaaCx12
namespace Go.Proofs.Ytmdfcinjmlagcaa.P
open Go.RowKit Go.Proofs.YtmdfcinjmlagcaaW.PrintWords Go.Proofs.YtmdfcinjmlagcaaW.PrintLast Go.Proofs.YtmdfcinjmlagcaaW.PrintMore
attribute [local go_sem] max2_int min2_int max_two min_two max_three min_three max_four min_four max_five min_five max_six min_six
set_option linter.unusedVariables false
set_option linter.unusedSimpArgs false

/-! ### celluloidref14_Far: function 64 -/
def celluloidref14_Far.f (a0_0 : Int) (a0_1 : Int) (a1 : Int) : Option (Bool) := if a0_0 > a1 then (some true) else (if a0_0 < (wrap64 (-a1)) then (some true) else (if a0_1 > a1 then (some true) else (some (decide (a0_1 < (wrap64 (-a1)))))))

set_option maxHeartbeats 8000000 in
set_option maxRecDepth 100000 in
theorem celluloidref14_Far.cn {a0_0 a0_1 a1 : Int} {r : Bool} {w : World} (h : celluloidref14_Far.f a0_0 a0_1 a1 = some r) :
    Calls Try.prog 64 #[.agg #[.int .i64 a0_0, .int .i64 a0_1], .int .i64 a1] w fun e w' => e = .returned (.bool r) ∧ Below w.heap.size w w' := by
  have hu37 := Try.underlying37
  unfold celluloidref14_Far.f at h
  repeat' first
    | (with_reducible replace h := zs h)
    | (with_reducible replace h := zez h (by assumption) (by decide))
    | (with_reducible replace h := zb h; obtain ⟨t, A, h⟩ := h)
    | (with_reducible first | replace h := z1 h | replace h := z0 h | replace h := zep h (by assumption) | replace h := zen h (by assumption) | replace h := zcp h (by assumption) | replace h := zcn h (by assumption) | replace h := zbp h (by assumption) | replace h := zbn h (by assumption))
    | (with_reducible (first | replace h := zx h | replace h := zt h); obtain ⟨rfl, h⟩ | ⟨rfl, h⟩ := h)
    | (with_reducible (first | replace h := zd h | replace h := zl h | replace h := zm h); obtain ⟨c, h⟩ | ⟨c, h⟩ := h)
    | (with_reducible (first | replace h := ze h | replace h := zg h); obtain ⟨c, c', h⟩ | ⟨c, c', h⟩ := h)
    | (with_reducible replace h := zt h; obtain ⟨c, h⟩ | ⟨c, h⟩ := h)
    | (with_reducible replace h := Option.some.inj h; subst h)
    | (with_reducible exact (zn h).elim)
  all_goals
    try (have H' := za h; clear h)
    go_enter Try.func64, Try.ntmps64
    go_wp2_with (first
      | ((with_reducible refine zq ?_); first | go_quiet (fail)))
  all_goals first
    | (go_ret; exact ⟨rfl, Bw.out⟩)

/-! ### celluloidref14_Back: function 37 -/
def celluloidref14_Back.j0 : Nat → Bool → Int → Int → Int → Int → Int → Int → Int → Int → Option (Int × Int × Bool)
  | 0, _, _, _, _, _, _, _, _, _ => none
  | k + 1, x30, x474000, x474001, x474002, x474003, x474004, x474005, x475000, x475001 => if x30 = true then (some (0, 0, false)) else (if (wrap64 ((wrap64 (x474000 * x474003)) - (wrap64 (x474001 * x474002)))) < 0 then ((celluloidref14_floor.f (wrap64 (-(wrap64 ((wrap64 (x474003 * (wrap64 ((wrap64 (20480 * x475000)) - (wrap64 (65536 * x474004)))))) - (wrap64 (x474002 * (wrap64 ((wrap64 (20480 * x475001)) - (wrap64 (65536 * x474005)))))))))) (wrap64 (-(wrap64 ((wrap64 (x474000 * x474003)) - (wrap64 (x474001 * x474002))))))).bind fun t478 => ((celluloidref14_floor.f (wrap64 (-(wrap64 ((wrap64 (x474000 * (wrap64 ((wrap64 (20480 * x475001)) - (wrap64 (65536 * x474005)))))) - (wrap64 (x474001 * (wrap64 ((wrap64 (20480 * x475000)) - (wrap64 (65536 * x474004)))))))))) (wrap64 (-(wrap64 ((wrap64 (x474000 * x474003)) - (wrap64 (x474001 * x474002))))))).bind fun t479 => (some (t478, t479, true)))) else ((celluloidref14_floor.f (wrap64 ((wrap64 (x474003 * (wrap64 ((wrap64 (20480 * x475000)) - (wrap64 (65536 * x474004)))))) - (wrap64 (x474002 * (wrap64 ((wrap64 (20480 * x475001)) - (wrap64 (65536 * x474005)))))))) (wrap64 ((wrap64 (x474000 * x474003)) - (wrap64 (x474001 * x474002))))).bind fun t480 => ((celluloidref14_floor.f (wrap64 ((wrap64 (x474000 * (wrap64 ((wrap64 (20480 * x475001)) - (wrap64 (65536 * x474005)))))) - (wrap64 (x474001 * (wrap64 ((wrap64 (20480 * x475000)) - (wrap64 (65536 * x474004)))))))) (wrap64 ((wrap64 (x474000 * x474003)) - (wrap64 (x474001 * x474002))))).bind fun t481 => (some (t480, t481, true)))))
def celluloidref14_Back.f (k : Nat) (a0_0 : Int) (a0_1 : Int) (a0_2 : Int) (a0_3 : Int) (a0_4 : Int) (a0_5 : Int) (a1_0 : Int) (a1_1 : Int) : Option (Int × Int × Bool) := (celluloidref07_Matrix.f a0_0 a0_1 a0_2 a0_3 a0_4 a0_5).bind fun t476 => (if t476 = true then ((celluloidref14_Far.f a1_0 a1_1 16777216).bind fun t477 => (if t477 = true then (celluloidref14_Back.j0 k true a0_0 a0_1 a0_2 a0_3 a0_4 a0_5 a1_0 a1_1) else (celluloidref14_Back.j0 k ((wrap64 (a0_0 * a0_3)) == (wrap64 (a0_1 * a0_2))) a0_0 a0_1 a0_2 a0_3 a0_4 a0_5 a1_0 a1_1))) else (celluloidref14_Back.j0 k true a0_0 a0_1 a0_2 a0_3 a0_4 a0_5 a1_0 a1_1))
theorem celluloidref14_Back.mono_l : ∀ k, (∀ y0 y1 y2 y3 y4 y5 y6 y7 y8, LeO (celluloidref14_Back.j0 k y0 y1 y2 y3 y4 y5 y6 y7 y8) (celluloidref14_Back.j0 (k + 1) y0 y1 y2 y3 y4 y5 y6 y7 y8))
  | 0 => fun _ _ _ _ _ _ _ _ _ r h => by simp [celluloidref14_Back.j0] at h
  | k + 1 => by
    have ih0 := celluloidref14_Back.mono_l k
    · intro y0 y1 y2 y3 y4 y5 y6 y7 y8
      unfold celluloidref14_Back.j0
      repeat' first
      | with_reducible exact ih0 _ _ _ _ _ _ _ _ _
      | with_reducible exact LeO.refl _
      | with_reducible exact LeO.none _
      | with_reducible refine LeO.ite ?_ ?_
      | with_reducible refine LeO.bind ?_ (fun _ => ?_)
theorem celluloidref14_Back.mono : ∀ a0 a1 a2 a3 a4 a5 a6 a7 k, LeO (celluloidref14_Back.f k a0 a1 a2 a3 a4 a5 a6 a7) (celluloidref14_Back.f (k + 1) a0 a1 a2 a3 a4 a5 a6 a7) := by
  intro a0 a1 a2 a3 a4 a5 a6 a7 k
  have ih0 := celluloidref14_Back.mono_l k
  unfold celluloidref14_Back.f
  repeat' first
      | with_reducible exact ih0 _ _ _ _ _ _ _ _ _
      | with_reducible exact LeO.refl _
      | with_reducible exact LeO.none _
      | with_reducible refine LeO.ite ?_ ?_
      | with_reducible refine LeO.bind ?_ (fun _ => ?_)
set_option maxHeartbeats 8000000 in
set_option maxRecDepth 100000 in
theorem celluloidref14_Back.cn {a0_0 a0_1 a0_2 a0_3 a0_4 a0_5 a1_0 a1_1 r1 r2 : Int} {k : Nat} {r3 : Bool} {w : World} (h : celluloidref14_Back.f k a0_0 a0_1 a0_2 a0_3 a0_4 a0_5 a1_0 a1_1 = some (r1, r2, r3)) :
    Calls Try.prog 37 #[.agg #[.int .i64 a0_0, .int .i64 a0_1, .int .i64 a0_2, .int .i64 a0_3, .int .i64 a0_4, .int .i64 a0_5], .agg #[.int .i64 a1_0, .int .i64 a1_1]] w fun e w' => e = .returned (.tuple #[.agg #[.int .i64 r1, .int .i64 r2], .bool r3]) ∧ Below w.heap.size w w' := by
  have hu28 := Try.underlying28
  have hu37 := Try.underlying37
  unfold celluloidref14_Back.f at h
  have HC := za h; clear h
  go_enter Try.func37, Try.ntmps37
  go_upto_region 1 with (fail)
  (try simp only [Act.put, q1, q2, q3])
  go_cut [30] (fun v30 wc => ∃ (kq : Nat) (x30_2 : Bool), v30 = .bool x30_2 ∧ Aside0 (celluloidref14_Back.j0 kq x30_2 a0_0 a0_1 a0_2 a0_3 a0_4 a0_5 a1_0 a1_1 = some (r1, r2, r3)) ∧ Aside0 (wc.heap[w.heap.size]? = some (.cells #[.int .i64 a0_0, .int .i64 a0_1, .int .i64 a0_2, .int .i64 a0_3, .int .i64 a0_4, .int .i64 a0_5] 28 (0, 0))) ∧ Aside0 (wc.heap[w.heap.size + 1]? = some (.cells #[.int .i64 a1_0, .int .i64 a1_1] 37 (0, 0))) ∧ Aside0 (wc.heap[w.heap.size + 2]? = some (.cells #[.int .i64 0, .int .i64 0] 37 (0, 0))) ∧ Aside0 (Below w.heap.size w wc))
  case first =>
    have h := HC.out; clear HC
    repeat' first
      | (with_reducible replace h := zs h)
      | (with_reducible replace h := zez h (by assumption) (by decide))
      | (with_reducible replace h := zb h; obtain ⟨t, A, h⟩ := h)
      | (with_reducible first | replace h := z1 h | replace h := z0 h | replace h := zep h (by assumption) | replace h := zen h (by assumption) | replace h := zcp h (by assumption) | replace h := zcn h (by assumption) | replace h := zbp h (by assumption) | replace h := zbn h (by assumption))
      | (with_reducible (first | replace h := zx h | replace h := zt h); obtain ⟨rfl, h⟩ | ⟨rfl, h⟩ := h)
      | (with_reducible (first | replace h := zd h | replace h := zl h | replace h := zm h); obtain ⟨c, h⟩ | ⟨c, h⟩ := h)
      | (with_reducible (first | replace h := ze h | replace h := zg h); obtain ⟨c, c', h⟩ | ⟨c, c', h⟩ := h)
      | (with_reducible replace h := zt h; obtain ⟨c, h⟩ | ⟨c, h⟩ := h)
      | (with_reducible replace h := Option.some.inj h; subst h)
      | (with_reducible exact (zn h).elim)
      | (simp only [Option.some.injEq, Prod.mk.injEq] at h; obtain ⟨rfl, rfl, rfl⟩ := h)
    all_goals
      try (have H' := za h; clear h)
      go_wp2_with (first
      | ((with_reducible refine zq ?_); first | go_quiet ((first | (go_at_call 63; refine Calls.quiet_of ((celluloidref14_floor.cn (by assumption : Aside0 _).out).mono fun _ _ h => ⟨h.1, h.2.out⟩)))))
      | (go_at_call 60; refine (celluloidref07_Matrix.cn (by assumption : Aside0 _).out).mono ?_; rintro e w' ⟨rfl, hb⟩; (with_reducible first | replace hb := zkd hb | replace hb := zkn hb | replace hb := zk hb); obtain ⟨hb, hc, hf⟩ := hb; have hy := zy w w'; simp only [zL, Nat.add_zero] at hy)
      | (go_at_call 64; refine (celluloidref14_Far.cn (by assumption : Aside0 _).out).mono ?_; rintro e w' ⟨rfl, hb⟩; (with_reducible first | replace hb := zkd hb | replace hb := zkn hb | replace hb := zk hb); obtain ⟨hb, hc, hf⟩ := hb; have hy := zy w w'; simp only [zL, Nat.add_zero] at hy)
      | (go_at_call 63; refine (celluloidref14_floor.cn (by assumption : Aside0 _).out).mono ?_; rintro e w' ⟨rfl, ⟨n, rfl⟩⟩))
      go_meet
      case rel => (refine ⟨_, _, ?_, H', ⟨by (with_reducible repeat (first | exact (by assumption : Aside0 _).out | (focus (refine znew ?_; simp only [World.size_alloc, World.heap_drewN, heap_drew]; done)) | refine blk_alloc ?_ _ | refine blk_drewN ?_ _ | refine blk_drew ?_ | refine blk_below ?_ Bs.out | apply zput | (refine zfar ?_ ?_; (focus omega)))) <;> rfl⟩, ⟨by (with_reducible repeat (first | exact (by assumption : Aside0 _).out | (focus (refine znew ?_; simp only [World.size_alloc, World.heap_drewN, heap_drew]; done)) | refine blk_alloc ?_ _ | refine blk_drewN ?_ _ | refine blk_drew ?_ | refine blk_below ?_ Bs.out | apply zput | (refine zfar ?_ ?_; (focus omega)))) <;> rfl⟩, ⟨by (with_reducible repeat (first | exact (by assumption : Aside0 _).out | (focus (refine znew ?_; simp only [World.size_alloc, World.heap_drewN, heap_drew]; done)) | refine blk_alloc ?_ _ | refine blk_drewN ?_ _ | refine blk_drew ?_ | refine blk_below ?_ Bs.out | apply zput | (refine zfar ?_ ?_; (focus omega)))) <;> rfl⟩, ⟨Bw.out⟩⟩; all_goals first | rfl | (simp; done) | (simp [*]; done))
  case rest =>
    obtain ⟨kq, x30_2, rfl, HA, BK0, BK1, BK2, HB⟩ := hcut
    have HB := Bw.mk HB.out; clear HC
    cases kq with
    | zero => exact absurd HA.out (by simp [celluloidref14_Back.j0])
    | succ kq =>
      have HC := HA.out; simp only [celluloidref14_Back.j0] at HC; replace HC := za HC; clear HA
      obtain ⟨hc0, hf0, hz0⟩ := zo BK0.out
      obtain ⟨hc1, hf1, hz1⟩ := zo BK1.out
      obtain ⟨hc2, hf2, hz2⟩ := zo BK2.out
      have HN : Lw w wc 3 := ⟨by have := blk_lt BK2.out; omega⟩
      have h := HC.out; clear HC
      refine zG (fun G hG => ?_)
      iterate 16 (all_goals (try (first
          | (with_reducible replace h := zs h)
          | (with_reducible replace h := zez h (by assumption) (by decide))
          | (with_reducible replace h := zb h; obtain ⟨t, A, h⟩ := h)
          | (with_reducible first | replace h := z1 h | replace h := z0 h | replace h := zep h (by assumption) | replace h := zen h (by assumption) | replace h := zcp h (by assumption) | replace h := zcn h (by assumption) | replace h := zbp h (by assumption) | replace h := zbn h (by assumption))
          | (with_reducible (first | replace h := zx h | replace h := zt h); obtain ⟨rfl, h⟩ | ⟨rfl, h⟩ := h)
          | (with_reducible (first | replace h := zd h | replace h := zl h | replace h := zm h); obtain ⟨c, h⟩ | ⟨c, h⟩ := h)
          | (with_reducible (first | replace h := ze h | replace h := zg h); obtain ⟨c, c', h⟩ | ⟨c, c', h⟩ := h)
          | (with_reducible replace h := zt h; obtain ⟨c, h⟩ | ⟨c, h⟩ := h)
          | (with_reducible replace h := Option.some.inj h; subst h)
          | (with_reducible exact (zn h).elim)
          | (obtain _ | kq := kq; exact absurd h (by simp [celluloidref14_Back.j0]); simp only [celluloidref14_Back.j0, if_true, if_false, Bool.false_eq_true] at h)
          | (simp only [Option.some.injEq, Prod.mk.injEq] at h; obtain ⟨rfl, rfl, rfl⟩ := h))))
      all_goals subst hG
      all_goals
        try (have H' := za h; clear h)
        go_wp2_with (first
          | ((with_reducible refine zq ?_); first | go_quiet ((first | (go_at_call 63; refine Calls.quiet_of ((celluloidref14_floor.cn (by assumption : Aside0 _).out).mono fun _ _ h => ⟨h.1, h.2.out⟩)))))
          | (go_at_call 60; refine (celluloidref07_Matrix.cn (by assumption : Aside0 _).out).mono ?_; rintro e w' ⟨rfl, hb⟩; (with_reducible first | replace hb := zkd hb | replace hb := zkn hb | replace hb := zk hb); obtain ⟨hb, hc, hf⟩ := hb; have hy := zy w w'; simp only [zL, Nat.add_zero] at hy; have hy := zy wc w'; simp only [zL, Nat.add_zero] at hy)
          | (go_at_call 64; refine (celluloidref14_Far.cn (by assumption : Aside0 _).out).mono ?_; rintro e w' ⟨rfl, hb⟩; (with_reducible first | replace hb := zkd hb | replace hb := zkn hb | replace hb := zk hb); obtain ⟨hb, hc, hf⟩ := hb; have hy := zy w w'; simp only [zL, Nat.add_zero] at hy; have hy := zy wc w'; simp only [zL, Nat.add_zero] at hy)
          | (go_at_call 63; refine (celluloidref14_floor.cn (by assumption : Aside0 _).out).mono ?_; rintro e w' ⟨rfl, ⟨n, rfl⟩⟩))
      all_goals first
        | (first | (go_ret; exact ⟨rfl, Bw.out⟩) | (go_ret3; exact ⟨rfl, Bw.out⟩) | (refine bodyPost_ret (v := ?_) ?_ rfl ?_; rotate_left 2; (refine ⟨?_, Bw.out⟩; rfl); exact zct rfl rfl _ 37 (0, 0) _ rfl (by (with_reducible repeat (first | exact (by assumption : Aside0 _).out | (focus (refine znew ?_; simp only [World.size_alloc, World.heap_drewN, heap_drew]; done)) | refine blk_alloc ?_ _ | refine blk_drewN ?_ _ | refine blk_drew ?_ | refine blk_below ?_ Bs.out | apply zput | (refine zfar ?_ ?_; (focus omega)))) <;> rfl) Try.underlying37 rfl (by kernel_rfl)))

end Go.Proofs.Ytmdfcinjmlagcaa.P
