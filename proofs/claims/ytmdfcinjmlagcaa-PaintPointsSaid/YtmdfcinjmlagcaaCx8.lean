/- Walks by cw.py (wip/tool): plain functions that tell what the program answers, and the proofs that the program comes to these answers, for all arguments of their kinds. -/
import Derived.Test.YtmdfcinjmlagcaaCx7
namespace Go.Proofs.Ytmdfcinjmlagcaa.P
open Go.RowKit Go.Proofs.YtmdfcinjmlagcaaW.PrintWords Go.Proofs.YtmdfcinjmlagcaaW.PrintLast Go.Proofs.YtmdfcinjmlagcaaW.PrintMore
attribute [local go_sem] max2_int min2_int max_two min_two max_three min_three max_four min_four max_five min_five max_six min_six
set_option linter.unusedVariables false
set_option linter.unusedSimpArgs false

/-! ### ramp_At: function 32 -/
def ramp_At.j0 : Nat → Int → Bool → Int → Int → Int → Int → Int → Int → Int → Int → Int → Int → Int → Int → List (S80) → Int → Int → Int → Option (Int × Int × Int × Int)
  | 0, _, _, _, _, _, _, _, _, _, _, _, _, _, _, _, _, _, _ => none
  | k + 1, x5, x8, x294000, x294001, x294002, x294003, x294004, x294005, x294006, x294007, x294008, x294009, x294010, x294011, x294012, x294013, x295000, x295001 => if x8 = true then (some (0, 0, 0, 0)) else (if x294000 = 18 then ((ramp_Circle.f k x295000 x295001).bind fun t298 => ((ramp_Fold.f t298 x294011).bind fun t299 => ((ramp_Color.f k x294012 t299).bind fun bt300 => (some (bt300.1, bt300.2.1, bt300.2.2.1, bt300.2.2.2))))) else ((ramp_Fold.f x5 x294011).bind fun t304 => ((ramp_Color.f k x294012 t304).bind fun bt305 => (some (bt305.1, bt305.2.1, bt305.2.2.1, bt305.2.2.2)))))
def ramp_At.f (k : Nat) (a0_0 : Int) (a0_1 : Int) (a0_2 : Int) (a0_3 : Int) (a0_4 : Int) (a0_5 : Int) (a0_6 : Int) (a0_7 : Int) (a0_8 : Int) (a0_9 : Int) (a0_10 : Int) (a0_11 : Int) (l0_12 : List (S80)) (a0_13 : Int) (a1_0 : Int) (a1_1 : Int) : Option (Int × Int × Int × Int) := (ramp_Line.f a1_0 a1_1).bind fun t296 => ((style_RightFill.f k a0_0 a0_1 a0_2 a0_3 a0_4 a0_5 a0_6 a0_7 a0_8 a0_9 a0_10 a0_11 l0_12 a0_13).bind fun t297 => (if t297 = true then (if a0_0 = 16 then (ramp_At.j0 k t296 false a0_0 a0_1 a0_2 a0_3 a0_4 a0_5 a0_6 a0_7 a0_8 a0_9 a0_10 a0_11 l0_12 a0_13 a1_0 a1_1) else (ramp_At.j0 k t296 (a0_0 != 18) a0_0 a0_1 a0_2 a0_3 a0_4 a0_5 a0_6 a0_7 a0_8 a0_9 a0_10 a0_11 l0_12 a0_13 a1_0 a1_1)) else (ramp_At.j0 k t296 true a0_0 a0_1 a0_2 a0_3 a0_4 a0_5 a0_6 a0_7 a0_8 a0_9 a0_10 a0_11 l0_12 a0_13 a1_0 a1_1)))
def ramp_At.O6 : List Nat := [0, 2, 3, 1, 4, 5, 6, 7]
def ramp_At.T6 : Bool × List (List Nat × List Nat) := (true, [([], []), ([0], [0]), ([], []), ([], []), ([3], [3]), ([2, 4], [2, 4]), ([1, 5, 5], [1, 5]), ([6, 6, 0, 1, 2, 3, 4, 5, 6], [6])])
theorem ramp_At.tab6 : rtab .any (opsOf Try.f32 6) = ramp_At.T6 := by kernel_rfl
theorem ramp_At.mono_l : ∀ k, (∀ y0 y1 y2 y3 y4 y5 y6 y7 y8 y9 y10 y11 y12 y13 y14 y15 y16 y17, LeO (ramp_At.j0 k y0 y1 y2 y3 y4 y5 y6 y7 y8 y9 y10 y11 y12 y13 y14 y15 y16 y17) (ramp_At.j0 (k + 1) y0 y1 y2 y3 y4 y5 y6 y7 y8 y9 y10 y11 y12 y13 y14 y15 y16 y17))
  | 0 => fun _ _ _ _ _ _ _ _ _ _ _ _ _ _ _ _ _ _ r h => by simp [ramp_At.j0] at h
  | k + 1 => by
    have ih0 := ramp_At.mono_l k
    · intro y0 y1 y2 y3 y4 y5 y6 y7 y8 y9 y10 y11 y12 y13 y14 y15 y16 y17
      unfold ramp_At.j0
      repeat' first
      | with_reducible exact ih0 _ _ _ _ _ _ _ _ _ _ _ _ _ _ _ _ _ _
      | with_reducible exact ramp_Circle.mono _ _ _
      | with_reducible exact ramp_Color.mono _ _ _
      | with_reducible exact style_RightFill.mono _ _ _ _ _ _ _ _ _ _ _ _ _ _ _
      | with_reducible exact LeO.refl _
      | with_reducible exact LeO.none _
      | with_reducible refine LeO.ite ?_ ?_
      | with_reducible refine LeO.bind ?_ (fun _ => ?_)
theorem ramp_At.mono : ∀ a0 a1 a2 a3 a4 a5 a6 a7 a8 a9 a10 a11 a12 a13 a14 a15 k, LeO (ramp_At.f k a0 a1 a2 a3 a4 a5 a6 a7 a8 a9 a10 a11 a12 a13 a14 a15) (ramp_At.f (k + 1) a0 a1 a2 a3 a4 a5 a6 a7 a8 a9 a10 a11 a12 a13 a14 a15) := by
  intro a0 a1 a2 a3 a4 a5 a6 a7 a8 a9 a10 a11 a12 a13 a14 a15 k
  have ih0 := ramp_At.mono_l k
  unfold ramp_At.f
  repeat' first
      | with_reducible exact ih0 _ _ _ _ _ _ _ _ _ _ _ _ _ _ _ _ _ _
      | with_reducible exact ramp_Circle.mono _ _ _
      | with_reducible exact ramp_Color.mono _ _ _
      | with_reducible exact style_RightFill.mono _ _ _ _ _ _ _ _ _ _ _ _ _ _ _
      | with_reducible exact LeO.refl _
      | with_reducible exact LeO.none _
      | with_reducible refine LeO.ite ?_ ?_
      | with_reducible refine LeO.bind ?_ (fun _ => ?_)
set_option maxHeartbeats 8000000 in
set_option maxRecDepth 100000 in
theorem ramp_At.cn {a0_0 a0_1 a0_2 a0_3 a0_4 a0_5 a0_6 a0_7 a0_8 a0_9 a0_10 a0_11 a0_13 a1_0 a1_1 r1 r2 r3 r4 : Int} {k : Nat} {A0_12 : Option Addr} {n0_12 c0_12 : Nat} {l0_12 : List (S80)} {w : World} (h : ramp_At.f k a0_0 a0_1 a0_2 a0_3 a0_4 a0_5 a0_6 a0_7 a0_8 a0_9 a0_10 a0_11 l0_12 a0_13 a1_0 a1_1 = some (r1, r2, r3, r4)) (hr0_12 : Kd.C k80 w A0_12 n0_12 l0_12) (hc0_12 : n0_12 ≤ c0_12) :
    Calls Try.prog 32 #[.agg #[.int .i64 a0_0, .int .i64 a0_1, .int .i64 a0_2, .int .i64 a0_3, .int .i64 a0_4, .int .i64 a0_5, .int .i64 a0_6, .int .i64 a0_7, .int .i64 a0_8, .int .i64 a0_9, .int .i64 a0_10, .int .i64 a0_11, .slice A0_12 n0_12 c0_12, .int .i64 a0_13], .agg #[.int .i64 a1_0, .int .i64 a1_1]] w fun e w' => e = .returned (.agg #[.int .i64 r1, .int .i64 r2, .int .i64 r3, .int .i64 r4]) ∧ Below w.heap.size w w' := by
  obtain rfl := hr0_12.1
  have HC0_12 := za hr0_12; have HL0_12 := za hc0_12; clear hr0_12 hc0_12
  have hu23 := Try.underlying23
  have hu31 := Try.underlying31
  have hu37 := Try.underlying37
  unfold ramp_At.f at h
  repeat' first
    | (with_reducible replace h := zs h)
    | (with_reducible replace h := zez h (by assumption) (by decide))
    | (with_reducible replace h := zb h; obtain ⟨t, A, h⟩ := h)
    | (with_reducible first | replace h := z1 h | replace h := z0 h | replace h := zep h (by assumption) | replace h := zen h (by assumption) | replace h := zcp h (by assumption) | replace h := zcn h (by assumption) | replace h := zbp h (by assumption) | replace h := zbn h (by assumption))
    | (with_reducible (first | replace h := zx h | replace h := zt h); obtain ⟨rfl, h⟩ | ⟨rfl, h⟩ := h)
    | (with_reducible (first | replace h := zd h | replace h := zl h | replace h := zm h); obtain ⟨c, h⟩ | ⟨c, h⟩ := h)
    | (with_reducible (first | replace h := ze h | replace h := zg h); obtain ⟨c, c', h⟩ | ⟨c, c', h⟩ := h)
    | (with_reducible replace h := zt h; obtain ⟨c, h⟩ | ⟨c, h⟩ := h)
    | (with_reducible replace h := Option.some.inj h; subst h)
    | (with_reducible exact (zn h).elim)
    | (obtain _ | k := k; exact absurd h (by simp [ramp_At.j0]); simp only [ramp_At.j0, if_true, if_false, Bool.false_eq_true] at h)
    | (simp only [Option.some.injEq, Prod.mk.injEq] at h; obtain ⟨rfl, rfl, rfl, rfl⟩ := h)
  all_goals
    try (have H' := za h; clear h)
    go_enter Try.func32, Try.ntmps32
    go_wp2_with (first
      | ((with_reducible refine zq ?_); first | go_quiet (fail))
      | (go_at_call 55; refine (ramp_Circle.cn (by assumption : Aside0 _).out).mono ?_; rintro e w' ⟨rfl, hb⟩; (with_reducible first | replace hb := zkd hb | replace hb := zkn hb | replace hb := zk hb); obtain ⟨hb, hc, hf⟩ := hb; have hy := zy w w'; simp only [zL, Nat.add_zero] at hy)
      | (go_at_call 56; refine (ramp_Color.cn (by assumption : Aside0 _).out ?_ ?_).mono ?_; (focus with_reducible first | exact znil | exact zC (by assumption)); (first | exact Nat.le_refl _ | exact (by assumption : Aside0 _).out); rintro e w' ⟨rfl, hb⟩; (with_reducible first | replace hb := zkd hb | replace hb := zkn hb | replace hb := zk hb); obtain ⟨hb, hc, hf⟩ := hb; have hy := zy w w'; simp only [zL, Nat.add_zero] at hy)
      | (go_at_call 57; refine (ramp_Fold.cn (by assumption : Aside0 _).out).mono ?_; rintro e w' ⟨rfl, hb⟩; (with_reducible first | replace hb := zkd hb | replace hb := zkn hb | replace hb := zk hb); obtain ⟨hb, hc, hf⟩ := hb; have hy := zy w w'; simp only [zL, Nat.add_zero] at hy)
      | (go_at_call 54; refine (ramp_Line.cn (by assumption : Aside0 _).out).mono ?_; rintro e w' ⟨rfl, hb⟩; (with_reducible first | replace hb := zkd hb | replace hb := zkn hb | replace hb := zk hb); obtain ⟨hb, hc, hf⟩ := hb; have hy := zy w w'; simp only [zL, Nat.add_zero] at hy)
      | (go_at_call 28; refine (style_RightFill.cn (by assumption : Aside0 _).out ?_ ?_).mono ?_; (focus with_reducible first | exact znil | exact zC (by assumption)); (first | exact Nat.le_refl _ | exact (by assumption : Aside0 _).out); rintro e w' ⟨rfl, hb⟩; (with_reducible first | replace hb := zkd hb | replace hb := zkn hb | replace hb := zk hb); obtain ⟨hb, hc, hf⟩ := hb; have hy := zy w w'; simp only [zL, Nat.add_zero] at hy)
      | ((with_reducible refine zq ?_); refine rS 8 ramp_At.O6 [7] (by kernel_rfl) (by rfl) ramp_At.tab6 (fun HT => ?_); (repeat (first | (refine rP HT.out rfl rfl (v := undef) (a' := ?_) (by kernel_rfl) (fun _ _ _ h => h) (Or.inr ⟨by rfl, rfl⟩) ?_ ?_; rotate_left; (show Act.put _ (some _) _ = _; simp only [Act.put, q1, q2, q3, i64_w, i32_w]; rfl)) | (refine rP HT.out rfl rfl (v := ?_) (a' := ?_) (by kernel_rfl) (fun _ _ _ h => h) (Or.inl ⟨by rfl, ?_⟩) ?_ ?_; rotate_left 2; (intro w'; go_simp; with_reducible rfl); (show Act.put _ (some _) _ = _; simp only [Act.put, q1, q2, q3, i64_w, i32_w]; rfl)) | (refine rT HT.out rfl rfl (v := ?_) (a' := ?_) (by kernel_rfl) (fun _ _ _ h => h) (Or.inl ⟨by rfl, ?_⟩) (by infer_instance) ?_ ?_; rotate_left 2; (intro w' hS; obtain ⟨hc, hf⟩ := rH hS; go_simp; with_reducible rfl); (show Act.put _ (some _) _ = _; simp only [Act.put, q1, q2, q3, i64_w, i32_w]; rfl)) | (refine rO HT.out rfl (by rfl) (by decide) (by rfl) (fun K hK => ?_); go_wp2_with (first | (go_at_call 55; refine (ramp_Circle.cn (by assumption : Aside0 _).out).mono ?_; rintro e w' ⟨rfl, hb⟩; (with_reducible first | replace hb := zkd hb | replace hb := zkn hb | replace hb := zk hb); obtain ⟨hb, hc, hf⟩ := hb; have hy := zy w w'; simp only [zL, Nat.add_zero] at hy) | (go_at_call 56; refine (ramp_Color.cn (by assumption : Aside0 _).out ?_ ?_).mono ?_; (focus with_reducible first | exact znil | exact zC (by assumption)); (first | exact Nat.le_refl _ | exact (by assumption : Aside0 _).out); rintro e w' ⟨rfl, hb⟩; (with_reducible first | replace hb := zkd hb | replace hb := zkn hb | replace hb := zk hb); obtain ⟨hb, hc, hf⟩ := hb; have hy := zy w w'; simp only [zL, Nat.add_zero] at hy) | (go_at_call 57; refine (ramp_Fold.cn (by assumption : Aside0 _).out).mono ?_; rintro e w' ⟨rfl, hb⟩; (with_reducible first | replace hb := zkd hb | replace hb := zkn hb | replace hb := zk hb); obtain ⟨hb, hc, hf⟩ := hb; have hy := zy w w'; simp only [zL, Nat.add_zero] at hy) | (go_at_call 54; refine (ramp_Line.cn (by assumption : Aside0 _).out).mono ?_; rintro e w' ⟨rfl, hb⟩; (with_reducible first | replace hb := zkd hb | replace hb := zkn hb | replace hb := zk hb); obtain ⟨hb, hc, hf⟩ := hb; have hy := zy w w'; simp only [zL, Nat.add_zero] at hy) | (go_at_call 28; refine (style_RightFill.cn (by assumption : Aside0 _).out ?_ ?_).mono ?_; (focus with_reducible first | exact znil | exact zC (by assumption)); (first | exact Nat.le_refl _ | exact (by assumption : Aside0 _).out); rintro e w' ⟨rfl, hb⟩; (with_reducible first | replace hb := zkd hb | replace hb := zkn hb | replace hb := zk hb); obtain ⟨hb, hc, hf⟩ := hb; have hy := zy w w'; simp only [zL, Nat.add_zero] at hy)); refine Shut.out hK _ _ (by infer_instance) ?_) | (refine rL HT.out rfl (by rfl) (by decide) (by rfl) (fun K hK => ?_); go_wp2_with (first | (go_at_call 55; refine (ramp_Circle.cn (by assumption : Aside0 _).out).mono ?_; rintro e w' ⟨rfl, hb⟩; (with_reducible first | replace hb := zkd hb | replace hb := zkn hb | replace hb := zk hb); obtain ⟨hb, hc, hf⟩ := hb; have hy := zy w w'; simp only [zL, Nat.add_zero] at hy) | (go_at_call 56; refine (ramp_Color.cn (by assumption : Aside0 _).out ?_ ?_).mono ?_; (focus with_reducible first | exact znil | exact zC (by assumption)); (first | exact Nat.le_refl _ | exact (by assumption : Aside0 _).out); rintro e w' ⟨rfl, hb⟩; (with_reducible first | replace hb := zkd hb | replace hb := zkn hb | replace hb := zk hb); obtain ⟨hb, hc, hf⟩ := hb; have hy := zy w w'; simp only [zL, Nat.add_zero] at hy) | (go_at_call 57; refine (ramp_Fold.cn (by assumption : Aside0 _).out).mono ?_; rintro e w' ⟨rfl, hb⟩; (with_reducible first | replace hb := zkd hb | replace hb := zkn hb | replace hb := zk hb); obtain ⟨hb, hc, hf⟩ := hb; have hy := zy w w'; simp only [zL, Nat.add_zero] at hy) | (go_at_call 54; refine (ramp_Line.cn (by assumption : Aside0 _).out).mono ?_; rintro e w' ⟨rfl, hb⟩; (with_reducible first | replace hb := zkd hb | replace hb := zkn hb | replace hb := zk hb); obtain ⟨hb, hc, hf⟩ := hb; have hy := zy w w'; simp only [zL, Nat.add_zero] at hy) | (go_at_call 28; refine (style_RightFill.cn (by assumption : Aside0 _).out ?_ ?_).mono ?_; (focus with_reducible first | exact znil | exact zC (by assumption)); (first | exact Nat.le_refl _ | exact (by assumption : Aside0 _).out); rintro e w' ⟨rfl, hb⟩; (with_reducible first | replace hb := zkd hb | replace hb := zkn hb | replace hb := zk hb); obtain ⟨hb, hc, hf⟩ := hb; have hy := zy w w'; simp only [zL, Nat.add_zero] at hy)); refine Shut.out hK _ _ ?_))); refine rD HT.out (by kernel_rfl) ?_))
  all_goals first
    | (first | (go_ret; exact ⟨rfl, Bw.out⟩) | (go_ret3; exact ⟨rfl, Bw.out⟩) | (refine bodyPost_ret (v := ?_) ?_ rfl ?_; rotate_left 2; (refine ⟨?_, Bw.out⟩; rfl); exact results_cell_row rfl _ _ _ 23 _ (0, 0) _ rfl (by (with_reducible repeat (first | exact (by assumption : Aside0 _).out | (focus (refine znew ?_; simp only [World.size_alloc, World.heap_drewN, heap_drew]; done)) | refine blk_alloc ?_ _ | refine blk_drewN ?_ _ | refine blk_drew ?_ | refine blk_below ?_ Bs.out | apply zput | (refine zfar ?_ ?_; (focus omega)))) <;> rfl) Try.underlying23 rfl (by kernel_rfl)))

end Go.Proofs.Ytmdfcinjmlagcaa.P
