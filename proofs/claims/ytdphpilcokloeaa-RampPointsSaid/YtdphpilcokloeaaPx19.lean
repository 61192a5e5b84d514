/- Printed by printx.py (wip/tool) out of the translation: plain functions that tell what the program answers,and the proofs that the program comes to these answers,for all arguments of their kinds. Lean checks it. -/
import Derived.Test.YtdphpilcokloeaaShort
import Derived.Test.YtdphpilcokloeaaPx0
import Derived.Test.YtdphpilcokloeaaPx1
import Derived.Test.YtdphpilcokloeaaPx3
import Derived.Test.YtdphpilcokloeaaPx8
import Derived.Test.YtdphpilcokloeaaPx18
namespace Go.Proofs.Ytdphpilcokloeaa.P
open Go.RowKit Go.Proofs.YtdphpilcokloeaaW.PrintWords Go.Proofs.YtdphpilcokloeaaW.PrintLast Go.Proofs.YtdphpilcokloeaaW.PrintMore
attribute [local go_sem] max2_int min2_int max_two min_two max_three min_three max_four min_four max_five min_five max_six min_six   -- for this text's walks alone
set_option linter.unusedVariables false
set_option linter.unusedSimpArgs false

attribute [local go_sem high] eqA27 eqA41
/-! ### celluloidref08_Fill: function 30 -/
mutual
def celluloidref08_Fill.j0 : Nat → Int → Bool → Int → Int → Int → Int → Int → Int → Int → Int → Int → Int → Int → Int → List (S32) → Int → Option (Bool)
  | 0,_,_,_,_,_,_,_,_,_,_,_,_,_,_,_,_ => none
  | k + 1,x6,x34,x288000,x288001,x288002,x288003,x288004,x288005,x288006,x288007,x288008,x288009,x288010,x288011,x288012,x288013 => if x34 = true then (if (x288001 == 0 && (x288002 == 0 && (x288003 == 0 && (x288004 == 0)))) = true then (if x288011 = 0 then (if (x288012.length : Int) = 0 then (if x288013 ≥ 0 then (if x288013 < 65536 then ((celluloidref07_Matrix.f x288005 x288006 x288007 x288008 x288009 x288010).bind fun t289 => (some t289)) else (some false)) else (some false)) else (some false)) else (some false)) else (some false)) else (if x6 = 16 then (celluloidref08_Fill.j1 k (x6 == 16) x288000 x288001 x288002 x288003 x288004 x288005 x288006 x288007 x288008 x288009 x288010 x288011 x288012 x288013) else (celluloidref08_Fill.j1 k (x6 == 18) x288000 x288001 x288002 x288003 x288004 x288005 x288006 x288007 x288008 x288009 x288010 x288011 x288012 x288013))
def celluloidref08_Fill.j1 : Nat → Bool → Int → Int → Int → Int → Int → Int → Int → Int → Int → Int → Int → Int → List (S32) → Int → Option (Bool)
  | 0,_,_,_,_,_,_,_,_,_,_,_,_,_,_,_ => none
  | k + 1,x67,x288000,x288001,x288002,x288003,x288004,x288005,x288006,x288007,x288008,x288009,x288010,x288011,x288012,x288013 => if x67 = true then (celluloidref08_Fill.l0 k 0 x288000 x288001 x288002 x288003 x288004 x288005 x288006 x288007 x288008 x288009 x288010 x288011 x288012 x288013) else (some false)
def celluloidref08_Fill.l0 : Nat → Int → Int → Int → Int → Int → Int → Int → Int → Int → Int → Int → Int → Int → List (S32) → Int → Option (Bool)
  | 0,_,_,_,_,_,_,_,_,_,_,_,_,_,_,_ => none
  | k + 1,x3,x288000,x288001,x288002,x288003,x288004,x288005,x288006,x288007,x288008,x288009,x288010,x288011,x288012,x288013 => if x3 < (x288012.length : Int) then (if 0 ≤ x3 then (if ((rd_T32 x288012 x3).f0) < 0 then (some false) else (if ((rd_T32 x288012 x3).f0) > 255 then (some false) else (if x3 > 0 then (if 0 ≤ (wrap64 (x3 - 1)) then (if (wrap64 (x3 - 1)) < (x288012.length : Int) then (if ((rd_T32 x288012 x3).f0) < ((rd_T32 x288012 (wrap64 (x3 - 1))).f0) then (some false) else ((celluloidref07_RGBA.f k ((rd_T32 x288012 x3).f1.f0) ((rd_T32 x288012 x3).f1.f1) ((rd_T32 x288012 x3).f1.f2) ((rd_T32 x288012 x3).f1.f3)).bind fun t293 => (if t293 = true then (celluloidref08_Fill.l0 k (wrap64 (x3 + 1)) x288000 x288001 x288002 x288003 x288004 x288005 x288006 x288007 x288008 x288009 x288010 x288011 x288012 x288013) else (some false)))) else (none)) else (none)) else ((celluloidref07_RGBA.f k ((rd_T32 x288012 x3).f1.f0) ((rd_T32 x288012 x3).f1.f1) ((rd_T32 x288012 x3).f1.f2) ((rd_T32 x288012 x3).f1.f3)).bind fun t295 => (if t295 = true then (celluloidref08_Fill.l0 k (wrap64 (x3 + 1)) x288000 x288001 x288002 x288003 x288004 x288005 x288006 x288007 x288008 x288009 x288010 x288011 x288012 x288013) else (some false)))))) else (none)) else (if (x288001 == 0 && (x288002 == 0 && (x288003 == 0 && (x288004 == 0)))) = true then (if x288013 = 0 then (if x288011 ≥ 0 then (if x288011 < 3 then (if (x288012.length : Int) > 0 then (if (x288012.length : Int) < 9 then ((celluloidref07_Matrix.f x288005 x288006 x288007 x288008 x288009 x288010).bind fun t296 => (some t296)) else (some false)) else (some false)) else (some false)) else (some false)) else (some false)) else (some false))
end
def celluloidref08_Fill.f (k : Nat) (a0_0 : Int) (a0_1 : Int) (a0_2 : Int) (a0_3 : Int) (a0_4 : Int) (a0_5 : Int) (a0_6 : Int) (a0_7 : Int) (a0_8 : Int) (a0_9 : Int) (a0_10 : Int) (a0_11 : Int) (l0_12 : List (S32)) (a0_13 : Int) : Option (Bool):=if a0_0 = 0 then (if (a0_5 == 0 && (a0_6 == 0 && (a0_7 == 0 && (a0_8 == 0 && (a0_9 == 0 && (a0_10 == 0)))))) = true then (if a0_11 = 0 then (if a0_13 = 0 then (if (l0_12.length : Int) = 0 then ((celluloidref07_RGBA.f k a0_1 a0_2 a0_3 a0_4).bind fun t288 => (some t288)) else (some false)) else (some false)) else (some false)) else (some false)) else (if a0_0 = 64 then (celluloidref08_Fill.j0 k a0_0 (a0_0 == 64) a0_0 a0_1 a0_2 a0_3 a0_4 a0_5 a0_6 a0_7 a0_8 a0_9 a0_10 a0_11 l0_12 a0_13) else (celluloidref08_Fill.j0 k a0_0 (a0_0 == 65) a0_0 a0_1 a0_2 a0_3 a0_4 a0_5 a0_6 a0_7 a0_8 a0_9 a0_10 a0_11 l0_12 a0_13))
theorem celluloidref08_Fill.mono_l : ∀ k,(∀ y0 y1 y2 y3 y4 y5 y6 y7 y8 y9 y10 y11 y12 y13 y14 y15,LeO (celluloidref08_Fill.j0 k y0 y1 y2 y3 y4 y5 y6 y7 y8 y9 y10 y11 y12 y13 y14 y15) (celluloidref08_Fill.j0 (k + 1) y0 y1 y2 y3 y4 y5 y6 y7 y8 y9 y10 y11 y12 y13 y14 y15)) ∧ (∀ y0 y1 y2 y3 y4 y5 y6 y7 y8 y9 y10 y11 y12 y13 y14,LeO (celluloidref08_Fill.j1 k y0 y1 y2 y3 y4 y5 y6 y7 y8 y9 y10 y11 y12 y13 y14) (celluloidref08_Fill.j1 (k + 1) y0 y1 y2 y3 y4 y5 y6 y7 y8 y9 y10 y11 y12 y13 y14)) ∧ (∀ y0 y1 y2 y3 y4 y5 y6 y7 y8 y9 y10 y11 y12 y13 y14,LeO (celluloidref08_Fill.l0 k y0 y1 y2 y3 y4 y5 y6 y7 y8 y9 y10 y11 y12 y13 y14) (celluloidref08_Fill.l0 (k + 1) y0 y1 y2 y3 y4 y5 y6 y7 y8 y9 y10 y11 y12 y13 y14))
  | 0 => ⟨fun _ _ _ _ _ _ _ _ _ _ _ _ _ _ _ _ r h => by simp [celluloidref08_Fill.j0] at h,fun _ _ _ _ _ _ _ _ _ _ _ _ _ _ _ r h => by simp [celluloidref08_Fill.j1] at h,fun _ _ _ _ _ _ _ _ _ _ _ _ _ _ _ r h => by simp [celluloidref08_Fill.l0] at h⟩
  | k + 1 => by
    obtain ⟨ih0,ih1,ih2⟩:=celluloidref08_Fill.mono_l k;refine ⟨?_,?_,?_⟩
    · intro y0 y1 y2 y3 y4 y5 y6 y7 y8 y9 y10 y11 y12 y13 y14 y15
      unfold celluloidref08_Fill.j0
      repeat' first
      | (with_reducible exact ih0 _ _ _ _ _ _ _ _ _ _ _ _ _ _ _ _)
      | (with_reducible exact ih1 _ _ _ _ _ _ _ _ _ _ _ _ _ _ _)
      | (with_reducible exact ih2 _ _ _ _ _ _ _ _ _ _ _ _ _ _ _)
      | (with_reducible exact celluloidref07_RGBA.mono _ _ _ _ _)
      | (with_reducible exact LeO.refl _)
      | (with_reducible exact LeO.none _)
      | (with_reducible refine LeO.ite ?_ ?_)
      | (with_reducible refine LeO.bind ?_ (fun _ => ?_))
      | exact ih0 _ _ _ _ _ _ _ _ _ _ _ _ _ _ _ _
      | exact ih1 _ _ _ _ _ _ _ _ _ _ _ _ _ _ _
      | exact ih2 _ _ _ _ _ _ _ _ _ _ _ _ _ _ _
      | exact celluloidref07_RGBA.mono _ _ _ _ _
      | exact LeO.none _
      | refine LeO.ite ?_ ?_
      | refine LeO.bind ?_ (fun _ => ?_)
    · intro y0 y1 y2 y3 y4 y5 y6 y7 y8 y9 y10 y11 y12 y13 y14
      unfold celluloidref08_Fill.j1
      repeat' first
      | (with_reducible exact ih0 _ _ _ _ _ _ _ _ _ _ _ _ _ _ _ _)
      | (with_reducible exact ih1 _ _ _ _ _ _ _ _ _ _ _ _ _ _ _)
      | (with_reducible exact ih2 _ _ _ _ _ _ _ _ _ _ _ _ _ _ _)
      | (with_reducible exact celluloidref07_RGBA.mono _ _ _ _ _)
      | (with_reducible exact LeO.refl _)
      | (with_reducible exact LeO.none _)
      | (with_reducible refine LeO.ite ?_ ?_)
      | (with_reducible refine LeO.bind ?_ (fun _ => ?_))
      | exact ih0 _ _ _ _ _ _ _ _ _ _ _ _ _ _ _ _
      | exact ih1 _ _ _ _ _ _ _ _ _ _ _ _ _ _ _
      | exact ih2 _ _ _ _ _ _ _ _ _ _ _ _ _ _ _
      | exact celluloidref07_RGBA.mono _ _ _ _ _
      | exact LeO.none _
      | refine LeO.ite ?_ ?_
      | refine LeO.bind ?_ (fun _ => ?_)
    · intro y0 y1 y2 y3 y4 y5 y6 y7 y8 y9 y10 y11 y12 y13 y14
      unfold celluloidref08_Fill.l0
      repeat' first
      | (with_reducible exact ih0 _ _ _ _ _ _ _ _ _ _ _ _ _ _ _ _)
      | (with_reducible exact ih1 _ _ _ _ _ _ _ _ _ _ _ _ _ _ _)
      | (with_reducible exact ih2 _ _ _ _ _ _ _ _ _ _ _ _ _ _ _)
      | (with_reducible exact celluloidref07_RGBA.mono _ _ _ _ _)
      | (with_reducible exact LeO.refl _)
      | (with_reducible exact LeO.none _)
      | (with_reducible refine LeO.ite ?_ ?_)
      | (with_reducible refine LeO.bind ?_ (fun _ => ?_))
      | exact ih0 _ _ _ _ _ _ _ _ _ _ _ _ _ _ _ _
      | exact ih1 _ _ _ _ _ _ _ _ _ _ _ _ _ _ _
      | exact ih2 _ _ _ _ _ _ _ _ _ _ _ _ _ _ _
      | exact celluloidref07_RGBA.mono _ _ _ _ _
      | exact LeO.none _
      | refine LeO.ite ?_ ?_
      | refine LeO.bind ?_ (fun _ => ?_)
theorem celluloidref08_Fill.mono : ∀ a0 a1 a2 a3 a4 a5 a6 a7 a8 a9 a10 a11 a12 a13 k,LeO (celluloidref08_Fill.f k a0 a1 a2 a3 a4 a5 a6 a7 a8 a9 a10 a11 a12 a13) (celluloidref08_Fill.f (k + 1) a0 a1 a2 a3 a4 a5 a6 a7 a8 a9 a10 a11 a12 a13):=by
  intro a0 a1 a2 a3 a4 a5 a6 a7 a8 a9 a10 a11 a12 a13 k
  obtain ⟨ih0,ih1,ih2⟩:=celluloidref08_Fill.mono_l k
  unfold celluloidref08_Fill.f
  repeat' first
      | (with_reducible exact ih0 _ _ _ _ _ _ _ _ _ _ _ _ _ _ _ _)
      | (with_reducible exact ih1 _ _ _ _ _ _ _ _ _ _ _ _ _ _ _)
      | (with_reducible exact ih2 _ _ _ _ _ _ _ _ _ _ _ _ _ _ _)
      | (with_reducible exact celluloidref07_RGBA.mono _ _ _ _ _)
      | (with_reducible exact LeO.refl _)
      | (with_reducible exact LeO.none _)
      | (with_reducible refine LeO.ite ?_ ?_)
      | (with_reducible refine LeO.bind ?_ (fun _ => ?_))
      | exact ih0 _ _ _ _ _ _ _ _ _ _ _ _ _ _ _ _
      | exact ih1 _ _ _ _ _ _ _ _ _ _ _ _ _ _ _
      | exact ih2 _ _ _ _ _ _ _ _ _ _ _ _ _ _ _
      | exact celluloidref07_RGBA.mono _ _ _ _ _
      | exact LeO.none _
      | refine LeO.ite ?_ ?_
      | refine LeO.bind ?_ (fun _ => ?_)
set_option maxHeartbeats 8000000 in
set_option maxRecDepth 100000 in
theorem celluloidref08_Fill.calls (k : Nat) (a0_0 : Int) (a0_1 : Int) (a0_2 : Int) (a0_3 : Int) (a0_4 : Int) (a0_5 : Int) (a0_6 : Int) (a0_7 : Int) (a0_8 : Int) (a0_9 : Int) (a0_10 : Int) (a0_11 : Int) (A0_12 : Option Addr) (c0_12 : Nat) (l0_12 : List (S32)) (a0_13 : Int) (r : Bool) (w : World) (hr0_12 : Kd.C k32 w A0_12 l0_12.length l0_12) (hc0_12 : l0_12.length ≤ c0_12) (h : celluloidref08_Fill.f k a0_0 a0_1 a0_2 a0_3 a0_4 a0_5 a0_6 a0_7 a0_8 a0_9 a0_10 a0_11 l0_12 a0_13 = some r) :
    Calls Try.prog 30 #[.agg #[.int .i64 a0_0,.int .i64 a0_1,.int .i64 a0_2,.int .i64 a0_3,.int .i64 a0_4,.int .i64 a0_5,.int .i64 a0_6,.int .i64 a0_7,.int .i64 a0_8,.int .i64 a0_9,.int .i64 a0_10,.int .i64 a0_11,.slice A0_12 l0_12.length c0_12,.int .i64 a0_13]] w fun e w' => e = .returned (.bool r) ∧ Below w.heap.size w w':=by
  have hu43:=Try.underlying43;have hu41:=Try.underlying41;have hu27:=Try.underlying27;have HR0_12:=am hr0_12;have HC0_12:=am hc0_12;clear hr0_12 hc0_12;have HB:=am (Below.refl w.heap.size w);have H : (if a0_0 = 0 then (if (a0_5 == 0 && (a0_6 == 0 && (a0_7 == 0 && (a0_8 == 0 && (a0_9 == 0 && (a0_10 == 0)))))) = true then (if a0_11 = 0 then (if a0_13 = 0 then (if (l0_12.length : Int) = 0 then ((celluloidref07_RGBA.f k a0_1 a0_2 a0_3 a0_4).bind fun t288 => (some t288)) else (some false)) else (some false)) else (some false)) else (some false)) else (if a0_0 = 64 then (celluloidref08_Fill.j0 k a0_0 (a0_0 == 64) a0_0 a0_1 a0_2 a0_3 a0_4 a0_5 a0_6 a0_7 a0_8 a0_9 a0_10 a0_11 l0_12 a0_13) else (celluloidref08_Fill.j0 k a0_0 (a0_0 == 65) a0_0 a0_1 a0_2 a0_3 a0_4 a0_5 a0_6 a0_7 a0_8 a0_9 a0_10 a0_11 l0_12 a0_13))) = some r:=h;clear h
  by_cases c2 : a0_0 = 0
  focus
    rw [if_pos c2] at H;have c2b0 : (a0_0 == 0) = true:=beq_iff_eq.mpr c2;have c2b1 : (a0_0 != 0) = false:=bne_eq_false_iff_eq.mpr c2;clear c2
    by_cases c3 : (a0_5 == 0 && (a0_6 == 0 && (a0_7 == 0 && (a0_8 == 0 && (a0_9 == 0 && (a0_10 == 0)))))) = true
    focus
      rw [if_pos c3] at H;have c3b0 : (a0_5 == 0 && (a0_6 == 0 && (a0_7 == 0 && (a0_8 == 0 && (a0_9 == 0 && (a0_10 == 0)))))) = true:=c3
      (try (have c3b1 : decide (a0_5 = 0 && (a0_6 == 0 && (a0_7 == 0 && (a0_8 == 0 && (a0_9 == 0 && (a0_10 == 0)))))) = true:=by simpa using c3))
      (try (have c3b2 : (a0_5 == 0 && (a0_6 == 0 && (a0_7 == 0 && (a0_8 == 0 && (a0_9 == 0 && (a0_10 == 0)))))) = true:=by simpa using c3))
      clear c3
      by_cases c4 : a0_11 = 0
      focus
        rw [if_pos c4] at H;have c4b0 : (a0_11 == 0) = true:=beq_iff_eq.mpr c4;have c4b1 : (a0_11 != 0) = false:=bne_eq_false_iff_eq.mpr c4;clear c4
        by_cases c5 : a0_13 = 0
        focus
          rw [if_pos c5] at H;have c5b0 : (a0_13 == 0) = true:=beq_iff_eq.mpr c5;have c5b1 : (a0_13 != 0) = false:=bne_eq_false_iff_eq.mpr c5;clear c5
          by_cases c6 : (l0_12.length : Int) = 0
          focus
            rw [if_pos c6] at H;have c6b0 : ((l0_12.length : Int) == 0) = true:=beq_iff_eq.mpr c6;have c6b1 : ((l0_12.length : Int) != 0) = false:=bne_eq_false_iff_eq.mpr c6;clear c6;replace H:=Option.bind_eq_some_iff.mp H;obtain ⟨t288,A70,H⟩:=H;replace H : (some t288) = some r:=H;have A7:=am A70;clear A70;obtain rfl:=Option.some.inj H
          rotate_left
          focus
            rw [if_neg c6] at H;have c6b0 : ((l0_12.length : Int) == 0) = false:=beq_eq_false_iff_ne.mpr c6;have c6b1 : ((l0_12.length : Int) != 0) = true:=bne_iff_ne.mpr c6
            have c6b2 : ¬ (l0_12 = []):=fun h_ => c6 (by rw [h_];rfl)
            obtain rfl:=Option.some.inj H
        rotate_left 2
        focus
          rw [if_neg c5] at H;have c5b0 : (a0_13 == 0) = false:=beq_eq_false_iff_ne.mpr c5;have c5b1 : (a0_13 != 0) = true:=bne_iff_ne.mpr c5;obtain rfl:=Option.some.inj H
      rotate_left 3
      focus
        rw [if_neg c4] at H;have c4b0 : (a0_11 == 0) = false:=beq_eq_false_iff_ne.mpr c4;have c4b1 : (a0_11 != 0) = true:=bne_iff_ne.mpr c4;obtain rfl:=Option.some.inj H
    rotate_left 4
    focus
      rw [if_neg c3] at H
      have c3b0 : (a0_5 == 0 && (a0_6 == 0 && (a0_7 == 0 && (a0_8 == 0 && (a0_9 == 0 && (a0_10 == 0)))))) = false:=by simpa using c3
      (try (have c3b1 : decide (a0_5 = 0 && (a0_6 == 0 && (a0_7 == 0 && (a0_8 == 0 && (a0_9 == 0 && (a0_10 == 0)))))) = false:=by simpa using c3))
      (try (have c3b2 : (a0_5 == 0 && (a0_6 == 0 && (a0_7 == 0 && (a0_8 == 0 && (a0_9 == 0 && (a0_10 == 0)))))) = false:=by simpa using c3))
      (try (have c3b3 : ¬ (a0_5 = 0 && (a0_6 == 0 && (a0_7 == 0 && (a0_8 == 0 && (a0_9 == 0 && (a0_10 == 0)))))):=by simpa using c3))
      clear c3;obtain rfl:=Option.some.inj H
  rotate_left 5
  focus
    rw [if_neg c2] at H;have c2b0 : (a0_0 == 0) = false:=beq_eq_false_iff_ne.mpr c2;have c2b1 : (a0_0 != 0) = true:=bne_iff_ne.mpr c2;have HC19:=am H;clear H
    go_enter Try.func30,Try.ntmps30
    go_upto_if 34 with (first|((with_reducible refine gate_dst (N:=1) rfl ?_);(try (refine gate_guard (by rfl) ?_;dsimp only));refine box_event ?hg (N:=1) ?hd (cs:=#[.int .i64 a0_0,.int .i64 a0_1,.int .i64 a0_2,.int .i64 a0_3,.int .i64 a0_4,.int .i64 a0_5,.int .i64 a0_6,.int .i64 a0_7,.int .i64 a0_8,.int .i64 a0_9,.int .i64 a0_10,.int .i64 a0_11,.slice A0_12 l0_12.length c0_12,.int .i64 a0_13]) (t:=43) ?hr ?_;(case hd => rfl);(case hg => rfl);(case hr => first|(go_simp;done)|(go_simp;rfl));intro gb287 hg w20 hbox hb;have n0_:=am (ss (by repeat (first|(with_reducible first|exact HB.out|apply sa|apply sn|apply sd)|exact HB.out)) hb);have n1_:=am (hbox);have n2_:=am ((by rw [hg];exact (sz (by repeat (first|(with_reducible first|exact HB.out|apply sa|apply sn|apply sd)|exact HB.out))) : w.heap.size ≤ gb287));have n3_:=am ((by rw [hg];exact (sz (by repeat (first|(with_reducible first|exact HB.out|apply sa|apply sn|apply sd)|exact HB.out))) : w.heap.size ≤ gb287));clear HB;have HB:=n0_;have BK287:=n1_;have GW287:=n2_;have GE287:=n3_;clear n0_ n1_ n2_ n3_;clear hb hbox hg;obtain ⟨hcz21_0,hcz21_1,hcz21_2,hcz21_3,hcz21_4,hcz21_5,hcz21_6,hcz21_7,hcz21_8,hcz21_9,hcz21_10,hcz21_11,hcz21_12,hcz21_13⟩:=cq14 BK287.out;obtain ⟨hfz21_0,hfz21_1,hfz21_2,hfz21_3,hfz21_4,hfz21_5,hfz21_6,hfz21_7,hfz21_8,hfz21_9,hfz21_10,hfz21_11,hfz21_12,hfz21_13⟩:=fq14 BK287.out))
    (try simp only [Act.put,q1,q2,q3])
    go_cut [34] (fun v34 wc => ∃ (kq : Nat) (x34_18 : Bool),v34 = .bool x34_18 ∧ Aside0 (celluloidref08_Fill.j0 kq a0_0 x34_18 a0_0 a0_1 a0_2 a0_3 a0_4 a0_5 a0_6 a0_7 a0_8 a0_9 a0_10 a0_11 l0_12 a0_13 = some r) ∧ Aside0 (kq ≤ k) ∧ Aside0 (wc.heap[gb287]? = some (.cells #[.int .i64 a0_0,.int .i64 a0_1,.int .i64 a0_2,.int .i64 a0_3,.int .i64 a0_4,.int .i64 a0_5,.int .i64 a0_6,.int .i64 a0_7,.int .i64 a0_8,.int .i64 a0_9,.int .i64 a0_10,.int .i64 a0_11,(.slice A0_12 l0_12.length c0_12),.int .i64 a0_13] 43 (0,0))) ∧ Aside0 (Below w.heap.size w wc))
    case first =>
      have H:=HC19.out;clear HC19
      by_cases c22 : a0_0 = 64
      · rw [if_pos c22] at H
        have c22b0 : (a0_0 == 64) = true:=beq_iff_eq.mpr c22;have c22b1 : (a0_0 != 64) = false:=bne_eq_false_iff_eq.mpr c22;clear c22
        (first|rw [c22b0]|(simp only [i64_w,i32_w];rw [c22b0])|skip)
        have H':=am H;clear H
        go_wp2
        go_meet
        case rel => exact ⟨_,((a0_0 == 64)),(by first|rfl|(simp;done)|(simp [*];done)),H',⟨by first|omega|exact Nat.le_refl _⟩,⟨by exact BK287.out⟩,⟨by repeat (first|(with_reducible first|exact HB.out|apply sa|apply sn|apply sd|refine sx ?_ GE287.out)|exact HB.out)⟩⟩
      · rw [if_neg c22] at H
        have c22b0 : (a0_0 == 64) = false:=beq_eq_false_iff_ne.mpr c22;have c22b1 : (a0_0 != 64) = true:=bne_iff_ne.mpr c22
        (first|rw [c22b0]|(simp only [i64_w,i32_w];rw [c22b0])|skip)
        have H':=am H;clear H
        go_wp2
        go_meet
        case rel => exact ⟨_,((a0_0 == 65)),(by first|rfl|(simp;done)|(simp [*];done)),H',⟨by first|omega|exact Nat.le_refl _⟩,⟨by exact BK287.out⟩,⟨by repeat (first|(with_reducible first|exact HB.out|apply sa|apply sn|apply sd|refine sx ?_ GE287.out)|exact HB.out)⟩⟩
    case rest =>
      clear HC19
      try clear c2
      try clear c2b0
      try clear c2b1
      try clear p2
      try clear c3
      try clear c3b0
      try clear c3b1
      try clear c3b2
      try clear c4
      try clear c4b0
      try clear c4b1
      try clear c5
      try clear c5b0
      try clear c5b1
      try clear c6
      try clear c6b0
      try clear c6b1
      try clear c6b2
      try clear c22
      try clear c22b0
      try clear c22b1
      try clear hcz12_0
      try clear hcz12_1
      try clear hcz12_10
      try clear hcz12_11
      try clear hcz12_12
      try clear hcz12_13
      try clear hcz12_2
      try clear hcz12_3
      try clear hcz12_4
      try clear hcz12_5
      try clear hcz12_6
      try clear hcz12_7
      try clear hcz12_8
      try clear hcz12_9
      try clear hcz14_0
      try clear hcz14_1
      try clear hcz14_10
      try clear hcz14_11
      try clear hcz14_12
      try clear hcz14_13
      try clear hcz14_2
      try clear hcz14_3
      try clear hcz14_4
      try clear hcz14_5
      try clear hcz14_6
      try clear hcz14_7
      try clear hcz14_8
      try clear hcz14_9
      try clear hcz16_0
      try clear hcz16_1
      try clear hcz16_10
      try clear hcz16_11
      try clear hcz16_12
      try clear hcz16_13
      try clear hcz16_2
      try clear hcz16_3
      try clear hcz16_4
      try clear hcz16_5
      try clear hcz16_6
      try clear hcz16_7
      try clear hcz16_8
      try clear hcz16_9
      try clear hcz18_0
      try clear hcz18_1
      try clear hcz18_10
      try clear hcz18_11
      try clear hcz18_12
      try clear hcz18_13
      try clear hcz18_2
      try clear hcz18_3
      try clear hcz18_4
      try clear hcz18_5
      try clear hcz18_6
      try clear hcz18_7
      try clear hcz18_8
      try clear hcz18_9
      try clear hcz21_0
      try clear hcz21_1
      try clear hcz21_10
      try clear hcz21_11
      try clear hcz21_12
      try clear hcz21_13
      try clear hcz21_2
      try clear hcz21_3
      try clear hcz21_4
      try clear hcz21_5
      try clear hcz21_6
      try clear hcz21_7
      try clear hcz21_8
      try clear hcz21_9
      try clear hcz9_0
      try clear hcz9_1
      try clear hcz9_10
      try clear hcz9_11
      try clear hcz9_12
      try clear hcz9_13
      try clear hcz9_2
      try clear hcz9_3
      try clear hcz9_4
      try clear hcz9_5
      try clear hcz9_6
      try clear hcz9_7
      try clear hcz9_8
      try clear hcz9_9
      try clear hfz12_0
      try clear hfz12_1
      try clear hfz12_10
      try clear hfz12_11
      try clear hfz12_12
      try clear hfz12_13
      try clear hfz12_2
      try clear hfz12_3
      try clear hfz12_4
      try clear hfz12_5
      try clear hfz12_6
      try clear hfz12_7
      try clear hfz12_8
      try clear hfz12_9
      try clear hfz14_0
      try clear hfz14_1
      try clear hfz14_10
      try clear hfz14_11
      try clear hfz14_12
      try clear hfz14_13
      try clear hfz14_2
      try clear hfz14_3
      try clear hfz14_4
      try clear hfz14_5
      try clear hfz14_6
      try clear hfz14_7
      try clear hfz14_8
      try clear hfz14_9
      try clear hfz16_0
      try clear hfz16_1
      try clear hfz16_10
      try clear hfz16_11
      try clear hfz16_12
      try clear hfz16_13
      try clear hfz16_2
      try clear hfz16_3
      try clear hfz16_4
      try clear hfz16_5
      try clear hfz16_6
      try clear hfz16_7
      try clear hfz16_8
      try clear hfz16_9
      try clear hfz18_0
      try clear hfz18_1
      try clear hfz18_10
      try clear hfz18_11
      try clear hfz18_12
      try clear hfz18_13
      try clear hfz18_2
      try clear hfz18_3
      try clear hfz18_4
      try clear hfz18_5
      try clear hfz18_6
      try clear hfz18_7
      try clear hfz18_8
      try clear hfz18_9
      try clear hfz21_0
      try clear hfz21_1
      try clear hfz21_10
      try clear hfz21_11
      try clear hfz21_12
      try clear hfz21_13
      try clear hfz21_2
      try clear hfz21_3
      try clear hfz21_4
      try clear hfz21_5
      try clear hfz21_6
      try clear hfz21_7
      try clear hfz21_8
      try clear hfz21_9
      try clear hfz9_0
      try clear hfz9_1
      try clear hfz9_10
      try clear hfz9_11
      try clear hfz9_12
      try clear hfz9_13
      try clear hfz9_2
      try clear hfz9_3
      try clear hfz9_4
      try clear hfz9_5
      try clear hfz9_6
      try clear hfz9_7
      try clear hfz9_8
      try clear hfz9_9
      obtain ⟨kq,x34_18,rfl,HA,HJ18,BK287,HB⟩:=hcut
      cases kq with
      | zero => exact absurd HA.out (by simp [celluloidref08_Fill.j0])
      | succ kj18 =>
        have H:=HA.out;clear HA;simp only [celluloidref08_Fill.j0] at H
        by_cases c23 : x34_18 = true
        · subst c23
          have H1 : (if (a0_1 == 0 && (a0_2 == 0 && (a0_3 == 0 && (a0_4 == 0)))) = true then (if a0_11 = 0 then (if (l0_12.length : Int) = 0 then (if a0_13 ≥ 0 then (if a0_13 < 65536 then ((celluloidref07_Matrix.f a0_5 a0_6 a0_7 a0_8 a0_9 a0_10).bind fun t289 => (some t289)) else (some false)) else (some false)) else (some false)) else (some false)) else (some false)) = some r:=by rw [if_pos rfl] at H;exact H
          clear H;have H:=H1;clear H1
          by_cases c24 : (a0_1 == 0 && (a0_2 == 0 && (a0_3 == 0 && (a0_4 == 0)))) = true
          · rw [if_pos c24] at H
            have c24b0 : (a0_1 == 0 && (a0_2 == 0 && (a0_3 == 0 && (a0_4 == 0)))) = true:=c24
            (try (have c24b1 : decide (a0_1 = 0 && (a0_2 == 0 && (a0_3 == 0 && (a0_4 == 0)))) = true:=by simpa using c24))
            (try (have c24b2 : (a0_1 == 0 && (a0_2 == 0 && (a0_3 == 0 && (a0_4 == 0)))) = true:=by simpa using c24))
            clear c24
            by_cases c25 : a0_11 = 0
            · rw [if_pos c25] at H
              have c25b0 : (a0_11 == 0) = true:=beq_iff_eq.mpr c25;have c25b1 : (a0_11 != 0) = false:=bne_eq_false_iff_eq.mpr c25;clear c25
              by_cases c26 : (l0_12.length : Int) = 0
              · rw [if_pos c26] at H
                have c26b0 : ((l0_12.length : Int) == 0) = true:=beq_iff_eq.mpr c26;have c26b1 : ((l0_12.length : Int) != 0) = false:=bne_eq_false_iff_eq.mpr c26;clear c26
                by_cases c27 : a0_13 ≥ 0
                · rw [if_pos c27] at H
                  have c27b0 : decide (0 ≤ a0_13) = true:=decide_eq_true c27;clear c27
                  by_cases c28 : a0_13 < 65536
                  · rw [if_pos c28] at H
                    have c28b0 : decide (a0_13 < 65536) = true:=decide_eq_true c28;clear c28;replace H:=Option.bind_eq_some_iff.mp H;obtain ⟨t289,A290,H⟩:=H;replace H : (some t289) = some r:=H;have A29:=am A290;clear A290;obtain rfl:=Option.some.inj H;have hcz30_0 : wc.cell? ⟨gb287,0,none⟩ = some (.int .i64 a0_0):=(bc BK287.out 0).trans rfl;have hcz30_1 : wc.cell? ⟨gb287,1,none⟩ = some (.int .i64 a0_1):=(bc BK287.out 1).trans rfl;have hcz30_2 : wc.cell? ⟨gb287,2,none⟩ = some (.int .i64 a0_2):=(bc BK287.out 2).trans rfl;have hcz30_3 : wc.cell? ⟨gb287,3,none⟩ = some (.int .i64 a0_3):=(bc BK287.out 3).trans rfl;have hcz30_4 : wc.cell? ⟨gb287,4,none⟩ = some (.int .i64 a0_4):=(bc BK287.out 4).trans rfl;have hcz30_5 : wc.cell? ⟨gb287,5,none⟩ = some (.int .i64 a0_5):=(bc BK287.out 5).trans rfl;have hcz30_6 : wc.cell? ⟨gb287,6,none⟩ = some (.int .i64 a0_6):=(bc BK287.out 6).trans rfl;have hcz30_7 : wc.cell? ⟨gb287,7,none⟩ = some (.int .i64 a0_7):=(bc BK287.out 7).trans rfl;have hcz30_8 : wc.cell? ⟨gb287,8,none⟩ = some (.int .i64 a0_8):=(bc BK287.out 8).trans rfl;have hcz30_9 : wc.cell? ⟨gb287,9,none⟩ = some (.int .i64 a0_9):=(bc BK287.out 9).trans rfl;have hcz30_10 : wc.cell? ⟨gb287,10,none⟩ = some (.int .i64 a0_10):=(bc BK287.out 10).trans rfl;have hcz30_11 : wc.cell? ⟨gb287,11,none⟩ = some (.int .i64 a0_11):=(bc BK287.out 11).trans rfl;have hcz30_12 : wc.cell? ⟨gb287,12,none⟩ = some (.slice A0_12 l0_12.length c0_12):=(bc BK287.out 12).trans rfl;have hcz30_13 : wc.cell? ⟨gb287,13,none⟩ = some (.int .i64 a0_13):=(bc BK287.out 13).trans rfl;have hfz30_0:=bz BK287.out 0;have hfz30_1:=bz BK287.out 1;have hfz30_2:=bz BK287.out 2;have hfz30_3:=bz BK287.out 3;have hfz30_4:=bz BK287.out 4;have hfz30_5:=bz BK287.out 5;have hfz30_6:=bz BK287.out 6;have hfz30_7:=bz BK287.out 7;have hfz30_8:=bz BK287.out 8;have hfz30_9:=bz BK287.out 9;have hfz30_10:=bz BK287.out 10;have hfz30_11:=bz BK287.out 11;have hfz30_12:=bz BK287.out 12;have hfz30_13:=bz BK287.out 13
                    go_wp2_with (first|(go_at_call 40;(with_reducible refine (celluloidref07_Matrix.calls a0_5 a0_6 a0_7 a0_8 a0_9 a0_10 t289 _ A29.out).mono ?_);rintro e w31 ⟨rfl,hb⟩;replace BK287:=am (bw (by exact BK287.out) hb);replace HB:=am (ss (by repeat (first|(with_reducible first|exact HB.out|apply sa|apply sn|apply sd|refine sx ?_ GE287.out)|exact HB.out)) hb);(try clear hb);(try clear hb2);(try clear hk);(try clear hi)))
                    go_ret
                    exact ⟨by first|rfl|(simp [errW_none,errW_some] <;> rfl)|(simp [*,errW_none,errW_some] <;> rfl),by repeat (first|(with_reducible first|exact HB.out|apply sa|apply sn|apply sd|refine sx ?_ GE287.out)|exact HB.out)⟩
                  · rw [if_neg c28] at H
                    have c28b0 : decide (a0_13 < 65536) = false:=decide_eq_false c28;clear c28;obtain rfl:=Option.some.inj H;have hcz32_0 : wc.cell? ⟨gb287,0,none⟩ = some (.int .i64 a0_0):=(bc BK287.out 0).trans rfl;have hcz32_1 : wc.cell? ⟨gb287,1,none⟩ = some (.int .i64 a0_1):=(bc BK287.out 1).trans rfl;have hcz32_2 : wc.cell? ⟨gb287,2,none⟩ = some (.int .i64 a0_2):=(bc BK287.out 2).trans rfl;have hcz32_3 : wc.cell? ⟨gb287,3,none⟩ = some (.int .i64 a0_3):=(bc BK287.out 3).trans rfl;have hcz32_4 : wc.cell? ⟨gb287,4,none⟩ = some (.int .i64 a0_4):=(bc BK287.out 4).trans rfl;have hcz32_5 : wc.cell? ⟨gb287,5,none⟩ = some (.int .i64 a0_5):=(bc BK287.out 5).trans rfl;have hcz32_6 : wc.cell? ⟨gb287,6,none⟩ = some (.int .i64 a0_6):=(bc BK287.out 6).trans rfl;have hcz32_7 : wc.cell? ⟨gb287,7,none⟩ = some (.int .i64 a0_7):=(bc BK287.out 7).trans rfl;have hcz32_8 : wc.cell? ⟨gb287,8,none⟩ = some (.int .i64 a0_8):=(bc BK287.out 8).trans rfl;have hcz32_9 : wc.cell? ⟨gb287,9,none⟩ = some (.int .i64 a0_9):=(bc BK287.out 9).trans rfl;have hcz32_10 : wc.cell? ⟨gb287,10,none⟩ = some (.int .i64 a0_10):=(bc BK287.out 10).trans rfl;have hcz32_11 : wc.cell? ⟨gb287,11,none⟩ = some (.int .i64 a0_11):=(bc BK287.out 11).trans rfl;have hcz32_12 : wc.cell? ⟨gb287,12,none⟩ = some (.slice A0_12 l0_12.length c0_12):=(bc BK287.out 12).trans rfl;have hcz32_13 : wc.cell? ⟨gb287,13,none⟩ = some (.int .i64 a0_13):=(bc BK287.out 13).trans rfl;have hfz32_0:=bz BK287.out 0;have hfz32_1:=bz BK287.out 1;have hfz32_2:=bz BK287.out 2;have hfz32_3:=bz BK287.out 3;have hfz32_4:=bz BK287.out 4;have hfz32_5:=bz BK287.out 5;have hfz32_6:=bz BK287.out 6;have hfz32_7:=bz BK287.out 7;have hfz32_8:=bz BK287.out 8;have hfz32_9:=bz BK287.out 9;have hfz32_10:=bz BK287.out 10;have hfz32_11:=bz BK287.out 11;have hfz32_12:=bz BK287.out 12;have hfz32_13:=bz BK287.out 13
                    go_wp2
                    go_ret
                    exact ⟨by first|rfl|(simp [errW_none,errW_some] <;> rfl)|(simp [*,errW_none,errW_some] <;> rfl),by repeat (first|(with_reducible first|exact HB.out|apply sa|apply sn|apply sd|refine sx ?_ GE287.out)|exact HB.out)⟩
                · rw [if_neg c27] at H
                  have c27b0 : decide (0 ≤ a0_13) = false:=decide_eq_false c27;clear c27;obtain rfl:=Option.some.inj H;have hcz33_0 : wc.cell? ⟨gb287,0,none⟩ = some (.int .i64 a0_0):=(bc BK287.out 0).trans rfl;have hcz33_1 : wc.cell? ⟨gb287,1,none⟩ = some (.int .i64 a0_1):=(bc BK287.out 1).trans rfl;have hcz33_2 : wc.cell? ⟨gb287,2,none⟩ = some (.int .i64 a0_2):=(bc BK287.out 2).trans rfl;have hcz33_3 : wc.cell? ⟨gb287,3,none⟩ = some (.int .i64 a0_3):=(bc BK287.out 3).trans rfl;have hcz33_4 : wc.cell? ⟨gb287,4,none⟩ = some (.int .i64 a0_4):=(bc BK287.out 4).trans rfl;have hcz33_5 : wc.cell? ⟨gb287,5,none⟩ = some (.int .i64 a0_5):=(bc BK287.out 5).trans rfl;have hcz33_6 : wc.cell? ⟨gb287,6,none⟩ = some (.int .i64 a0_6):=(bc BK287.out 6).trans rfl;have hcz33_7 : wc.cell? ⟨gb287,7,none⟩ = some (.int .i64 a0_7):=(bc BK287.out 7).trans rfl;have hcz33_8 : wc.cell? ⟨gb287,8,none⟩ = some (.int .i64 a0_8):=(bc BK287.out 8).trans rfl;have hcz33_9 : wc.cell? ⟨gb287,9,none⟩ = some (.int .i64 a0_9):=(bc BK287.out 9).trans rfl;have hcz33_10 : wc.cell? ⟨gb287,10,none⟩ = some (.int .i64 a0_10):=(bc BK287.out 10).trans rfl;have hcz33_11 : wc.cell? ⟨gb287,11,none⟩ = some (.int .i64 a0_11):=(bc BK287.out 11).trans rfl;have hcz33_12 : wc.cell? ⟨gb287,12,none⟩ = some (.slice A0_12 l0_12.length c0_12):=(bc BK287.out 12).trans rfl;have hcz33_13 : wc.cell? ⟨gb287,13,none⟩ = some (.int .i64 a0_13):=(bc BK287.out 13).trans rfl;have hfz33_0:=bz BK287.out 0;have hfz33_1:=bz BK287.out 1;have hfz33_2:=bz BK287.out 2;have hfz33_3:=bz BK287.out 3;have hfz33_4:=bz BK287.out 4;have hfz33_5:=bz BK287.out 5;have hfz33_6:=bz BK287.out 6;have hfz33_7:=bz BK287.out 7;have hfz33_8:=bz BK287.out 8;have hfz33_9:=bz BK287.out 9;have hfz33_10:=bz BK287.out 10;have hfz33_11:=bz BK287.out 11;have hfz33_12:=bz BK287.out 12;have hfz33_13:=bz BK287.out 13
                  go_wp2
                  go_ret
                  exact ⟨by first|rfl|(simp [errW_none,errW_some] <;> rfl)|(simp [*,errW_none,errW_some] <;> rfl),by repeat (first|(with_reducible first|exact HB.out|apply sa|apply sn|apply sd|refine sx ?_ GE287.out)|exact HB.out)⟩
              · rw [if_neg c26] at H
                have c26b0 : ((l0_12.length : Int) == 0) = false:=beq_eq_false_iff_ne.mpr c26;have c26b1 : ((l0_12.length : Int) != 0) = true:=bne_iff_ne.mpr c26
                have c26b2 : ¬ (l0_12 = []):=fun h_ => c26 (by rw [h_];rfl)
                obtain rfl:=Option.some.inj H;have hcz34_0 : wc.cell? ⟨gb287,0,none⟩ = some (.int .i64 a0_0):=(bc BK287.out 0).trans rfl;have hcz34_1 : wc.cell? ⟨gb287,1,none⟩ = some (.int .i64 a0_1):=(bc BK287.out 1).trans rfl;have hcz34_2 : wc.cell? ⟨gb287,2,none⟩ = some (.int .i64 a0_2):=(bc BK287.out 2).trans rfl;have hcz34_3 : wc.cell? ⟨gb287,3,none⟩ = some (.int .i64 a0_3):=(bc BK287.out 3).trans rfl;have hcz34_4 : wc.cell? ⟨gb287,4,none⟩ = some (.int .i64 a0_4):=(bc BK287.out 4).trans rfl;have hcz34_5 : wc.cell? ⟨gb287,5,none⟩ = some (.int .i64 a0_5):=(bc BK287.out 5).trans rfl;have hcz34_6 : wc.cell? ⟨gb287,6,none⟩ = some (.int .i64 a0_6):=(bc BK287.out 6).trans rfl;have hcz34_7 : wc.cell? ⟨gb287,7,none⟩ = some (.int .i64 a0_7):=(bc BK287.out 7).trans rfl;have hcz34_8 : wc.cell? ⟨gb287,8,none⟩ = some (.int .i64 a0_8):=(bc BK287.out 8).trans rfl;have hcz34_9 : wc.cell? ⟨gb287,9,none⟩ = some (.int .i64 a0_9):=(bc BK287.out 9).trans rfl;have hcz34_10 : wc.cell? ⟨gb287,10,none⟩ = some (.int .i64 a0_10):=(bc BK287.out 10).trans rfl;have hcz34_11 : wc.cell? ⟨gb287,11,none⟩ = some (.int .i64 a0_11):=(bc BK287.out 11).trans rfl;have hcz34_12 : wc.cell? ⟨gb287,12,none⟩ = some (.slice A0_12 l0_12.length c0_12):=(bc BK287.out 12).trans rfl;have hcz34_13 : wc.cell? ⟨gb287,13,none⟩ = some (.int .i64 a0_13):=(bc BK287.out 13).trans rfl;have hfz34_0:=bz BK287.out 0;have hfz34_1:=bz BK287.out 1;have hfz34_2:=bz BK287.out 2;have hfz34_3:=bz BK287.out 3;have hfz34_4:=bz BK287.out 4;have hfz34_5:=bz BK287.out 5;have hfz34_6:=bz BK287.out 6;have hfz34_7:=bz BK287.out 7;have hfz34_8:=bz BK287.out 8;have hfz34_9:=bz BK287.out 9;have hfz34_10:=bz BK287.out 10;have hfz34_11:=bz BK287.out 11;have hfz34_12:=bz BK287.out 12;have hfz34_13:=bz BK287.out 13
                go_wp2
                go_ret
                exact ⟨by first|rfl|(simp [errW_none,errW_some] <;> rfl)|(simp [*,errW_none,errW_some] <;> rfl),by repeat (first|(with_reducible first|exact HB.out|apply sa|apply sn|apply sd|refine sx ?_ GE287.out)|exact HB.out)⟩
            · rw [if_neg c25] at H
              have c25b0 : (a0_11 == 0) = false:=beq_eq_false_iff_ne.mpr c25;have c25b1 : (a0_11 != 0) = true:=bne_iff_ne.mpr c25;obtain rfl:=Option.some.inj H;have hcz35_0 : wc.cell? ⟨gb287,0,none⟩ = some (.int .i64 a0_0):=(bc BK287.out 0).trans rfl;have hcz35_1 : wc.cell? ⟨gb287,1,none⟩ = some (.int .i64 a0_1):=(bc BK287.out 1).trans rfl;have hcz35_2 : wc.cell? ⟨gb287,2,none⟩ = some (.int .i64 a0_2):=(bc BK287.out 2).trans rfl;have hcz35_3 : wc.cell? ⟨gb287,3,none⟩ = some (.int .i64 a0_3):=(bc BK287.out 3).trans rfl;have hcz35_4 : wc.cell? ⟨gb287,4,none⟩ = some (.int .i64 a0_4):=(bc BK287.out 4).trans rfl;have hcz35_5 : wc.cell? ⟨gb287,5,none⟩ = some (.int .i64 a0_5):=(bc BK287.out 5).trans rfl;have hcz35_6 : wc.cell? ⟨gb287,6,none⟩ = some (.int .i64 a0_6):=(bc BK287.out 6).trans rfl;have hcz35_7 : wc.cell? ⟨gb287,7,none⟩ = some (.int .i64 a0_7):=(bc BK287.out 7).trans rfl;have hcz35_8 : wc.cell? ⟨gb287,8,none⟩ = some (.int .i64 a0_8):=(bc BK287.out 8).trans rfl;have hcz35_9 : wc.cell? ⟨gb287,9,none⟩ = some (.int .i64 a0_9):=(bc BK287.out 9).trans rfl;have hcz35_10 : wc.cell? ⟨gb287,10,none⟩ = some (.int .i64 a0_10):=(bc BK287.out 10).trans rfl;have hcz35_11 : wc.cell? ⟨gb287,11,none⟩ = some (.int .i64 a0_11):=(bc BK287.out 11).trans rfl;have hcz35_12 : wc.cell? ⟨gb287,12,none⟩ = some (.slice A0_12 l0_12.length c0_12):=(bc BK287.out 12).trans rfl;have hcz35_13 : wc.cell? ⟨gb287,13,none⟩ = some (.int .i64 a0_13):=(bc BK287.out 13).trans rfl;have hfz35_0:=bz BK287.out 0;have hfz35_1:=bz BK287.out 1;have hfz35_2:=bz BK287.out 2;have hfz35_3:=bz BK287.out 3;have hfz35_4:=bz BK287.out 4;have hfz35_5:=bz BK287.out 5;have hfz35_6:=bz BK287.out 6;have hfz35_7:=bz BK287.out 7;have hfz35_8:=bz BK287.out 8;have hfz35_9:=bz BK287.out 9;have hfz35_10:=bz BK287.out 10;have hfz35_11:=bz BK287.out 11;have hfz35_12:=bz BK287.out 12;have hfz35_13:=bz BK287.out 13
              go_wp2
              go_ret
              exact ⟨by first|rfl|(simp [errW_none,errW_some] <;> rfl)|(simp [*,errW_none,errW_some] <;> rfl),by repeat (first|(with_reducible first|exact HB.out|apply sa|apply sn|apply sd|refine sx ?_ GE287.out)|exact HB.out)⟩
          · rw [if_neg c24] at H
            have c24b0 : (a0_1 == 0 && (a0_2 == 0 && (a0_3 == 0 && (a0_4 == 0)))) = false:=by simpa using c24
            (try (have c24b1 : decide (a0_1 = 0 && (a0_2 == 0 && (a0_3 == 0 && (a0_4 == 0)))) = false:=by simpa using c24))
            (try (have c24b2 : (a0_1 == 0 && (a0_2 == 0 && (a0_3 == 0 && (a0_4 == 0)))) = false:=by simpa using c24))
            (try (have c24b3 : ¬ (a0_1 = 0 && (a0_2 == 0 && (a0_3 == 0 && (a0_4 == 0)))):=by simpa using c24))
            clear c24;obtain rfl:=Option.some.inj H;have hcz36_0 : wc.cell? ⟨gb287,0,none⟩ = some (.int .i64 a0_0):=(bc BK287.out 0).trans rfl;have hcz36_1 : wc.cell? ⟨gb287,1,none⟩ = some (.int .i64 a0_1):=(bc BK287.out 1).trans rfl;have hcz36_2 : wc.cell? ⟨gb287,2,none⟩ = some (.int .i64 a0_2):=(bc BK287.out 2).trans rfl;have hcz36_3 : wc.cell? ⟨gb287,3,none⟩ = some (.int .i64 a0_3):=(bc BK287.out 3).trans rfl;have hcz36_4 : wc.cell? ⟨gb287,4,none⟩ = some (.int .i64 a0_4):=(bc BK287.out 4).trans rfl;have hcz36_5 : wc.cell? ⟨gb287,5,none⟩ = some (.int .i64 a0_5):=(bc BK287.out 5).trans rfl;have hcz36_6 : wc.cell? ⟨gb287,6,none⟩ = some (.int .i64 a0_6):=(bc BK287.out 6).trans rfl;have hcz36_7 : wc.cell? ⟨gb287,7,none⟩ = some (.int .i64 a0_7):=(bc BK287.out 7).trans rfl;have hcz36_8 : wc.cell? ⟨gb287,8,none⟩ = some (.int .i64 a0_8):=(bc BK287.out 8).trans rfl;have hcz36_9 : wc.cell? ⟨gb287,9,none⟩ = some (.int .i64 a0_9):=(bc BK287.out 9).trans rfl;have hcz36_10 : wc.cell? ⟨gb287,10,none⟩ = some (.int .i64 a0_10):=(bc BK287.out 10).trans rfl;have hcz36_11 : wc.cell? ⟨gb287,11,none⟩ = some (.int .i64 a0_11):=(bc BK287.out 11).trans rfl;have hcz36_12 : wc.cell? ⟨gb287,12,none⟩ = some (.slice A0_12 l0_12.length c0_12):=(bc BK287.out 12).trans rfl;have hcz36_13 : wc.cell? ⟨gb287,13,none⟩ = some (.int .i64 a0_13):=(bc BK287.out 13).trans rfl;have hfz36_0:=bz BK287.out 0;have hfz36_1:=bz BK287.out 1;have hfz36_2:=bz BK287.out 2;have hfz36_3:=bz BK287.out 3;have hfz36_4:=bz BK287.out 4;have hfz36_5:=bz BK287.out 5;have hfz36_6:=bz BK287.out 6;have hfz36_7:=bz BK287.out 7;have hfz36_8:=bz BK287.out 8;have hfz36_9:=bz BK287.out 9;have hfz36_10:=bz BK287.out 10;have hfz36_11:=bz BK287.out 11;have hfz36_12:=bz BK287.out 12;have hfz36_13:=bz BK287.out 13
            go_wp2
            go_ret
            exact ⟨by first|rfl|(simp [errW_none,errW_some] <;> rfl)|(simp [*,errW_none,errW_some] <;> rfl),by repeat (first|(with_reducible first|exact HB.out|apply sa|apply sn|apply sd|refine sx ?_ GE287.out)|exact HB.out)⟩
        · replace c23:=Bool.eq_false_iff.mpr c23
          subst c23
          have H1 : (if a0_0 = 16 then (celluloidref08_Fill.j1 kj18 (a0_0 == 16) a0_0 a0_1 a0_2 a0_3 a0_4 a0_5 a0_6 a0_7 a0_8 a0_9 a0_10 a0_11 l0_12 a0_13) else (celluloidref08_Fill.j1 kj18 (a0_0 == 18) a0_0 a0_1 a0_2 a0_3 a0_4 a0_5 a0_6 a0_7 a0_8 a0_9 a0_10 a0_11 l0_12 a0_13)) = some r:=by rw [if_neg (show ¬ (false = true) by decide)] at H;exact H
          clear H;have H:=H1;clear H1;have HC37:=am H;clear H
          go_upto_if 67 with (fail)
          go_cut [67] (fun v67 wc => ∃ (kq : Nat) (x67_36 : Bool),v67 = .bool x67_36 ∧ Aside0 (celluloidref08_Fill.j1 kq x67_36 a0_0 a0_1 a0_2 a0_3 a0_4 a0_5 a0_6 a0_7 a0_8 a0_9 a0_10 a0_11 l0_12 a0_13 = some r) ∧ Aside0 (kq ≤ kj18) ∧ Aside0 (wc.heap[gb287]? = some (.cells #[.int .i64 a0_0,.int .i64 a0_1,.int .i64 a0_2,.int .i64 a0_3,.int .i64 a0_4,.int .i64 a0_5,.int .i64 a0_6,.int .i64 a0_7,.int .i64 a0_8,.int .i64 a0_9,.int .i64 a0_10,.int .i64 a0_11,(.slice A0_12 l0_12.length c0_12),.int .i64 a0_13] 43 (0,0))) ∧ Aside0 (Below w.heap.size w wc))
          case first =>
            have H:=HC37.out;clear HC37
            by_cases c38 : a0_0 = 16
            · rw [if_pos c38] at H
              have c38b0 : (a0_0 == 16) = true:=beq_iff_eq.mpr c38;have c38b1 : (a0_0 != 16) = false:=bne_eq_false_iff_eq.mpr c38;clear c38
              (first|rw [c38b0]|(simp only [i64_w,i32_w];rw [c38b0])|skip)
              have H':=am H;clear H
              go_wp2
              go_meet
              case rel => exact ⟨_,((a0_0 == 16)),(by first|rfl|(simp;done)|(simp [*];done)),H',⟨by have:=HJ18.out;first|omega|exact Nat.le_refl _⟩,⟨by exact BK287.out⟩,⟨by repeat (first|(with_reducible first|exact HB.out|apply sa|apply sn|apply sd|refine sx ?_ GE287.out)|exact HB.out)⟩⟩
            · rw [if_neg c38] at H
              have c38b0 : (a0_0 == 16) = false:=beq_eq_false_iff_ne.mpr c38;have c38b1 : (a0_0 != 16) = true:=bne_iff_ne.mpr c38
              (first|rw [c38b0]|(simp only [i64_w,i32_w];rw [c38b0])|skip)
              have H':=am H;clear H
              go_wp2
              go_meet
              case rel => exact ⟨_,((a0_0 == 18)),(by first|rfl|(simp;done)|(simp [*];done)),H',⟨by have:=HJ18.out;first|omega|exact Nat.le_refl _⟩,⟨by exact BK287.out⟩,⟨by repeat (first|(with_reducible first|exact HB.out|apply sa|apply sn|apply sd|refine sx ?_ GE287.out)|exact HB.out)⟩⟩
          case rest =>
            clear HC37
            try clear c2
            try clear c2b0
            try clear c2b1
            try clear p2
            try clear c3
            try clear c3b0
            try clear c3b1
            try clear c3b2
            try clear c4
            try clear c4b0
            try clear c4b1
            try clear c5
            try clear c5b0
            try clear c5b1
            try clear c6
            try clear c6b0
            try clear c6b1
            try clear c6b2
            try clear c22
            try clear c22b0
            try clear c22b1
            try clear c23
            try clear c24
            try clear c24b0
            try clear c24b1
            try clear c24b2
            try clear c25
            try clear c25b0
            try clear c25b1
            try clear c26
            try clear c26b0
            try clear c26b1
            try clear c26b2
            try clear c27
            try clear c27b0
            try clear c28
            try clear c28b0
            try clear c30
            try clear c38
            try clear c38b0
            try clear c38b1
            try clear hcz12_0
            try clear hcz12_1
            try clear hcz12_10
            try clear hcz12_11
            try clear hcz12_12
            try clear hcz12_13
            try clear hcz12_2
            try clear hcz12_3
            try clear hcz12_4
            try clear hcz12_5
            try clear hcz12_6
            try clear hcz12_7
            try clear hcz12_8
            try clear hcz12_9
            try clear hcz14_0
            try clear hcz14_1
            try clear hcz14_10
            try clear hcz14_11
            try clear hcz14_12
            try clear hcz14_13
            try clear hcz14_2
            try clear hcz14_3
            try clear hcz14_4
            try clear hcz14_5
            try clear hcz14_6
            try clear hcz14_7
            try clear hcz14_8
            try clear hcz14_9
            try clear hcz16_0
            try clear hcz16_1
            try clear hcz16_10
            try clear hcz16_11
            try clear hcz16_12
            try clear hcz16_13
            try clear hcz16_2
            try clear hcz16_3
            try clear hcz16_4
            try clear hcz16_5
            try clear hcz16_6
            try clear hcz16_7
            try clear hcz16_8
            try clear hcz16_9
            try clear hcz18_0
            try clear hcz18_1
            try clear hcz18_10
            try clear hcz18_11
            try clear hcz18_12
            try clear hcz18_13
            try clear hcz18_2
            try clear hcz18_3
            try clear hcz18_4
            try clear hcz18_5
            try clear hcz18_6
            try clear hcz18_7
            try clear hcz18_8
            try clear hcz18_9
            try clear hcz21_0
            try clear hcz21_1
            try clear hcz21_10
            try clear hcz21_11
            try clear hcz21_12
            try clear hcz21_13
            try clear hcz21_2
            try clear hcz21_3
            try clear hcz21_4
            try clear hcz21_5
            try clear hcz21_6
            try clear hcz21_7
            try clear hcz21_8
            try clear hcz21_9
            try clear hcz30_0
            try clear hcz30_1
            try clear hcz30_10
            try clear hcz30_11
            try clear hcz30_12
            try clear hcz30_13
            try clear hcz30_2
            try clear hcz30_3
            try clear hcz30_4
            try clear hcz30_5
            try clear hcz30_6
            try clear hcz30_7
            try clear hcz30_8
            try clear hcz30_9
            try clear hcz32_0
            try clear hcz32_1
            try clear hcz32_10
            try clear hcz32_11
            try clear hcz32_12
            try clear hcz32_13
            try clear hcz32_2
            try clear hcz32_3
            try clear hcz32_4
            try clear hcz32_5
            try clear hcz32_6
            try clear hcz32_7
            try clear hcz32_8
            try clear hcz32_9
            try clear hcz33_0
            try clear hcz33_1
            try clear hcz33_10
            try clear hcz33_11
            try clear hcz33_12
            try clear hcz33_13
            try clear hcz33_2
            try clear hcz33_3
            try clear hcz33_4
            try clear hcz33_5
            try clear hcz33_6
            try clear hcz33_7
            try clear hcz33_8
            try clear hcz33_9
            try clear hcz34_0
            try clear hcz34_1
            try clear hcz34_10
            try clear hcz34_11
            try clear hcz34_12
            try clear hcz34_13
            try clear hcz34_2
            try clear hcz34_3
            try clear hcz34_4
            try clear hcz34_5
            try clear hcz34_6
            try clear hcz34_7
            try clear hcz34_8
            try clear hcz34_9
            try clear hcz35_0
            try clear hcz35_1
            try clear hcz35_10
            try clear hcz35_11
            try clear hcz35_12
            try clear hcz35_13
            try clear hcz35_2
            try clear hcz35_3
            try clear hcz35_4
            try clear hcz35_5
            try clear hcz35_6
            try clear hcz35_7
            try clear hcz35_8
            try clear hcz35_9
            try clear hcz36_0
            try clear hcz36_1
            try clear hcz36_10
            try clear hcz36_11
            try clear hcz36_12
            try clear hcz36_13
            try clear hcz36_2
            try clear hcz36_3
            try clear hcz36_4
            try clear hcz36_5
            try clear hcz36_6
            try clear hcz36_7
            try clear hcz36_8
            try clear hcz36_9
            try clear hcz9_0
            try clear hcz9_1
            try clear hcz9_10
            try clear hcz9_11
            try clear hcz9_12
            try clear hcz9_13
            try clear hcz9_2
            try clear hcz9_3
            try clear hcz9_4
            try clear hcz9_5
            try clear hcz9_6
            try clear hcz9_7
            try clear hcz9_8
            try clear hcz9_9
            try clear hfz12_0
            try clear hfz12_1
            try clear hfz12_10
            try clear hfz12_11
            try clear hfz12_12
            try clear hfz12_13
            try clear hfz12_2
            try clear hfz12_3
            try clear hfz12_4
            try clear hfz12_5
            try clear hfz12_6
            try clear hfz12_7
            try clear hfz12_8
            try clear hfz12_9
            try clear hfz14_0
            try clear hfz14_1
            try clear hfz14_10
            try clear hfz14_11
            try clear hfz14_12
            try clear hfz14_13
            try clear hfz14_2
            try clear hfz14_3
            try clear hfz14_4
            try clear hfz14_5
            try clear hfz14_6
            try clear hfz14_7
            try clear hfz14_8
            try clear hfz14_9
            try clear hfz16_0
            try clear hfz16_1
            try clear hfz16_10
            try clear hfz16_11
            try clear hfz16_12
            try clear hfz16_13
            try clear hfz16_2
            try clear hfz16_3
            try clear hfz16_4
            try clear hfz16_5
            try clear hfz16_6
            try clear hfz16_7
            try clear hfz16_8
            try clear hfz16_9
            try clear hfz18_0
            try clear hfz18_1
            try clear hfz18_10
            try clear hfz18_11
            try clear hfz18_12
            try clear hfz18_13
            try clear hfz18_2
            try clear hfz18_3
            try clear hfz18_4
            try clear hfz18_5
            try clear hfz18_6
            try clear hfz18_7
            try clear hfz18_8
            try clear hfz18_9
            try clear hfz21_0
            try clear hfz21_1
            try clear hfz21_10
            try clear hfz21_11
            try clear hfz21_12
            try clear hfz21_13
            try clear hfz21_2
            try clear hfz21_3
            try clear hfz21_4
            try clear hfz21_5
            try clear hfz21_6
            try clear hfz21_7
            try clear hfz21_8
            try clear hfz21_9
            try clear hfz30_0
            try clear hfz30_1
            try clear hfz30_10
            try clear hfz30_11
            try clear hfz30_12
            try clear hfz30_13
            try clear hfz30_2
            try clear hfz30_3
            try clear hfz30_4
            try clear hfz30_5
            try clear hfz30_6
            try clear hfz30_7
            try clear hfz30_8
            try clear hfz30_9
            try clear hfz32_0
            try clear hfz32_1
            try clear hfz32_10
            try clear hfz32_11
            try clear hfz32_12
            try clear hfz32_13
            try clear hfz32_2
            try clear hfz32_3
            try clear hfz32_4
            try clear hfz32_5
            try clear hfz32_6
            try clear hfz32_7
            try clear hfz32_8
            try clear hfz32_9
            try clear hfz33_0
            try clear hfz33_1
            try clear hfz33_10
            try clear hfz33_11
            try clear hfz33_12
            try clear hfz33_13
            try clear hfz33_2
            try clear hfz33_3
            try clear hfz33_4
            try clear hfz33_5
            try clear hfz33_6
            try clear hfz33_7
            try clear hfz33_8
            try clear hfz33_9
            try clear hfz34_0
            try clear hfz34_1
            try clear hfz34_10
            try clear hfz34_11
            try clear hfz34_12
            try clear hfz34_13
            try clear hfz34_2
            try clear hfz34_3
            try clear hfz34_4
            try clear hfz34_5
            try clear hfz34_6
            try clear hfz34_7
            try clear hfz34_8
            try clear hfz34_9
            try clear hfz35_0
            try clear hfz35_1
            try clear hfz35_10
            try clear hfz35_11
            try clear hfz35_12
            try clear hfz35_13
            try clear hfz35_2
            try clear hfz35_3
            try clear hfz35_4
            try clear hfz35_5
            try clear hfz35_6
            try clear hfz35_7
            try clear hfz35_8
            try clear hfz35_9
            try clear hfz36_0
            try clear hfz36_1
            try clear hfz36_10
            try clear hfz36_11
            try clear hfz36_12
            try clear hfz36_13
            try clear hfz36_2
            try clear hfz36_3
            try clear hfz36_4
            try clear hfz36_5
            try clear hfz36_6
            try clear hfz36_7
            try clear hfz36_8
            try clear hfz36_9
            try clear hfz9_0
            try clear hfz9_1
            try clear hfz9_10
            try clear hfz9_11
            try clear hfz9_12
            try clear hfz9_13
            try clear hfz9_2
            try clear hfz9_3
            try clear hfz9_4
            try clear hfz9_5
            try clear hfz9_6
            try clear hfz9_7
            try clear hfz9_8
            try clear hfz9_9
            try clear p2
            obtain ⟨kq,x67_36,rfl,HA,HJ36,BK287,HB⟩:=hcut
            cases kq with
            | zero => exact absurd HA.out (by simp [celluloidref08_Fill.j1])
            | succ kj36 =>
              have H:=HA.out;clear HA;simp only [celluloidref08_Fill.j1] at H
              by_cases c39 : x67_36 = true
              · subst c39
                have H1 : (celluloidref08_Fill.l0 kj36 0 a0_0 a0_1 a0_2 a0_3 a0_4 a0_5 a0_6 a0_7 a0_8 a0_9 a0_10 a0_11 l0_12 a0_13) = some r:=by rw [if_pos rfl] at H;exact H
                clear H;have H:=H1;clear H1;have H':=am H;clear H
                go_wp2
                go_loopg [3] kj36 (fun kq v3 w' => ∃ (x3_3 : Int),v3 = .int .i64 x3_3 ∧ Aside0 (celluloidref08_Fill.l0 kq x3_3 a0_0 a0_1 a0_2 a0_3 a0_4 a0_5 a0_6 a0_7 a0_8 a0_9 a0_10 a0_11 l0_12 a0_13 = some r) ∧ Aside0 (kq ≤ kj36) ∧ Aside0 (w'.heap[gb287]? = some (.cells #[.int .i64 a0_0,.int .i64 a0_1,.int .i64 a0_2,.int .i64 a0_3,.int .i64 a0_4,.int .i64 a0_5,.int .i64 a0_6,.int .i64 a0_7,.int .i64 a0_8,.int .i64 a0_9,.int .i64 a0_10,.int .i64 a0_11,(.slice A0_12 l0_12.length c0_12),.int .i64 a0_13] 43 (0,0))) ∧ Aside0 (Below w.heap.size w w'))
                case atStart => exact ⟨(0),(by first|rfl|(simp;done)|(simp [*];done)),H',⟨Nat.le_refl _⟩,⟨by exact BK287.out⟩,⟨by repeat (first|(with_reducible first|exact HB.out|apply sa|apply sn|apply sd|refine sx ?_ GE287.out)|exact HB.out)⟩⟩
                case round =>
                  clear H'
                  try clear c2
                  try clear c2b0
                  try clear c2b1
                  try clear p2
                  try clear c3
                  try clear c3b0
                  try clear c3b1
                  try clear c3b2
                  try clear c4
                  try clear c4b0
                  try clear c4b1
                  try clear c5
                  try clear c5b0
                  try clear c5b1
                  try clear c6
                  try clear c6b0
                  try clear c6b1
                  try clear c6b2
                  try clear c22
                  try clear c22b0
                  try clear c22b1
                  try clear c23
                  try clear c24
                  try clear c24b0
                  try clear c24b1
                  try clear c24b2
                  try clear c25
                  try clear c25b0
                  try clear c25b1
                  try clear c26
                  try clear c26b0
                  try clear c26b1
                  try clear c26b2
                  try clear c27
                  try clear c27b0
                  try clear c28
                  try clear c28b0
                  try clear c30
                  try clear c38
                  try clear c38b0
                  try clear c38b1
                  try clear c39
                  try clear hcz12_0
                  try clear hcz12_1
                  try clear hcz12_10
                  try clear hcz12_11
                  try clear hcz12_12
                  try clear hcz12_13
                  try clear hcz12_2
                  try clear hcz12_3
                  try clear hcz12_4
                  try clear hcz12_5
                  try clear hcz12_6
                  try clear hcz12_7
                  try clear hcz12_8
                  try clear hcz12_9
                  try clear hcz14_0
                  try clear hcz14_1
                  try clear hcz14_10
                  try clear hcz14_11
                  try clear hcz14_12
                  try clear hcz14_13
                  try clear hcz14_2
                  try clear hcz14_3
                  try clear hcz14_4
                  try clear hcz14_5
                  try clear hcz14_6
                  try clear hcz14_7
                  try clear hcz14_8
                  try clear hcz14_9
                  try clear hcz16_0
                  try clear hcz16_1
                  try clear hcz16_10
                  try clear hcz16_11
                  try clear hcz16_12
                  try clear hcz16_13
                  try clear hcz16_2
                  try clear hcz16_3
                  try clear hcz16_4
                  try clear hcz16_5
                  try clear hcz16_6
                  try clear hcz16_7
                  try clear hcz16_8
                  try clear hcz16_9
                  try clear hcz18_0
                  try clear hcz18_1
                  try clear hcz18_10
                  try clear hcz18_11
                  try clear hcz18_12
                  try clear hcz18_13
                  try clear hcz18_2
                  try clear hcz18_3
                  try clear hcz18_4
                  try clear hcz18_5
                  try clear hcz18_6
                  try clear hcz18_7
                  try clear hcz18_8
                  try clear hcz18_9
                  try clear hcz21_0
                  try clear hcz21_1
                  try clear hcz21_10
                  try clear hcz21_11
                  try clear hcz21_12
                  try clear hcz21_13
                  try clear hcz21_2
                  try clear hcz21_3
                  try clear hcz21_4
                  try clear hcz21_5
                  try clear hcz21_6
                  try clear hcz21_7
                  try clear hcz21_8
                  try clear hcz21_9
                  try clear hcz30_0
                  try clear hcz30_1
                  try clear hcz30_10
                  try clear hcz30_11
                  try clear hcz30_12
                  try clear hcz30_13
                  try clear hcz30_2
                  try clear hcz30_3
                  try clear hcz30_4
                  try clear hcz30_5
                  try clear hcz30_6
                  try clear hcz30_7
                  try clear hcz30_8
                  try clear hcz30_9
                  try clear hcz32_0
                  try clear hcz32_1
                  try clear hcz32_10
                  try clear hcz32_11
                  try clear hcz32_12
                  try clear hcz32_13
                  try clear hcz32_2
                  try clear hcz32_3
                  try clear hcz32_4
                  try clear hcz32_5
                  try clear hcz32_6
                  try clear hcz32_7
                  try clear hcz32_8
                  try clear hcz32_9
                  try clear hcz33_0
                  try clear hcz33_1
                  try clear hcz33_10
                  try clear hcz33_11
                  try clear hcz33_12
                  try clear hcz33_13
                  try clear hcz33_2
                  try clear hcz33_3
                  try clear hcz33_4
                  try clear hcz33_5
                  try clear hcz33_6
                  try clear hcz33_7
                  try clear hcz33_8
                  try clear hcz33_9
                  try clear hcz34_0
                  try clear hcz34_1
                  try clear hcz34_10
                  try clear hcz34_11
                  try clear hcz34_12
                  try clear hcz34_13
                  try clear hcz34_2
                  try clear hcz34_3
                  try clear hcz34_4
                  try clear hcz34_5
                  try clear hcz34_6
                  try clear hcz34_7
                  try clear hcz34_8
                  try clear hcz34_9
                  try clear hcz35_0
                  try clear hcz35_1
                  try clear hcz35_10
                  try clear hcz35_11
                  try clear hcz35_12
                  try clear hcz35_13
                  try clear hcz35_2
                  try clear hcz35_3
                  try clear hcz35_4
                  try clear hcz35_5
                  try clear hcz35_6
                  try clear hcz35_7
                  try clear hcz35_8
                  try clear hcz35_9
                  try clear hcz36_0
                  try clear hcz36_1
                  try clear hcz36_10
                  try clear hcz36_11
                  try clear hcz36_12
                  try clear hcz36_13
                  try clear hcz36_2
                  try clear hcz36_3
                  try clear hcz36_4
                  try clear hcz36_5
                  try clear hcz36_6
                  try clear hcz36_7
                  try clear hcz36_8
                  try clear hcz36_9
                  try clear hcz9_0
                  try clear hcz9_1
                  try clear hcz9_10
                  try clear hcz9_11
                  try clear hcz9_12
                  try clear hcz9_13
                  try clear hcz9_2
                  try clear hcz9_3
                  try clear hcz9_4
                  try clear hcz9_5
                  try clear hcz9_6
                  try clear hcz9_7
                  try clear hcz9_8
                  try clear hcz9_9
                  try clear hfz12_0
                  try clear hfz12_1
                  try clear hfz12_10
                  try clear hfz12_11
                  try clear hfz12_12
                  try clear hfz12_13
                  try clear hfz12_2
                  try clear hfz12_3
                  try clear hfz12_4
                  try clear hfz12_5
                  try clear hfz12_6
                  try clear hfz12_7
                  try clear hfz12_8
                  try clear hfz12_9
                  try clear hfz14_0
                  try clear hfz14_1
                  try clear hfz14_10
                  try clear hfz14_11
                  try clear hfz14_12
                  try clear hfz14_13
                  try clear hfz14_2
                  try clear hfz14_3
                  try clear hfz14_4
                  try clear hfz14_5
                  try clear hfz14_6
                  try clear hfz14_7
                  try clear hfz14_8
                  try clear hfz14_9
                  try clear hfz16_0
                  try clear hfz16_1
                  try clear hfz16_10
                  try clear hfz16_11
                  try clear hfz16_12
                  try clear hfz16_13
                  try clear hfz16_2
                  try clear hfz16_3
                  try clear hfz16_4
                  try clear hfz16_5
                  try clear hfz16_6
                  try clear hfz16_7
                  try clear hfz16_8
                  try clear hfz16_9
                  try clear hfz18_0
                  try clear hfz18_1
                  try clear hfz18_10
                  try clear hfz18_11
                  try clear hfz18_12
                  try clear hfz18_13
                  try clear hfz18_2
                  try clear hfz18_3
                  try clear hfz18_4
                  try clear hfz18_5
                  try clear hfz18_6
                  try clear hfz18_7
                  try clear hfz18_8
                  try clear hfz18_9
                  try clear hfz21_0
                  try clear hfz21_1
                  try clear hfz21_10
                  try clear hfz21_11
                  try clear hfz21_12
                  try clear hfz21_13
                  try clear hfz21_2
                  try clear hfz21_3
                  try clear hfz21_4
                  try clear hfz21_5
                  try clear hfz21_6
                  try clear hfz21_7
                  try clear hfz21_8
                  try clear hfz21_9
                  try clear hfz30_0
                  try clear hfz30_1
                  try clear hfz30_10
                  try clear hfz30_11
                  try clear hfz30_12
                  try clear hfz30_13
                  try clear hfz30_2
                  try clear hfz30_3
                  try clear hfz30_4
                  try clear hfz30_5
                  try clear hfz30_6
                  try clear hfz30_7
                  try clear hfz30_8
                  try clear hfz30_9
                  try clear hfz32_0
                  try clear hfz32_1
                  try clear hfz32_10
                  try clear hfz32_11
                  try clear hfz32_12
                  try clear hfz32_13
                  try clear hfz32_2
                  try clear hfz32_3
                  try clear hfz32_4
                  try clear hfz32_5
                  try clear hfz32_6
                  try clear hfz32_7
                  try clear hfz32_8
                  try clear hfz32_9
                  try clear hfz33_0
                  try clear hfz33_1
                  try clear hfz33_10
                  try clear hfz33_11
                  try clear hfz33_12
                  try clear hfz33_13
                  try clear hfz33_2
                  try clear hfz33_3
                  try clear hfz33_4
                  try clear hfz33_5
                  try clear hfz33_6
                  try clear hfz33_7
                  try clear hfz33_8
                  try clear hfz33_9
                  try clear hfz34_0
                  try clear hfz34_1
                  try clear hfz34_10
                  try clear hfz34_11
                  try clear hfz34_12
                  try clear hfz34_13
                  try clear hfz34_2
                  try clear hfz34_3
                  try clear hfz34_4
                  try clear hfz34_5
                  try clear hfz34_6
                  try clear hfz34_7
                  try clear hfz34_8
                  try clear hfz34_9
                  try clear hfz35_0
                  try clear hfz35_1
                  try clear hfz35_10
                  try clear hfz35_11
                  try clear hfz35_12
                  try clear hfz35_13
                  try clear hfz35_2
                  try clear hfz35_3
                  try clear hfz35_4
                  try clear hfz35_5
                  try clear hfz35_6
                  try clear hfz35_7
                  try clear hfz35_8
                  try clear hfz35_9
                  try clear hfz36_0
                  try clear hfz36_1
                  try clear hfz36_10
                  try clear hfz36_11
                  try clear hfz36_12
                  try clear hfz36_13
                  try clear hfz36_2
                  try clear hfz36_3
                  try clear hfz36_4
                  try clear hfz36_5
                  try clear hfz36_6
                  try clear hfz36_7
                  try clear hfz36_8
                  try clear hfz36_9
                  try clear hfz9_0
                  try clear hfz9_1
                  try clear hfz9_10
                  try clear hfz9_11
                  try clear hfz9_12
                  try clear hfz9_13
                  try clear hfz9_2
                  try clear hfz9_3
                  try clear hfz9_4
                  try clear hfz9_5
                  try clear hfz9_6
                  try clear hfz9_7
                  try clear hfz9_8
                  try clear hfz9_9
                  try clear p2
                  obtain ⟨x3_3,rfl,HA,HK3,BK287,HB⟩:=hrel
                  cases gk with
                  | zero => exact absurd HA.out (by simp [celluloidref08_Fill.l0])
                  | succ k3 =>
                    have H:=HA.out;clear HA;simp only [celluloidref08_Fill.l0] at H
                    by_cases c40 : x3_3 < (l0_12.length : Int)
                    · rw [if_pos c40] at H
                      have c40b0 : decide (x3_3 < (l0_12.length : Int)) = true:=decide_eq_true c40;clear c40
                      by_cases c41 : 0 ≤ x3_3
                      · rw [if_pos c41] at H
                        have c41b0 : decide (0 ≤ x3_3) = true:=decide_eq_true c41;clear c41
                        by_cases c42 : ((rd_T32 l0_12 x3_3).f0) < 0
                        · rw [if_pos c42] at H
                          have c42b0 : decide (((rd_T32 l0_12 x3_3).f0) < 0) = true:=decide_eq_true c42;clear c42;obtain rfl:=Option.some.inj H;have hcz43_0 : wr.cell? ⟨gb287,0,none⟩ = some (.int .i64 a0_0):=(bc BK287.out 0).trans rfl;have hcz43_1 : wr.cell? ⟨gb287,1,none⟩ = some (.int .i64 a0_1):=(bc BK287.out 1).trans rfl;have hcz43_2 : wr.cell? ⟨gb287,2,none⟩ = some (.int .i64 a0_2):=(bc BK287.out 2).trans rfl;have hcz43_3 : wr.cell? ⟨gb287,3,none⟩ = some (.int .i64 a0_3):=(bc BK287.out 3).trans rfl;have hcz43_4 : wr.cell? ⟨gb287,4,none⟩ = some (.int .i64 a0_4):=(bc BK287.out 4).trans rfl;have hcz43_5 : wr.cell? ⟨gb287,5,none⟩ = some (.int .i64 a0_5):=(bc BK287.out 5).trans rfl;have hcz43_6 : wr.cell? ⟨gb287,6,none⟩ = some (.int .i64 a0_6):=(bc BK287.out 6).trans rfl;have hcz43_7 : wr.cell? ⟨gb287,7,none⟩ = some (.int .i64 a0_7):=(bc BK287.out 7).trans rfl;have hcz43_8 : wr.cell? ⟨gb287,8,none⟩ = some (.int .i64 a0_8):=(bc BK287.out 8).trans rfl;have hcz43_9 : wr.cell? ⟨gb287,9,none⟩ = some (.int .i64 a0_9):=(bc BK287.out 9).trans rfl;have hcz43_10 : wr.cell? ⟨gb287,10,none⟩ = some (.int .i64 a0_10):=(bc BK287.out 10).trans rfl;have hcz43_11 : wr.cell? ⟨gb287,11,none⟩ = some (.int .i64 a0_11):=(bc BK287.out 11).trans rfl;have hcz43_12 : wr.cell? ⟨gb287,12,none⟩ = some (.slice A0_12 l0_12.length c0_12):=(bc BK287.out 12).trans rfl;have hcz43_13 : wr.cell? ⟨gb287,13,none⟩ = some (.int .i64 a0_13):=(bc BK287.out 13).trans rfl;have hfz43_0:=bz BK287.out 0;have hfz43_1:=bz BK287.out 1;have hfz43_2:=bz BK287.out 2;have hfz43_3:=bz BK287.out 3;have hfz43_4:=bz BK287.out 4;have hfz43_5:=bz BK287.out 5;have hfz43_6:=bz BK287.out 6;have hfz43_7:=bz BK287.out 7;have hfz43_8:=bz BK287.out 8;have hfz43_9:=bz BK287.out 9;have hfz43_10:=bz BK287.out 10;have hfz43_11:=bz BK287.out 11;have hfz43_12:=bz BK287.out 12;have hfz43_13:=bz BK287.out 13;have p290 : 0 ≤ (x3_3 : Int):=of_decide_eq_true (by first|(with_reducible assumption)|assumption);have q290 : x3_3 < (l0_12.length : Int):=of_decide_eq_true (by first|(with_reducible assumption)|assumption);obtain ⟨ad290,e290,hx290_0,hx290_1,hx290_2,hx290_3,hx290_4⟩:=at_T32 HR0_12.out x3_3 p290 q290
                          cases e290
                          replace hx290_0:=(HB.out.cell (World.block_lt_of_cell? w _ hx290_0)).trans hx290_0;replace hx290_1:=(HB.out.cell (World.block_lt_of_cell? w _ hx290_1)).trans hx290_1;replace hx290_2:=(HB.out.cell (World.block_lt_of_cell? w _ hx290_2)).trans hx290_2;replace hx290_3:=(HB.out.cell (World.block_lt_of_cell? w _ hx290_3)).trans hx290_3;replace hx290_4:=(HB.out.cell (World.block_lt_of_cell? w _ hx290_4)).trans hx290_4;replace p290:=eq_true p290;replace q290:=eq_true q290
                          go_wp2
                          go_ret
                          exact ⟨by first|rfl|(simp [errW_none,errW_some] <;> rfl)|(simp [*,errW_none,errW_some] <;> rfl),by repeat (first|(with_reducible first|exact HB.out|apply sa|apply sn|apply sd|refine sx ?_ GE287.out)|exact HB.out)⟩
                        · rw [if_neg c42] at H
                          have c42b0 : decide (((rd_T32 l0_12 x3_3).f0) < 0) = false:=decide_eq_false c42;clear c42
                          by_cases c44 : ((rd_T32 l0_12 x3_3).f0) > 255
                          · rw [if_pos c44] at H
                            have c44b0 : decide (255 < ((rd_T32 l0_12 x3_3).f0)) = true:=decide_eq_true c44;clear c44;obtain rfl:=Option.some.inj H;have hcz45_0 : wr.cell? ⟨gb287,0,none⟩ = some (.int .i64 a0_0):=(bc BK287.out 0).trans rfl;have hcz45_1 : wr.cell? ⟨gb287,1,none⟩ = some (.int .i64 a0_1):=(bc BK287.out 1).trans rfl;have hcz45_2 : wr.cell? ⟨gb287,2,none⟩ = some (.int .i64 a0_2):=(bc BK287.out 2).trans rfl;have hcz45_3 : wr.cell? ⟨gb287,3,none⟩ = some (.int .i64 a0_3):=(bc BK287.out 3).trans rfl;have hcz45_4 : wr.cell? ⟨gb287,4,none⟩ = some (.int .i64 a0_4):=(bc BK287.out 4).trans rfl;have hcz45_5 : wr.cell? ⟨gb287,5,none⟩ = some (.int .i64 a0_5):=(bc BK287.out 5).trans rfl;have hcz45_6 : wr.cell? ⟨gb287,6,none⟩ = some (.int .i64 a0_6):=(bc BK287.out 6).trans rfl;have hcz45_7 : wr.cell? ⟨gb287,7,none⟩ = some (.int .i64 a0_7):=(bc BK287.out 7).trans rfl;have hcz45_8 : wr.cell? ⟨gb287,8,none⟩ = some (.int .i64 a0_8):=(bc BK287.out 8).trans rfl;have hcz45_9 : wr.cell? ⟨gb287,9,none⟩ = some (.int .i64 a0_9):=(bc BK287.out 9).trans rfl;have hcz45_10 : wr.cell? ⟨gb287,10,none⟩ = some (.int .i64 a0_10):=(bc BK287.out 10).trans rfl;have hcz45_11 : wr.cell? ⟨gb287,11,none⟩ = some (.int .i64 a0_11):=(bc BK287.out 11).trans rfl;have hcz45_12 : wr.cell? ⟨gb287,12,none⟩ = some (.slice A0_12 l0_12.length c0_12):=(bc BK287.out 12).trans rfl;have hcz45_13 : wr.cell? ⟨gb287,13,none⟩ = some (.int .i64 a0_13):=(bc BK287.out 13).trans rfl;have hfz45_0:=bz BK287.out 0;have hfz45_1:=bz BK287.out 1;have hfz45_2:=bz BK287.out 2;have hfz45_3:=bz BK287.out 3;have hfz45_4:=bz BK287.out 4;have hfz45_5:=bz BK287.out 5;have hfz45_6:=bz BK287.out 6;have hfz45_7:=bz BK287.out 7;have hfz45_8:=bz BK287.out 8;have hfz45_9:=bz BK287.out 9;have hfz45_10:=bz BK287.out 10;have hfz45_11:=bz BK287.out 11;have hfz45_12:=bz BK287.out 12;have hfz45_13:=bz BK287.out 13;have p290 : 0 ≤ (x3_3 : Int):=of_decide_eq_true (by first|(with_reducible assumption)|assumption);have q290 : x3_3 < (l0_12.length : Int):=of_decide_eq_true (by first|(with_reducible assumption)|assumption);obtain ⟨ad290,e290,hx290_0,hx290_1,hx290_2,hx290_3,hx290_4⟩:=at_T32 HR0_12.out x3_3 p290 q290
                            cases e290
                            replace hx290_0:=(HB.out.cell (World.block_lt_of_cell? w _ hx290_0)).trans hx290_0;replace hx290_1:=(HB.out.cell (World.block_lt_of_cell? w _ hx290_1)).trans hx290_1;replace hx290_2:=(HB.out.cell (World.block_lt_of_cell? w _ hx290_2)).trans hx290_2;replace hx290_3:=(HB.out.cell (World.block_lt_of_cell? w _ hx290_3)).trans hx290_3;replace hx290_4:=(HB.out.cell (World.block_lt_of_cell? w _ hx290_4)).trans hx290_4;replace p290:=eq_true p290;replace q290:=eq_true q290
                            go_wp2
                            go_ret
                            exact ⟨by first|rfl|(simp [errW_none,errW_some] <;> rfl)|(simp [*,errW_none,errW_some] <;> rfl),by repeat (first|(with_reducible first|exact HB.out|apply sa|apply sn|apply sd|refine sx ?_ GE287.out)|exact HB.out)⟩
                          · rw [if_neg c44] at H
                            have c44b0 : decide (255 < ((rd_T32 l0_12 x3_3).f0)) = false:=decide_eq_false c44;clear c44
                            by_cases c46 : x3_3 > 0
                            · rw [if_pos c46] at H
                              have c46b0 : decide (0 < x3_3) = true:=decide_eq_true c46;clear c46;obtain ⟨ji47,hji47⟩ : ∃ j_ : Int,(wrap64 (x3_3 - 1)) = j_:=⟨_,rfl⟩
                              replace H : (if 0 ≤ (ji47) then (if (ji47) < (l0_12.length : Int) then (if ((rd_T32 l0_12 x3_3).f0) < ((rd_T32 l0_12 (ji47)).f0) then (some false) else ((celluloidref07_RGBA.f k3 ((rd_T32 l0_12 x3_3).f1.f0) ((rd_T32 l0_12 x3_3).f1.f1) ((rd_T32 l0_12 x3_3).f1.f2) ((rd_T32 l0_12 x3_3).f1.f3)).bind fun t293 => (if t293 = true then (celluloidref08_Fill.l0 k3 (wrap64 (x3_3 + 1)) a0_0 a0_1 a0_2 a0_3 a0_4 a0_5 a0_6 a0_7 a0_8 a0_9 a0_10 a0_11 l0_12 a0_13) else (some false)))) else (none)) else (none)) = some r:=by first|(rw [hji47] at H;exact H)|(simp only [hji47] at H ⊢;exact H)
                              have hji47w : (IntKind.i64.wrap (x3_3 - 1)) = ji47:=(i64_w _).trans hji47
                              by_cases c48 : 0 ≤ (ji47)
                              · rw [if_pos c48] at H
                                have c48b0 : decide (0 ≤ (ji47)) = true:=decide_eq_true c48;clear c48
                                by_cases c49 : (ji47) < (l0_12.length : Int)
                                · rw [if_pos c49] at H
                                  have c49b0 : decide ((ji47) < (l0_12.length : Int)) = true:=decide_eq_true c49;clear c49
                                  by_cases c50 : ((rd_T32 l0_12 x3_3).f0) < ((rd_T32 l0_12 (ji47)).f0)
                                  · rw [if_pos c50] at H
                                    have c50b0 : decide (((rd_T32 l0_12 x3_3).f0) < ((rd_T32 l0_12 (ji47)).f0)) = true:=decide_eq_true c50;clear c50;obtain rfl:=Option.some.inj H;have hcz51_0 : wr.cell? ⟨gb287,0,none⟩ = some (.int .i64 a0_0):=(bc BK287.out 0).trans rfl;have hcz51_1 : wr.cell? ⟨gb287,1,none⟩ = some (.int .i64 a0_1):=(bc BK287.out 1).trans rfl;have hcz51_2 : wr.cell? ⟨gb287,2,none⟩ = some (.int .i64 a0_2):=(bc BK287.out 2).trans rfl;have hcz51_3 : wr.cell? ⟨gb287,3,none⟩ = some (.int .i64 a0_3):=(bc BK287.out 3).trans rfl;have hcz51_4 : wr.cell? ⟨gb287,4,none⟩ = some (.int .i64 a0_4):=(bc BK287.out 4).trans rfl;have hcz51_5 : wr.cell? ⟨gb287,5,none⟩ = some (.int .i64 a0_5):=(bc BK287.out 5).trans rfl;have hcz51_6 : wr.cell? ⟨gb287,6,none⟩ = some (.int .i64 a0_6):=(bc BK287.out 6).trans rfl;have hcz51_7 : wr.cell? ⟨gb287,7,none⟩ = some (.int .i64 a0_7):=(bc BK287.out 7).trans rfl;have hcz51_8 : wr.cell? ⟨gb287,8,none⟩ = some (.int .i64 a0_8):=(bc BK287.out 8).trans rfl;have hcz51_9 : wr.cell? ⟨gb287,9,none⟩ = some (.int .i64 a0_9):=(bc BK287.out 9).trans rfl;have hcz51_10 : wr.cell? ⟨gb287,10,none⟩ = some (.int .i64 a0_10):=(bc BK287.out 10).trans rfl;have hcz51_11 : wr.cell? ⟨gb287,11,none⟩ = some (.int .i64 a0_11):=(bc BK287.out 11).trans rfl;have hcz51_12 : wr.cell? ⟨gb287,12,none⟩ = some (.slice A0_12 l0_12.length c0_12):=(bc BK287.out 12).trans rfl;have hcz51_13 : wr.cell? ⟨gb287,13,none⟩ = some (.int .i64 a0_13):=(bc BK287.out 13).trans rfl;have hfz51_0:=bz BK287.out 0;have hfz51_1:=bz BK287.out 1;have hfz51_2:=bz BK287.out 2;have hfz51_3:=bz BK287.out 3;have hfz51_4:=bz BK287.out 4;have hfz51_5:=bz BK287.out 5;have hfz51_6:=bz BK287.out 6;have hfz51_7:=bz BK287.out 7;have hfz51_8:=bz BK287.out 8;have hfz51_9:=bz BK287.out 9;have hfz51_10:=bz BK287.out 10;have hfz51_11:=bz BK287.out 11;have hfz51_12:=bz BK287.out 12;have hfz51_13:=bz BK287.out 13;have p290 : 0 ≤ (x3_3 : Int):=of_decide_eq_true (by first|(with_reducible assumption)|assumption);have q290 : x3_3 < (l0_12.length : Int):=of_decide_eq_true (by first|(with_reducible assumption)|assumption);obtain ⟨ad290,e290,hx290_0,hx290_1,hx290_2,hx290_3,hx290_4⟩:=at_T32 HR0_12.out x3_3 p290 q290
                                    cases e290
                                    replace hx290_0:=(HB.out.cell (World.block_lt_of_cell? w _ hx290_0)).trans hx290_0;replace hx290_1:=(HB.out.cell (World.block_lt_of_cell? w _ hx290_1)).trans hx290_1;replace hx290_2:=(HB.out.cell (World.block_lt_of_cell? w _ hx290_2)).trans hx290_2;replace hx290_3:=(HB.out.cell (World.block_lt_of_cell? w _ hx290_3)).trans hx290_3;replace hx290_4:=(HB.out.cell (World.block_lt_of_cell? w _ hx290_4)).trans hx290_4;replace p290:=eq_true p290;replace q290:=eq_true q290;have p291 : 0 ≤ ((ji47) : Int):=of_decide_eq_true (by first|(with_reducible assumption)|assumption);have q291 : (ji47) < (l0_12.length : Int):=of_decide_eq_true (by first|(with_reducible assumption)|assumption);obtain ⟨ad291,e291,hx291_0,hx291_1,hx291_2,hx291_3,hx291_4⟩:=at_T32 HR0_12.out (ji47) p291 q291;obtain rfl : ad290 = ad291:=(by injection e291);replace hx291_0:=(HB.out.cell (World.block_lt_of_cell? w _ hx291_0)).trans hx291_0;replace hx291_1:=(HB.out.cell (World.block_lt_of_cell? w _ hx291_1)).trans hx291_1;replace hx291_2:=(HB.out.cell (World.block_lt_of_cell? w _ hx291_2)).trans hx291_2;replace hx291_3:=(HB.out.cell (World.block_lt_of_cell? w _ hx291_3)).trans hx291_3;replace hx291_4:=(HB.out.cell (World.block_lt_of_cell? w _ hx291_4)).trans hx291_4;replace p291:=eq_true p291;replace q291:=eq_true q291
                                    go_wp2
                                    go_ret
                                    exact ⟨by first|rfl|(simp [errW_none,errW_some] <;> rfl)|(simp only [← hji47];first|rfl|(simp [errW_none,errW_some] <;> rfl))|(simp [*,errW_none,errW_some] <;> rfl),by repeat (first|(with_reducible first|exact HB.out|apply sa|apply sn|apply sd|refine sx ?_ GE287.out)|exact HB.out)⟩
                                  · rw [if_neg c50] at H
                                    have c50b0 : decide (((rd_T32 l0_12 x3_3).f0) < ((rd_T32 l0_12 (ji47)).f0)) = false:=decide_eq_false c50;clear c50;replace H:=Option.bind_eq_some_iff.mp H;obtain ⟨t293,A520,H⟩:=H;replace H : (if t293 = true then (celluloidref08_Fill.l0 k3 (wrap64 (x3_3 + 1)) a0_0 a0_1 a0_2 a0_3 a0_4 a0_5 a0_6 a0_7 a0_8 a0_9 a0_10 a0_11 l0_12 a0_13) else (some false)) = some r:=H;have A52:=am A520;clear A520
                                    by_cases c53 : t293 = true
                                    · subst c53
                                      have H1 : (celluloidref08_Fill.l0 k3 (wrap64 (x3_3 + 1)) a0_0 a0_1 a0_2 a0_3 a0_4 a0_5 a0_6 a0_7 a0_8 a0_9 a0_10 a0_11 l0_12 a0_13) = some r:=by rw [if_pos rfl] at H;exact H
                                      clear H;have H:=H1;clear H1;have H':=am H;clear H;have hcz54_0 : wr.cell? ⟨gb287,0,none⟩ = some (.int .i64 a0_0):=(bc BK287.out 0).trans rfl;have hcz54_1 : wr.cell? ⟨gb287,1,none⟩ = some (.int .i64 a0_1):=(bc BK287.out 1).trans rfl;have hcz54_2 : wr.cell? ⟨gb287,2,none⟩ = some (.int .i64 a0_2):=(bc BK287.out 2).trans rfl;have hcz54_3 : wr.cell? ⟨gb287,3,none⟩ = some (.int .i64 a0_3):=(bc BK287.out 3).trans rfl;have hcz54_4 : wr.cell? ⟨gb287,4,none⟩ = some (.int .i64 a0_4):=(bc BK287.out 4).trans rfl;have hcz54_5 : wr.cell? ⟨gb287,5,none⟩ = some (.int .i64 a0_5):=(bc BK287.out 5).trans rfl;have hcz54_6 : wr.cell? ⟨gb287,6,none⟩ = some (.int .i64 a0_6):=(bc BK287.out 6).trans rfl;have hcz54_7 : wr.cell? ⟨gb287,7,none⟩ = some (.int .i64 a0_7):=(bc BK287.out 7).trans rfl;have hcz54_8 : wr.cell? ⟨gb287,8,none⟩ = some (.int .i64 a0_8):=(bc BK287.out 8).trans rfl;have hcz54_9 : wr.cell? ⟨gb287,9,none⟩ = some (.int .i64 a0_9):=(bc BK287.out 9).trans rfl;have hcz54_10 : wr.cell? ⟨gb287,10,none⟩ = some (.int .i64 a0_10):=(bc BK287.out 10).trans rfl;have hcz54_11 : wr.cell? ⟨gb287,11,none⟩ = some (.int .i64 a0_11):=(bc BK287.out 11).trans rfl;have hcz54_12 : wr.cell? ⟨gb287,12,none⟩ = some (.slice A0_12 l0_12.length c0_12):=(bc BK287.out 12).trans rfl;have hcz54_13 : wr.cell? ⟨gb287,13,none⟩ = some (.int .i64 a0_13):=(bc BK287.out 13).trans rfl;have hfz54_0:=bz BK287.out 0;have hfz54_1:=bz BK287.out 1;have hfz54_2:=bz BK287.out 2;have hfz54_3:=bz BK287.out 3;have hfz54_4:=bz BK287.out 4;have hfz54_5:=bz BK287.out 5;have hfz54_6:=bz BK287.out 6;have hfz54_7:=bz BK287.out 7;have hfz54_8:=bz BK287.out 8;have hfz54_9:=bz BK287.out 9;have hfz54_10:=bz BK287.out 10;have hfz54_11:=bz BK287.out 11;have hfz54_12:=bz BK287.out 12;have hfz54_13:=bz BK287.out 13;have p290 : 0 ≤ (x3_3 : Int):=of_decide_eq_true (by first|(with_reducible assumption)|assumption);have q290 : x3_3 < (l0_12.length : Int):=of_decide_eq_true (by first|(with_reducible assumption)|assumption);obtain ⟨ad290,e290,hx290_0,hx290_1,hx290_2,hx290_3,hx290_4⟩:=at_T32 HR0_12.out x3_3 p290 q290
                                      cases e290
                                      replace hx290_0:=(HB.out.cell (World.block_lt_of_cell? w _ hx290_0)).trans hx290_0;replace hx290_1:=(HB.out.cell (World.block_lt_of_cell? w _ hx290_1)).trans hx290_1;replace hx290_2:=(HB.out.cell (World.block_lt_of_cell? w _ hx290_2)).trans hx290_2;replace hx290_3:=(HB.out.cell (World.block_lt_of_cell? w _ hx290_3)).trans hx290_3;replace hx290_4:=(HB.out.cell (World.block_lt_of_cell? w _ hx290_4)).trans hx290_4;replace p290:=eq_true p290;replace q290:=eq_true q290;have p291 : 0 ≤ ((ji47) : Int):=of_decide_eq_true (by first|(with_reducible assumption)|assumption);have q291 : (ji47) < (l0_12.length : Int):=of_decide_eq_true (by first|(with_reducible assumption)|assumption);obtain ⟨ad291,e291,hx291_0,hx291_1,hx291_2,hx291_3,hx291_4⟩:=at_T32 HR0_12.out (ji47) p291 q291;obtain rfl : ad290 = ad291:=(by injection e291);replace hx291_0:=(HB.out.cell (World.block_lt_of_cell? w _ hx291_0)).trans hx291_0;replace hx291_1:=(HB.out.cell (World.block_lt_of_cell? w _ hx291_1)).trans hx291_1;replace hx291_2:=(HB.out.cell (World.block_lt_of_cell? w _ hx291_2)).trans hx291_2;replace hx291_3:=(HB.out.cell (World.block_lt_of_cell? w _ hx291_3)).trans hx291_3;replace hx291_4:=(HB.out.cell (World.block_lt_of_cell? w _ hx291_4)).trans hx291_4;replace p291:=eq_true p291;replace q291:=eq_true q291;have p292 : 0 ≤ (x3_3 : Int):=of_decide_eq_true (by first|(with_reducible assumption)|assumption);have q292 : x3_3 < (l0_12.length : Int):=of_decide_eq_true (by first|(with_reducible assumption)|assumption);obtain ⟨ad292,e292,hx292_0,hx292_1,hx292_2,hx292_3,hx292_4⟩:=at_T32 HR0_12.out x3_3 p292 q292;obtain rfl : ad290 = ad292:=(by injection e292);replace hx292_0:=(HB.out.cell (World.block_lt_of_cell? w _ hx292_0)).trans hx292_0;replace hx292_1:=(HB.out.cell (World.block_lt_of_cell? w _ hx292_1)).trans hx292_1;replace hx292_2:=(HB.out.cell (World.block_lt_of_cell? w _ hx292_2)).trans hx292_2;replace hx292_3:=(HB.out.cell (World.block_lt_of_cell? w _ hx292_3)).trans hx292_3;replace hx292_4:=(HB.out.cell (World.block_lt_of_cell? w _ hx292_4)).trans hx292_4;replace p292:=eq_true p292;replace q292:=eq_true q292
                                      go_wp2_with (first|(go_at_call 26;(with_reducible refine (celluloidref07_RGBA.calls k3 ((rd_T32 l0_12 x3_3).f1.f0) ((rd_T32 l0_12 x3_3).f1.f1) ((rd_T32 l0_12 x3_3).f1.f2) ((rd_T32 l0_12 x3_3).f1.f3) true _ A52.out).mono ?_);rintro e w55 ⟨rfl,hb⟩;replace BK287:=am (bw (by exact BK287.out) hb);replace HB:=am (ss (by repeat (first|(with_reducible first|exact HB.out|apply sa|apply sn|apply sd|refine sx ?_ GE287.out)|exact HB.out)) hb);(try clear hb);(try clear hb2);(try clear hk);(try clear hi)))
                                      go_roundg k3
                                      case measure => have:=HJ18.out;have:=HJ36.out;have:=HK3.out;omega
                                      case rel => exact ⟨(wrap64 (x3_3 + 1)),(by first|rfl|(simp;done)|(simp [*];done)),H',⟨by have:=HJ18.out;have:=HJ36.out;have:=HK3.out;omega⟩,⟨by exact BK287.out⟩,⟨by repeat (first|(with_reducible first|exact HB.out|apply sa|apply sn|apply sd|refine sx ?_ GE287.out)|exact HB.out)⟩⟩
                                    · replace c53:=Bool.eq_false_iff.mpr c53
                                      subst c53
                                      have H1 : (some false) = some r:=by rw [if_neg (show ¬ (false = true) by decide)] at H;exact H
                                      clear H;have H:=H1;clear H1;obtain rfl:=Option.some.inj H;have hcz56_0 : wr.cell? ⟨gb287,0,none⟩ = some (.int .i64 a0_0):=(bc BK287.out 0).trans rfl;have hcz56_1 : wr.cell? ⟨gb287,1,none⟩ = some (.int .i64 a0_1):=(bc BK287.out 1).trans rfl;have hcz56_2 : wr.cell? ⟨gb287,2,none⟩ = some (.int .i64 a0_2):=(bc BK287.out 2).trans rfl;have hcz56_3 : wr.cell? ⟨gb287,3,none⟩ = some (.int .i64 a0_3):=(bc BK287.out 3).trans rfl;have hcz56_4 : wr.cell? ⟨gb287,4,none⟩ = some (.int .i64 a0_4):=(bc BK287.out 4).trans rfl;have hcz56_5 : wr.cell? ⟨gb287,5,none⟩ = some (.int .i64 a0_5):=(bc BK287.out 5).trans rfl;have hcz56_6 : wr.cell? ⟨gb287,6,none⟩ = some (.int .i64 a0_6):=(bc BK287.out 6).trans rfl;have hcz56_7 : wr.cell? ⟨gb287,7,none⟩ = some (.int .i64 a0_7):=(bc BK287.out 7).trans rfl;have hcz56_8 : wr.cell? ⟨gb287,8,none⟩ = some (.int .i64 a0_8):=(bc BK287.out 8).trans rfl;have hcz56_9 : wr.cell? ⟨gb287,9,none⟩ = some (.int .i64 a0_9):=(bc BK287.out 9).trans rfl;have hcz56_10 : wr.cell? ⟨gb287,10,none⟩ = some (.int .i64 a0_10):=(bc BK287.out 10).trans rfl;have hcz56_11 : wr.cell? ⟨gb287,11,none⟩ = some (.int .i64 a0_11):=(bc BK287.out 11).trans rfl;have hcz56_12 : wr.cell? ⟨gb287,12,none⟩ = some (.slice A0_12 l0_12.length c0_12):=(bc BK287.out 12).trans rfl;have hcz56_13 : wr.cell? ⟨gb287,13,none⟩ = some (.int .i64 a0_13):=(bc BK287.out 13).trans rfl;have hfz56_0:=bz BK287.out 0;have hfz56_1:=bz BK287.out 1;have hfz56_2:=bz BK287.out 2;have hfz56_3:=bz BK287.out 3;have hfz56_4:=bz BK287.out 4;have hfz56_5:=bz BK287.out 5;have hfz56_6:=bz BK287.out 6;have hfz56_7:=bz BK287.out 7;have hfz56_8:=bz BK287.out 8;have hfz56_9:=bz BK287.out 9;have hfz56_10:=bz BK287.out 10;have hfz56_11:=bz BK287.out 11;have hfz56_12:=bz BK287.out 12;have hfz56_13:=bz BK287.out 13;have p290 : 0 ≤ (x3_3 : Int):=of_decide_eq_true (by first|(with_reducible assumption)|assumption);have q290 : x3_3 < (l0_12.length : Int):=of_decide_eq_true (by first|(with_reducible assumption)|assumption);obtain ⟨ad290,e290,hx290_0,hx290_1,hx290_2,hx290_3,hx290_4⟩:=at_T32 HR0_12.out x3_3 p290 q290
                                      cases e290
                                      replace hx290_0:=(HB.out.cell (World.block_lt_of_cell? w _ hx290_0)).trans hx290_0;replace hx290_1:=(HB.out.cell (World.block_lt_of_cell? w _ hx290_1)).trans hx290_1;replace hx290_2:=(HB.out.cell (World.block_lt_of_cell? w _ hx290_2)).trans hx290_2;replace hx290_3:=(HB.out.cell (World.block_lt_of_cell? w _ hx290_3)).trans hx290_3;replace hx290_4:=(HB.out.cell (World.block_lt_of_cell? w _ hx290_4)).trans hx290_4;replace p290:=eq_true p290;replace q290:=eq_true q290;have p291 : 0 ≤ ((ji47) : Int):=of_decide_eq_true (by first|(with_reducible assumption)|assumption);have q291 : (ji47) < (l0_12.length : Int):=of_decide_eq_true (by first|(with_reducible assumption)|assumption);obtain ⟨ad291,e291,hx291_0,hx291_1,hx291_2,hx291_3,hx291_4⟩:=at_T32 HR0_12.out (ji47) p291 q291;obtain rfl : ad290 = ad291:=(by injection e291);replace hx291_0:=(HB.out.cell (World.block_lt_of_cell? w _ hx291_0)).trans hx291_0;replace hx291_1:=(HB.out.cell (World.block_lt_of_cell? w _ hx291_1)).trans hx291_1;replace hx291_2:=(HB.out.cell (World.block_lt_of_cell? w _ hx291_2)).trans hx291_2;replace hx291_3:=(HB.out.cell (World.block_lt_of_cell? w _ hx291_3)).trans hx291_3;replace hx291_4:=(HB.out.cell (World.block_lt_of_cell? w _ hx291_4)).trans hx291_4;replace p291:=eq_true p291;replace q291:=eq_true q291;have p292 : 0 ≤ (x3_3 : Int):=of_decide_eq_true (by first|(with_reducible assumption)|assumption);have q292 : x3_3 < (l0_12.length : Int):=of_decide_eq_true (by first|(with_reducible assumption)|assumption);obtain ⟨ad292,e292,hx292_0,hx292_1,hx292_2,hx292_3,hx292_4⟩:=at_T32 HR0_12.out x3_3 p292 q292;obtain rfl : ad290 = ad292:=(by injection e292);replace hx292_0:=(HB.out.cell (World.block_lt_of_cell? w _ hx292_0)).trans hx292_0;replace hx292_1:=(HB.out.cell (World.block_lt_of_cell? w _ hx292_1)).trans hx292_1;replace hx292_2:=(HB.out.cell (World.block_lt_of_cell? w _ hx292_2)).trans hx292_2;replace hx292_3:=(HB.out.cell (World.block_lt_of_cell? w _ hx292_3)).trans hx292_3;replace hx292_4:=(HB.out.cell (World.block_lt_of_cell? w _ hx292_4)).trans hx292_4;replace p292:=eq_true p292;replace q292:=eq_true q292
                                      go_wp2_with (first|(go_at_call 26;(with_reducible refine (celluloidref07_RGBA.calls k3 ((rd_T32 l0_12 x3_3).f1.f0) ((rd_T32 l0_12 x3_3).f1.f1) ((rd_T32 l0_12 x3_3).f1.f2) ((rd_T32 l0_12 x3_3).f1.f3) false _ A52.out).mono ?_);rintro e w57 ⟨rfl,hb⟩;replace BK287:=am (bw (by exact BK287.out) hb);replace HB:=am (ss (by repeat (first|(with_reducible first|exact HB.out|apply sa|apply sn|apply sd|refine sx ?_ GE287.out)|exact HB.out)) hb);(try clear hb);(try clear hb2);(try clear hk);(try clear hi)))
                                      go_ret
                                      exact ⟨by first|rfl|(simp [errW_none,errW_some] <;> rfl)|(simp only [← hji47];first|rfl|(simp [errW_none,errW_some] <;> rfl))|(simp [*,errW_none,errW_some] <;> rfl),by repeat (first|(with_reducible first|exact HB.out|apply sa|apply sn|apply sd|refine sx ?_ GE287.out)|exact HB.out)⟩
                                · rw [if_neg c49] at H
                                  exact absurd H (by simp)
                              · rw [if_neg c48] at H
                                exact absurd H (by simp)
                            · rw [if_neg c46] at H
                              have c46b0 : decide (0 < x3_3) = false:=decide_eq_false c46;clear c46;replace H:=Option.bind_eq_some_iff.mp H;obtain ⟨t295,A580,H⟩:=H;replace H : (if t295 = true then (celluloidref08_Fill.l0 k3 (wrap64 (x3_3 + 1)) a0_0 a0_1 a0_2 a0_3 a0_4 a0_5 a0_6 a0_7 a0_8 a0_9 a0_10 a0_11 l0_12 a0_13) else (some false)) = some r:=H;have A58:=am A580;clear A580
                              by_cases c59 : t295 = true
                              · subst c59
                                have H1 : (celluloidref08_Fill.l0 k3 (wrap64 (x3_3 + 1)) a0_0 a0_1 a0_2 a0_3 a0_4 a0_5 a0_6 a0_7 a0_8 a0_9 a0_10 a0_11 l0_12 a0_13) = some r:=by rw [if_pos rfl] at H;exact H
                                clear H;have H:=H1;clear H1;have H':=am H;clear H;have hcz60_0 : wr.cell? ⟨gb287,0,none⟩ = some (.int .i64 a0_0):=(bc BK287.out 0).trans rfl;have hcz60_1 : wr.cell? ⟨gb287,1,none⟩ = some (.int .i64 a0_1):=(bc BK287.out 1).trans rfl;have hcz60_2 : wr.cell? ⟨gb287,2,none⟩ = some (.int .i64 a0_2):=(bc BK287.out 2).trans rfl;have hcz60_3 : wr.cell? ⟨gb287,3,none⟩ = some (.int .i64 a0_3):=(bc BK287.out 3).trans rfl;have hcz60_4 : wr.cell? ⟨gb287,4,none⟩ = some (.int .i64 a0_4):=(bc BK287.out 4).trans rfl;have hcz60_5 : wr.cell? ⟨gb287,5,none⟩ = some (.int .i64 a0_5):=(bc BK287.out 5).trans rfl;have hcz60_6 : wr.cell? ⟨gb287,6,none⟩ = some (.int .i64 a0_6):=(bc BK287.out 6).trans rfl;have hcz60_7 : wr.cell? ⟨gb287,7,none⟩ = some (.int .i64 a0_7):=(bc BK287.out 7).trans rfl;have hcz60_8 : wr.cell? ⟨gb287,8,none⟩ = some (.int .i64 a0_8):=(bc BK287.out 8).trans rfl;have hcz60_9 : wr.cell? ⟨gb287,9,none⟩ = some (.int .i64 a0_9):=(bc BK287.out 9).trans rfl;have hcz60_10 : wr.cell? ⟨gb287,10,none⟩ = some (.int .i64 a0_10):=(bc BK287.out 10).trans rfl;have hcz60_11 : wr.cell? ⟨gb287,11,none⟩ = some (.int .i64 a0_11):=(bc BK287.out 11).trans rfl;have hcz60_12 : wr.cell? ⟨gb287,12,none⟩ = some (.slice A0_12 l0_12.length c0_12):=(bc BK287.out 12).trans rfl;have hcz60_13 : wr.cell? ⟨gb287,13,none⟩ = some (.int .i64 a0_13):=(bc BK287.out 13).trans rfl;have hfz60_0:=bz BK287.out 0;have hfz60_1:=bz BK287.out 1;have hfz60_2:=bz BK287.out 2;have hfz60_3:=bz BK287.out 3;have hfz60_4:=bz BK287.out 4;have hfz60_5:=bz BK287.out 5;have hfz60_6:=bz BK287.out 6;have hfz60_7:=bz BK287.out 7;have hfz60_8:=bz BK287.out 8;have hfz60_9:=bz BK287.out 9;have hfz60_10:=bz BK287.out 10;have hfz60_11:=bz BK287.out 11;have hfz60_12:=bz BK287.out 12;have hfz60_13:=bz BK287.out 13;have p290 : 0 ≤ (x3_3 : Int):=of_decide_eq_true (by first|(with_reducible assumption)|assumption);have q290 : x3_3 < (l0_12.length : Int):=of_decide_eq_true (by first|(with_reducible assumption)|assumption);obtain ⟨ad290,e290,hx290_0,hx290_1,hx290_2,hx290_3,hx290_4⟩:=at_T32 HR0_12.out x3_3 p290 q290
                                cases e290
                                replace hx290_0:=(HB.out.cell (World.block_lt_of_cell? w _ hx290_0)).trans hx290_0;replace hx290_1:=(HB.out.cell (World.block_lt_of_cell? w _ hx290_1)).trans hx290_1;replace hx290_2:=(HB.out.cell (World.block_lt_of_cell? w _ hx290_2)).trans hx290_2;replace hx290_3:=(HB.out.cell (World.block_lt_of_cell? w _ hx290_3)).trans hx290_3;replace hx290_4:=(HB.out.cell (World.block_lt_of_cell? w _ hx290_4)).trans hx290_4;replace p290:=eq_true p290;replace q290:=eq_true q290;have p294 : 0 ≤ (x3_3 : Int):=of_decide_eq_true (by first|(with_reducible assumption)|assumption);have q294 : x3_3 < (l0_12.length : Int):=of_decide_eq_true (by first|(with_reducible assumption)|assumption);obtain ⟨ad294,e294,hx294_0,hx294_1,hx294_2,hx294_3,hx294_4⟩:=at_T32 HR0_12.out x3_3 p294 q294;obtain rfl : ad290 = ad294:=(by injection e294);replace hx294_0:=(HB.out.cell (World.block_lt_of_cell? w _ hx294_0)).trans hx294_0;replace hx294_1:=(HB.out.cell (World.block_lt_of_cell? w _ hx294_1)).trans hx294_1;replace hx294_2:=(HB.out.cell (World.block_lt_of_cell? w _ hx294_2)).trans hx294_2;replace hx294_3:=(HB.out.cell (World.block_lt_of_cell? w _ hx294_3)).trans hx294_3;replace hx294_4:=(HB.out.cell (World.block_lt_of_cell? w _ hx294_4)).trans hx294_4;replace p294:=eq_true p294;replace q294:=eq_true q294
                                go_wp2_with (first|(go_at_call 26;(with_reducible refine (celluloidref07_RGBA.calls k3 ((rd_T32 l0_12 x3_3).f1.f0) ((rd_T32 l0_12 x3_3).f1.f1) ((rd_T32 l0_12 x3_3).f1.f2) ((rd_T32 l0_12 x3_3).f1.f3) true _ A58.out).mono ?_);rintro e w61 ⟨rfl,hb⟩;replace BK287:=am (bw (by exact BK287.out) hb);replace HB:=am (ss (by repeat (first|(with_reducible first|exact HB.out|apply sa|apply sn|apply sd|refine sx ?_ GE287.out)|exact HB.out)) hb);(try clear hb);(try clear hb2);(try clear hk);(try clear hi)))
                                go_roundg k3
                                case measure => have:=HJ18.out;have:=HJ36.out;have:=HK3.out;omega
                                case rel => exact ⟨(wrap64 (x3_3 + 1)),(by first|rfl|(simp;done)|(simp [*];done)),H',⟨by have:=HJ18.out;have:=HJ36.out;have:=HK3.out;omega⟩,⟨by exact BK287.out⟩,⟨by repeat (first|(with_reducible first|exact HB.out|apply sa|apply sn|apply sd|refine sx ?_ GE287.out)|exact HB.out)⟩⟩
                              · replace c59:=Bool.eq_false_iff.mpr c59
                                subst c59
                                have H1 : (some false) = some r:=by rw [if_neg (show ¬ (false = true) by decide)] at H;exact H
                                clear H;have H:=H1;clear H1;obtain rfl:=Option.some.inj H;have hcz62_0 : wr.cell? ⟨gb287,0,none⟩ = some (.int .i64 a0_0):=(bc BK287.out 0).trans rfl;have hcz62_1 : wr.cell? ⟨gb287,1,none⟩ = some (.int .i64 a0_1):=(bc BK287.out 1).trans rfl;have hcz62_2 : wr.cell? ⟨gb287,2,none⟩ = some (.int .i64 a0_2):=(bc BK287.out 2).trans rfl;have hcz62_3 : wr.cell? ⟨gb287,3,none⟩ = some (.int .i64 a0_3):=(bc BK287.out 3).trans rfl;have hcz62_4 : wr.cell? ⟨gb287,4,none⟩ = some (.int .i64 a0_4):=(bc BK287.out 4).trans rfl;have hcz62_5 : wr.cell? ⟨gb287,5,none⟩ = some (.int .i64 a0_5):=(bc BK287.out 5).trans rfl;have hcz62_6 : wr.cell? ⟨gb287,6,none⟩ = some (.int .i64 a0_6):=(bc BK287.out 6).trans rfl;have hcz62_7 : wr.cell? ⟨gb287,7,none⟩ = some (.int .i64 a0_7):=(bc BK287.out 7).trans rfl;have hcz62_8 : wr.cell? ⟨gb287,8,none⟩ = some (.int .i64 a0_8):=(bc BK287.out 8).trans rfl;have hcz62_9 : wr.cell? ⟨gb287,9,none⟩ = some (.int .i64 a0_9):=(bc BK287.out 9).trans rfl;have hcz62_10 : wr.cell? ⟨gb287,10,none⟩ = some (.int .i64 a0_10):=(bc BK287.out 10).trans rfl;have hcz62_11 : wr.cell? ⟨gb287,11,none⟩ = some (.int .i64 a0_11):=(bc BK287.out 11).trans rfl;have hcz62_12 : wr.cell? ⟨gb287,12,none⟩ = some (.slice A0_12 l0_12.length c0_12):=(bc BK287.out 12).trans rfl;have hcz62_13 : wr.cell? ⟨gb287,13,none⟩ = some (.int .i64 a0_13):=(bc BK287.out 13).trans rfl;have hfz62_0:=bz BK287.out 0;have hfz62_1:=bz BK287.out 1;have hfz62_2:=bz BK287.out 2;have hfz62_3:=bz BK287.out 3;have hfz62_4:=bz BK287.out 4;have hfz62_5:=bz BK287.out 5;have hfz62_6:=bz BK287.out 6;have hfz62_7:=bz BK287.out 7;have hfz62_8:=bz BK287.out 8;have hfz62_9:=bz BK287.out 9;have hfz62_10:=bz BK287.out 10;have hfz62_11:=bz BK287.out 11;have hfz62_12:=bz BK287.out 12;have hfz62_13:=bz BK287.out 13;have p290 : 0 ≤ (x3_3 : Int):=of_decide_eq_true (by first|(with_reducible assumption)|assumption);have q290 : x3_3 < (l0_12.length : Int):=of_decide_eq_true (by first|(with_reducible assumption)|assumption);obtain ⟨ad290,e290,hx290_0,hx290_1,hx290_2,hx290_3,hx290_4⟩:=at_T32 HR0_12.out x3_3 p290 q290
                                cases e290
                                replace hx290_0:=(HB.out.cell (World.block_lt_of_cell? w _ hx290_0)).trans hx290_0;replace hx290_1:=(HB.out.cell (World.block_lt_of_cell? w _ hx290_1)).trans hx290_1;replace hx290_2:=(HB.out.cell (World.block_lt_of_cell? w _ hx290_2)).trans hx290_2;replace hx290_3:=(HB.out.cell (World.block_lt_of_cell? w _ hx290_3)).trans hx290_3;replace hx290_4:=(HB.out.cell (World.block_lt_of_cell? w _ hx290_4)).trans hx290_4;replace p290:=eq_true p290;replace q290:=eq_true q290;have p294 : 0 ≤ (x3_3 : Int):=of_decide_eq_true (by first|(with_reducible assumption)|assumption);have q294 : x3_3 < (l0_12.length : Int):=of_decide_eq_true (by first|(with_reducible assumption)|assumption);obtain ⟨ad294,e294,hx294_0,hx294_1,hx294_2,hx294_3,hx294_4⟩:=at_T32 HR0_12.out x3_3 p294 q294;obtain rfl : ad290 = ad294:=(by injection e294);replace hx294_0:=(HB.out.cell (World.block_lt_of_cell? w _ hx294_0)).trans hx294_0;replace hx294_1:=(HB.out.cell (World.block_lt_of_cell? w _ hx294_1)).trans hx294_1;replace hx294_2:=(HB.out.cell (World.block_lt_of_cell? w _ hx294_2)).trans hx294_2;replace hx294_3:=(HB.out.cell (World.block_lt_of_cell? w _ hx294_3)).trans hx294_3;replace hx294_4:=(HB.out.cell (World.block_lt_of_cell? w _ hx294_4)).trans hx294_4;replace p294:=eq_true p294;replace q294:=eq_true q294
                                go_wp2_with (first|(go_at_call 26;(with_reducible refine (celluloidref07_RGBA.calls k3 ((rd_T32 l0_12 x3_3).f1.f0) ((rd_T32 l0_12 x3_3).f1.f1) ((rd_T32 l0_12 x3_3).f1.f2) ((rd_T32 l0_12 x3_3).f1.f3) false _ A58.out).mono ?_);rintro e w63 ⟨rfl,hb⟩;replace BK287:=am (bw (by exact BK287.out) hb);replace HB:=am (ss (by repeat (first|(with_reducible first|exact HB.out|apply sa|apply sn|apply sd|refine sx ?_ GE287.out)|exact HB.out)) hb);(try clear hb);(try clear hb2);(try clear hk);(try clear hi)))
                                go_ret
                                exact ⟨by first|rfl|(simp [errW_none,errW_some] <;> rfl)|(simp [*,errW_none,errW_some] <;> rfl),by repeat (first|(with_reducible first|exact HB.out|apply sa|apply sn|apply sd|refine sx ?_ GE287.out)|exact HB.out)⟩
                      · rw [if_neg c41] at H
                        exact absurd H (by simp)
                    · rw [if_neg c40] at H
                      have c40b0 : decide (x3_3 < (l0_12.length : Int)) = false:=decide_eq_false c40;clear c40
                      by_cases c64 : (a0_1 == 0 && (a0_2 == 0 && (a0_3 == 0 && (a0_4 == 0)))) = true
                      · rw [if_pos c64] at H
                        have c64b0 : (a0_1 == 0 && (a0_2 == 0 && (a0_3 == 0 && (a0_4 == 0)))) = true:=c64
                        (try (have c64b1 : decide (a0_1 = 0 && (a0_2 == 0 && (a0_3 == 0 && (a0_4 == 0)))) = true:=by simpa using c64))
                        (try (have c64b2 : (a0_1 == 0 && (a0_2 == 0 && (a0_3 == 0 && (a0_4 == 0)))) = true:=by simpa using c64))
                        clear c64
                        by_cases c65 : a0_13 = 0
                        · rw [if_pos c65] at H
                          have c65b0 : (a0_13 == 0) = true:=beq_iff_eq.mpr c65;have c65b1 : (a0_13 != 0) = false:=bne_eq_false_iff_eq.mpr c65;clear c65
                          by_cases c66 : a0_11 ≥ 0
                          · rw [if_pos c66] at H
                            have c66b0 : decide (0 ≤ a0_11) = true:=decide_eq_true c66;clear c66
                            by_cases c67 : a0_11 < 3
                            · rw [if_pos c67] at H
                              have c67b0 : decide (a0_11 < 3) = true:=decide_eq_true c67;clear c67
                              by_cases c68 : (l0_12.length : Int) > 0
                              · rw [if_pos c68] at H
                                have c68b0 : decide (0 < (l0_12.length : Int)) = true:=decide_eq_true c68;have c68b1 : decide (0 < l0_12.length) = true:=decide_eq_true (by omega);clear c68
                                by_cases c69 : (l0_12.length : Int) < 9
                                · rw [if_pos c69] at H
                                  have c69b0 : decide ((l0_12.length : Int) < 9) = true:=decide_eq_true c69;have c69b1 : decide (l0_12.length < 9) = true:=decide_eq_true (by omega);clear c69;replace H:=Option.bind_eq_some_iff.mp H;obtain ⟨t296,A700,H⟩:=H;replace H : (some t296) = some r:=H;have A70:=am A700;clear A700;obtain rfl:=Option.some.inj H;have hcz71_0 : wr.cell? ⟨gb287,0,none⟩ = some (.int .i64 a0_0):=(bc BK287.out 0).trans rfl;have hcz71_1 : wr.cell? ⟨gb287,1,none⟩ = some (.int .i64 a0_1):=(bc BK287.out 1).trans rfl;have hcz71_2 : wr.cell? ⟨gb287,2,none⟩ = some (.int .i64 a0_2):=(bc BK287.out 2).trans rfl;have hcz71_3 : wr.cell? ⟨gb287,3,none⟩ = some (.int .i64 a0_3):=(bc BK287.out 3).trans rfl;have hcz71_4 : wr.cell? ⟨gb287,4,none⟩ = some (.int .i64 a0_4):=(bc BK287.out 4).trans rfl;have hcz71_5 : wr.cell? ⟨gb287,5,none⟩ = some (.int .i64 a0_5):=(bc BK287.out 5).trans rfl;have hcz71_6 : wr.cell? ⟨gb287,6,none⟩ = some (.int .i64 a0_6):=(bc BK287.out 6).trans rfl;have hcz71_7 : wr.cell? ⟨gb287,7,none⟩ = some (.int .i64 a0_7):=(bc BK287.out 7).trans rfl;have hcz71_8 : wr.cell? ⟨gb287,8,none⟩ = some (.int .i64 a0_8):=(bc BK287.out 8).trans rfl;have hcz71_9 : wr.cell? ⟨gb287,9,none⟩ = some (.int .i64 a0_9):=(bc BK287.out 9).trans rfl;have hcz71_10 : wr.cell? ⟨gb287,10,none⟩ = some (.int .i64 a0_10):=(bc BK287.out 10).trans rfl;have hcz71_11 : wr.cell? ⟨gb287,11,none⟩ = some (.int .i64 a0_11):=(bc BK287.out 11).trans rfl;have hcz71_12 : wr.cell? ⟨gb287,12,none⟩ = some (.slice A0_12 l0_12.length c0_12):=(bc BK287.out 12).trans rfl;have hcz71_13 : wr.cell? ⟨gb287,13,none⟩ = some (.int .i64 a0_13):=(bc BK287.out 13).trans rfl;have hfz71_0:=bz BK287.out 0;have hfz71_1:=bz BK287.out 1;have hfz71_2:=bz BK287.out 2;have hfz71_3:=bz BK287.out 3;have hfz71_4:=bz BK287.out 4;have hfz71_5:=bz BK287.out 5;have hfz71_6:=bz BK287.out 6;have hfz71_7:=bz BK287.out 7;have hfz71_8:=bz BK287.out 8;have hfz71_9:=bz BK287.out 9;have hfz71_10:=bz BK287.out 10;have hfz71_11:=bz BK287.out 11;have hfz71_12:=bz BK287.out 12;have hfz71_13:=bz BK287.out 13
                                  go_wp2_with (first|(go_at_call 40;(with_reducible refine (celluloidref07_Matrix.calls a0_5 a0_6 a0_7 a0_8 a0_9 a0_10 t296 _ A70.out).mono ?_);rintro e w72 ⟨rfl,hb⟩;replace BK287:=am (bw (by exact BK287.out) hb);replace HB:=am (ss (by repeat (first|(with_reducible first|exact HB.out|apply sa|apply sn|apply sd|refine sx ?_ GE287.out)|exact HB.out)) hb);(try clear hb);(try clear hb2);(try clear hk);(try clear hi)))
                                  go_ret
                                  exact ⟨by first|rfl|(simp [errW_none,errW_some] <;> rfl)|(simp [*,errW_none,errW_some] <;> rfl),by repeat (first|(with_reducible first|exact HB.out|apply sa|apply sn|apply sd|refine sx ?_ GE287.out)|exact HB.out)⟩
                                · rw [if_neg c69] at H
                                  have c69b0 : decide ((l0_12.length : Int) < 9) = false:=decide_eq_false c69;have c69b1 : decide (l0_12.length < 9) = false:=decide_eq_false (by omega);clear c69;obtain rfl:=Option.some.inj H;have hcz73_0 : wr.cell? ⟨gb287,0,none⟩ = some (.int .i64 a0_0):=(bc BK287.out 0).trans rfl;have hcz73_1 : wr.cell? ⟨gb287,1,none⟩ = some (.int .i64 a0_1):=(bc BK287.out 1).trans rfl;have hcz73_2 : wr.cell? ⟨gb287,2,none⟩ = some (.int .i64 a0_2):=(bc BK287.out 2).trans rfl;have hcz73_3 : wr.cell? ⟨gb287,3,none⟩ = some (.int .i64 a0_3):=(bc BK287.out 3).trans rfl;have hcz73_4 : wr.cell? ⟨gb287,4,none⟩ = some (.int .i64 a0_4):=(bc BK287.out 4).trans rfl;have hcz73_5 : wr.cell? ⟨gb287,5,none⟩ = some (.int .i64 a0_5):=(bc BK287.out 5).trans rfl;have hcz73_6 : wr.cell? ⟨gb287,6,none⟩ = some (.int .i64 a0_6):=(bc BK287.out 6).trans rfl;have hcz73_7 : wr.cell? ⟨gb287,7,none⟩ = some (.int .i64 a0_7):=(bc BK287.out 7).trans rfl;have hcz73_8 : wr.cell? ⟨gb287,8,none⟩ = some (.int .i64 a0_8):=(bc BK287.out 8).trans rfl;have hcz73_9 : wr.cell? ⟨gb287,9,none⟩ = some (.int .i64 a0_9):=(bc BK287.out 9).trans rfl;have hcz73_10 : wr.cell? ⟨gb287,10,none⟩ = some (.int .i64 a0_10):=(bc BK287.out 10).trans rfl;have hcz73_11 : wr.cell? ⟨gb287,11,none⟩ = some (.int .i64 a0_11):=(bc BK287.out 11).trans rfl;have hcz73_12 : wr.cell? ⟨gb287,12,none⟩ = some (.slice A0_12 l0_12.length c0_12):=(bc BK287.out 12).trans rfl;have hcz73_13 : wr.cell? ⟨gb287,13,none⟩ = some (.int .i64 a0_13):=(bc BK287.out 13).trans rfl;have hfz73_0:=bz BK287.out 0;have hfz73_1:=bz BK287.out 1;have hfz73_2:=bz BK287.out 2;have hfz73_3:=bz BK287.out 3;have hfz73_4:=bz BK287.out 4;have hfz73_5:=bz BK287.out 5;have hfz73_6:=bz BK287.out 6;have hfz73_7:=bz BK287.out 7;have hfz73_8:=bz BK287.out 8;have hfz73_9:=bz BK287.out 9;have hfz73_10:=bz BK287.out 10;have hfz73_11:=bz BK287.out 11;have hfz73_12:=bz BK287.out 12;have hfz73_13:=bz BK287.out 13
                                  go_wp2
                                  go_ret
                                  exact ⟨by first|rfl|(simp [errW_none,errW_some] <;> rfl)|(simp [*,errW_none,errW_some] <;> rfl),by repeat (first|(with_reducible first|exact HB.out|apply sa|apply sn|apply sd|refine sx ?_ GE287.out)|exact HB.out)⟩
                              · rw [if_neg c68] at H
                                have c68b0 : decide (0 < (l0_12.length : Int)) = false:=decide_eq_false c68;have c68b1 : decide (0 < l0_12.length) = false:=decide_eq_false (by omega);clear c68;obtain rfl:=Option.some.inj H;have hcz74_0 : wr.cell? ⟨gb287,0,none⟩ = some (.int .i64 a0_0):=(bc BK287.out 0).trans rfl;have hcz74_1 : wr.cell? ⟨gb287,1,none⟩ = some (.int .i64 a0_1):=(bc BK287.out 1).trans rfl;have hcz74_2 : wr.cell? ⟨gb287,2,none⟩ = some (.int .i64 a0_2):=(bc BK287.out 2).trans rfl;have hcz74_3 : wr.cell? ⟨gb287,3,none⟩ = some (.int .i64 a0_3):=(bc BK287.out 3).trans rfl;have hcz74_4 : wr.cell? ⟨gb287,4,none⟩ = some (.int .i64 a0_4):=(bc BK287.out 4).trans rfl;have hcz74_5 : wr.cell? ⟨gb287,5,none⟩ = some (.int .i64 a0_5):=(bc BK287.out 5).trans rfl;have hcz74_6 : wr.cell? ⟨gb287,6,none⟩ = some (.int .i64 a0_6):=(bc BK287.out 6).trans rfl;have hcz74_7 : wr.cell? ⟨gb287,7,none⟩ = some (.int .i64 a0_7):=(bc BK287.out 7).trans rfl;have hcz74_8 : wr.cell? ⟨gb287,8,none⟩ = some (.int .i64 a0_8):=(bc BK287.out 8).trans rfl;have hcz74_9 : wr.cell? ⟨gb287,9,none⟩ = some (.int .i64 a0_9):=(bc BK287.out 9).trans rfl;have hcz74_10 : wr.cell? ⟨gb287,10,none⟩ = some (.int .i64 a0_10):=(bc BK287.out 10).trans rfl;have hcz74_11 : wr.cell? ⟨gb287,11,none⟩ = some (.int .i64 a0_11):=(bc BK287.out 11).trans rfl;have hcz74_12 : wr.cell? ⟨gb287,12,none⟩ = some (.slice A0_12 l0_12.length c0_12):=(bc BK287.out 12).trans rfl;have hcz74_13 : wr.cell? ⟨gb287,13,none⟩ = some (.int .i64 a0_13):=(bc BK287.out 13).trans rfl;have hfz74_0:=bz BK287.out 0;have hfz74_1:=bz BK287.out 1;have hfz74_2:=bz BK287.out 2;have hfz74_3:=bz BK287.out 3;have hfz74_4:=bz BK287.out 4;have hfz74_5:=bz BK287.out 5;have hfz74_6:=bz BK287.out 6;have hfz74_7:=bz BK287.out 7;have hfz74_8:=bz BK287.out 8;have hfz74_9:=bz BK287.out 9;have hfz74_10:=bz BK287.out 10;have hfz74_11:=bz BK287.out 11;have hfz74_12:=bz BK287.out 12;have hfz74_13:=bz BK287.out 13
                                go_wp2
                                go_ret
                                exact ⟨by first|rfl|(simp [errW_none,errW_some] <;> rfl)|(simp [*,errW_none,errW_some] <;> rfl),by repeat (first|(with_reducible first|exact HB.out|apply sa|apply sn|apply sd|refine sx ?_ GE287.out)|exact HB.out)⟩
                            · rw [if_neg c67] at H
                              have c67b0 : decide (a0_11 < 3) = false:=decide_eq_false c67;clear c67;obtain rfl:=Option.some.inj H;have hcz75_0 : wr.cell? ⟨gb287,0,none⟩ = some (.int .i64 a0_0):=(bc BK287.out 0).trans rfl;have hcz75_1 : wr.cell? ⟨gb287,1,none⟩ = some (.int .i64 a0_1):=(bc BK287.out 1).trans rfl;have hcz75_2 : wr.cell? ⟨gb287,2,none⟩ = some (.int .i64 a0_2):=(bc BK287.out 2).trans rfl;have hcz75_3 : wr.cell? ⟨gb287,3,none⟩ = some (.int .i64 a0_3):=(bc BK287.out 3).trans rfl;have hcz75_4 : wr.cell? ⟨gb287,4,none⟩ = some (.int .i64 a0_4):=(bc BK287.out 4).trans rfl;have hcz75_5 : wr.cell? ⟨gb287,5,none⟩ = some (.int .i64 a0_5):=(bc BK287.out 5).trans rfl;have hcz75_6 : wr.cell? ⟨gb287,6,none⟩ = some (.int .i64 a0_6):=(bc BK287.out 6).trans rfl;have hcz75_7 : wr.cell? ⟨gb287,7,none⟩ = some (.int .i64 a0_7):=(bc BK287.out 7).trans rfl;have hcz75_8 : wr.cell? ⟨gb287,8,none⟩ = some (.int .i64 a0_8):=(bc BK287.out 8).trans rfl;have hcz75_9 : wr.cell? ⟨gb287,9,none⟩ = some (.int .i64 a0_9):=(bc BK287.out 9).trans rfl;have hcz75_10 : wr.cell? ⟨gb287,10,none⟩ = some (.int .i64 a0_10):=(bc BK287.out 10).trans rfl;have hcz75_11 : wr.cell? ⟨gb287,11,none⟩ = some (.int .i64 a0_11):=(bc BK287.out 11).trans rfl;have hcz75_12 : wr.cell? ⟨gb287,12,none⟩ = some (.slice A0_12 l0_12.length c0_12):=(bc BK287.out 12).trans rfl;have hcz75_13 : wr.cell? ⟨gb287,13,none⟩ = some (.int .i64 a0_13):=(bc BK287.out 13).trans rfl;have hfz75_0:=bz BK287.out 0;have hfz75_1:=bz BK287.out 1;have hfz75_2:=bz BK287.out 2;have hfz75_3:=bz BK287.out 3;have hfz75_4:=bz BK287.out 4;have hfz75_5:=bz BK287.out 5;have hfz75_6:=bz BK287.out 6;have hfz75_7:=bz BK287.out 7;have hfz75_8:=bz BK287.out 8;have hfz75_9:=bz BK287.out 9;have hfz75_10:=bz BK287.out 10;have hfz75_11:=bz BK287.out 11;have hfz75_12:=bz BK287.out 12;have hfz75_13:=bz BK287.out 13
                              go_wp2
                              go_ret
                              exact ⟨by first|rfl|(simp [errW_none,errW_some] <;> rfl)|(simp [*,errW_none,errW_some] <;> rfl),by repeat (first|(with_reducible first|exact HB.out|apply sa|apply sn|apply sd|refine sx ?_ GE287.out)|exact HB.out)⟩
                          · rw [if_neg c66] at H
                            have c66b0 : decide (0 ≤ a0_11) = false:=decide_eq_false c66;clear c66;obtain rfl:=Option.some.inj H;have hcz76_0 : wr.cell? ⟨gb287,0,none⟩ = some (.int .i64 a0_0):=(bc BK287.out 0).trans rfl;have hcz76_1 : wr.cell? ⟨gb287,1,none⟩ = some (.int .i64 a0_1):=(bc BK287.out 1).trans rfl;have hcz76_2 : wr.cell? ⟨gb287,2,none⟩ = some (.int .i64 a0_2):=(bc BK287.out 2).trans rfl;have hcz76_3 : wr.cell? ⟨gb287,3,none⟩ = some (.int .i64 a0_3):=(bc BK287.out 3).trans rfl;have hcz76_4 : wr.cell? ⟨gb287,4,none⟩ = some (.int .i64 a0_4):=(bc BK287.out 4).trans rfl;have hcz76_5 : wr.cell? ⟨gb287,5,none⟩ = some (.int .i64 a0_5):=(bc BK287.out 5).trans rfl;have hcz76_6 : wr.cell? ⟨gb287,6,none⟩ = some (.int .i64 a0_6):=(bc BK287.out 6).trans rfl;have hcz76_7 : wr.cell? ⟨gb287,7,none⟩ = some (.int .i64 a0_7):=(bc BK287.out 7).trans rfl;have hcz76_8 : wr.cell? ⟨gb287,8,none⟩ = some (.int .i64 a0_8):=(bc BK287.out 8).trans rfl;have hcz76_9 : wr.cell? ⟨gb287,9,none⟩ = some (.int .i64 a0_9):=(bc BK287.out 9).trans rfl;have hcz76_10 : wr.cell? ⟨gb287,10,none⟩ = some (.int .i64 a0_10):=(bc BK287.out 10).trans rfl;have hcz76_11 : wr.cell? ⟨gb287,11,none⟩ = some (.int .i64 a0_11):=(bc BK287.out 11).trans rfl;have hcz76_12 : wr.cell? ⟨gb287,12,none⟩ = some (.slice A0_12 l0_12.length c0_12):=(bc BK287.out 12).trans rfl;have hcz76_13 : wr.cell? ⟨gb287,13,none⟩ = some (.int .i64 a0_13):=(bc BK287.out 13).trans rfl;have hfz76_0:=bz BK287.out 0;have hfz76_1:=bz BK287.out 1;have hfz76_2:=bz BK287.out 2;have hfz76_3:=bz BK287.out 3;have hfz76_4:=bz BK287.out 4;have hfz76_5:=bz BK287.out 5;have hfz76_6:=bz BK287.out 6;have hfz76_7:=bz BK287.out 7;have hfz76_8:=bz BK287.out 8;have hfz76_9:=bz BK287.out 9;have hfz76_10:=bz BK287.out 10;have hfz76_11:=bz BK287.out 11;have hfz76_12:=bz BK287.out 12;have hfz76_13:=bz BK287.out 13
                            go_wp2
                            go_ret
                            exact ⟨by first|rfl|(simp [errW_none,errW_some] <;> rfl)|(simp [*,errW_none,errW_some] <;> rfl),by repeat (first|(with_reducible first|exact HB.out|apply sa|apply sn|apply sd|refine sx ?_ GE287.out)|exact HB.out)⟩
                        · rw [if_neg c65] at H
                          have c65b0 : (a0_13 == 0) = false:=beq_eq_false_iff_ne.mpr c65;have c65b1 : (a0_13 != 0) = true:=bne_iff_ne.mpr c65;obtain rfl:=Option.some.inj H;have hcz77_0 : wr.cell? ⟨gb287,0,none⟩ = some (.int .i64 a0_0):=(bc BK287.out 0).trans rfl;have hcz77_1 : wr.cell? ⟨gb287,1,none⟩ = some (.int .i64 a0_1):=(bc BK287.out 1).trans rfl;have hcz77_2 : wr.cell? ⟨gb287,2,none⟩ = some (.int .i64 a0_2):=(bc BK287.out 2).trans rfl;have hcz77_3 : wr.cell? ⟨gb287,3,none⟩ = some (.int .i64 a0_3):=(bc BK287.out 3).trans rfl;have hcz77_4 : wr.cell? ⟨gb287,4,none⟩ = some (.int .i64 a0_4):=(bc BK287.out 4).trans rfl;have hcz77_5 : wr.cell? ⟨gb287,5,none⟩ = some (.int .i64 a0_5):=(bc BK287.out 5).trans rfl;have hcz77_6 : wr.cell? ⟨gb287,6,none⟩ = some (.int .i64 a0_6):=(bc BK287.out 6).trans rfl;have hcz77_7 : wr.cell? ⟨gb287,7,none⟩ = some (.int .i64 a0_7):=(bc BK287.out 7).trans rfl;have hcz77_8 : wr.cell? ⟨gb287,8,none⟩ = some (.int .i64 a0_8):=(bc BK287.out 8).trans rfl;have hcz77_9 : wr.cell? ⟨gb287,9,none⟩ = some (.int .i64 a0_9):=(bc BK287.out 9).trans rfl;have hcz77_10 : wr.cell? ⟨gb287,10,none⟩ = some (.int .i64 a0_10):=(bc BK287.out 10).trans rfl;have hcz77_11 : wr.cell? ⟨gb287,11,none⟩ = some (.int .i64 a0_11):=(bc BK287.out 11).trans rfl;have hcz77_12 : wr.cell? ⟨gb287,12,none⟩ = some (.slice A0_12 l0_12.length c0_12):=(bc BK287.out 12).trans rfl;have hcz77_13 : wr.cell? ⟨gb287,13,none⟩ = some (.int .i64 a0_13):=(bc BK287.out 13).trans rfl;have hfz77_0:=bz BK287.out 0;have hfz77_1:=bz BK287.out 1;have hfz77_2:=bz BK287.out 2;have hfz77_3:=bz BK287.out 3;have hfz77_4:=bz BK287.out 4;have hfz77_5:=bz BK287.out 5;have hfz77_6:=bz BK287.out 6;have hfz77_7:=bz BK287.out 7;have hfz77_8:=bz BK287.out 8;have hfz77_9:=bz BK287.out 9;have hfz77_10:=bz BK287.out 10;have hfz77_11:=bz BK287.out 11;have hfz77_12:=bz BK287.out 12;have hfz77_13:=bz BK287.out 13
                          go_wp2
                          go_ret
                          exact ⟨by first|rfl|(simp [errW_none,errW_some] <;> rfl)|(simp [*,errW_none,errW_some] <;> rfl),by repeat (first|(with_reducible first|exact HB.out|apply sa|apply sn|apply sd|refine sx ?_ GE287.out)|exact HB.out)⟩
                      · rw [if_neg c64] at H
                        have c64b0 : (a0_1 == 0 && (a0_2 == 0 && (a0_3 == 0 && (a0_4 == 0)))) = false:=by simpa using c64
                        (try (have c64b1 : decide (a0_1 = 0 && (a0_2 == 0 && (a0_3 == 0 && (a0_4 == 0)))) = false:=by simpa using c64))
                        (try (have c64b2 : (a0_1 == 0 && (a0_2 == 0 && (a0_3 == 0 && (a0_4 == 0)))) = false:=by simpa using c64))
                        (try (have c64b3 : ¬ (a0_1 = 0 && (a0_2 == 0 && (a0_3 == 0 && (a0_4 == 0)))):=by simpa using c64))
                        clear c64;obtain rfl:=Option.some.inj H;have hcz78_0 : wr.cell? ⟨gb287,0,none⟩ = some (.int .i64 a0_0):=(bc BK287.out 0).trans rfl;have hcz78_1 : wr.cell? ⟨gb287,1,none⟩ = some (.int .i64 a0_1):=(bc BK287.out 1).trans rfl;have hcz78_2 : wr.cell? ⟨gb287,2,none⟩ = some (.int .i64 a0_2):=(bc BK287.out 2).trans rfl;have hcz78_3 : wr.cell? ⟨gb287,3,none⟩ = some (.int .i64 a0_3):=(bc BK287.out 3).trans rfl;have hcz78_4 : wr.cell? ⟨gb287,4,none⟩ = some (.int .i64 a0_4):=(bc BK287.out 4).trans rfl;have hcz78_5 : wr.cell? ⟨gb287,5,none⟩ = some (.int .i64 a0_5):=(bc BK287.out 5).trans rfl;have hcz78_6 : wr.cell? ⟨gb287,6,none⟩ = some (.int .i64 a0_6):=(bc BK287.out 6).trans rfl;have hcz78_7 : wr.cell? ⟨gb287,7,none⟩ = some (.int .i64 a0_7):=(bc BK287.out 7).trans rfl;have hcz78_8 : wr.cell? ⟨gb287,8,none⟩ = some (.int .i64 a0_8):=(bc BK287.out 8).trans rfl;have hcz78_9 : wr.cell? ⟨gb287,9,none⟩ = some (.int .i64 a0_9):=(bc BK287.out 9).trans rfl;have hcz78_10 : wr.cell? ⟨gb287,10,none⟩ = some (.int .i64 a0_10):=(bc BK287.out 10).trans rfl;have hcz78_11 : wr.cell? ⟨gb287,11,none⟩ = some (.int .i64 a0_11):=(bc BK287.out 11).trans rfl;have hcz78_12 : wr.cell? ⟨gb287,12,none⟩ = some (.slice A0_12 l0_12.length c0_12):=(bc BK287.out 12).trans rfl;have hcz78_13 : wr.cell? ⟨gb287,13,none⟩ = some (.int .i64 a0_13):=(bc BK287.out 13).trans rfl;have hfz78_0:=bz BK287.out 0;have hfz78_1:=bz BK287.out 1;have hfz78_2:=bz BK287.out 2;have hfz78_3:=bz BK287.out 3;have hfz78_4:=bz BK287.out 4;have hfz78_5:=bz BK287.out 5;have hfz78_6:=bz BK287.out 6;have hfz78_7:=bz BK287.out 7;have hfz78_8:=bz BK287.out 8;have hfz78_9:=bz BK287.out 9;have hfz78_10:=bz BK287.out 10;have hfz78_11:=bz BK287.out 11;have hfz78_12:=bz BK287.out 12;have hfz78_13:=bz BK287.out 13
                        go_wp2
                        go_ret
                        exact ⟨by first|rfl|(simp [errW_none,errW_some] <;> rfl)|(simp [*,errW_none,errW_some] <;> rfl),by repeat (first|(with_reducible first|exact HB.out|apply sa|apply sn|apply sd|refine sx ?_ GE287.out)|exact HB.out)⟩
              · replace c39:=Bool.eq_false_iff.mpr c39
                subst c39
                have H1 : (some false) = some r:=by rw [if_neg (show ¬ (false = true) by decide)] at H;exact H
                clear H;have H:=H1;clear H1;obtain rfl:=Option.some.inj H
                go_wp2
                go_ret
                exact ⟨by first|rfl|(simp [errW_none,errW_some] <;> rfl)|(simp [*,errW_none,errW_some] <;> rfl),by repeat (first|(with_reducible first|exact HB.out|apply sa|apply sn|apply sd|refine sx ?_ GE287.out)|exact HB.out)⟩
  all_goals
    go_enter Try.func30,Try.ntmps30
    go_wp2_with (first|((with_reducible refine gate_dst (N:=1) rfl ?_);(try (refine gate_guard (by rfl) ?_;dsimp only));refine box_event ?hg (N:=1) ?hd (cs:=#[.int .i64 a0_0,.int .i64 a0_1,.int .i64 a0_2,.int .i64 a0_3,.int .i64 a0_4,.int .i64 a0_5,.int .i64 a0_6,.int .i64 a0_7,.int .i64 a0_8,.int .i64 a0_9,.int .i64 a0_10,.int .i64 a0_11,.slice A0_12 l0_12.length c0_12,.int .i64 a0_13]) (t:=43) ?hr ?_;(case hd => rfl);(case hg => rfl);(case hr => first|(go_simp;done)|(go_simp;rfl));intro gbz1 hg wz1 hbox hb;have nz1_:=am (ss (by repeat (first|(with_reducible first|exact HB.out|apply sa|apply sn|apply sd)|exact HB.out)) hb);have nz2_:=am (hbox);have nz3_:=am ((by rw [hg];exact (sz (by repeat (first|(with_reducible first|exact HB.out|apply sa|apply sn|apply sd)|exact HB.out))) : w.heap.size ≤ gbz1));have nz4_:=am ((by rw [hg];exact (sz (by repeat (first|(with_reducible first|exact HB.out|apply sa|apply sn|apply sd)|exact HB.out))) : w.heap.size ≤ gbz1));clear HB;have HB:=nz1_;have BKz1:=nz2_;have GWz1:=nz3_;have GEz1:=nz4_;clear nz1_ nz2_ nz3_ nz4_;clear hb hbox hg;have hczz1_0 : wz1.cell? ⟨gbz1,0,none⟩ = some (.int .i64 a0_0):=(bc BKz1.out 0).trans rfl;have hczz1_1 : wz1.cell? ⟨gbz1,1,none⟩ = some (.int .i64 a0_1):=(bc BKz1.out 1).trans rfl;have hczz1_2 : wz1.cell? ⟨gbz1,2,none⟩ = some (.int .i64 a0_2):=(bc BKz1.out 2).trans rfl;have hczz1_3 : wz1.cell? ⟨gbz1,3,none⟩ = some (.int .i64 a0_3):=(bc BKz1.out 3).trans rfl;have hczz1_4 : wz1.cell? ⟨gbz1,4,none⟩ = some (.int .i64 a0_4):=(bc BKz1.out 4).trans rfl;have hczz1_5 : wz1.cell? ⟨gbz1,5,none⟩ = some (.int .i64 a0_5):=(bc BKz1.out 5).trans rfl;have hczz1_6 : wz1.cell? ⟨gbz1,6,none⟩ = some (.int .i64 a0_6):=(bc BKz1.out 6).trans rfl;have hczz1_7 : wz1.cell? ⟨gbz1,7,none⟩ = some (.int .i64 a0_7):=(bc BKz1.out 7).trans rfl;have hczz1_8 : wz1.cell? ⟨gbz1,8,none⟩ = some (.int .i64 a0_8):=(bc BKz1.out 8).trans rfl;have hczz1_9 : wz1.cell? ⟨gbz1,9,none⟩ = some (.int .i64 a0_9):=(bc BKz1.out 9).trans rfl;have hczz1_10 : wz1.cell? ⟨gbz1,10,none⟩ = some (.int .i64 a0_10):=(bc BKz1.out 10).trans rfl;have hczz1_11 : wz1.cell? ⟨gbz1,11,none⟩ = some (.int .i64 a0_11):=(bc BKz1.out 11).trans rfl;have hczz1_12 : wz1.cell? ⟨gbz1,12,none⟩ = some (.slice A0_12 l0_12.length c0_12):=(bc BKz1.out 12).trans rfl;have hczz1_13 : wz1.cell? ⟨gbz1,13,none⟩ = some (.int .i64 a0_13):=(bc BKz1.out 13).trans rfl;have hfzz1_0:=bz BKz1.out 0;have hfzz1_1:=bz BKz1.out 1;have hfzz1_2:=bz BKz1.out 2;have hfzz1_3:=bz BKz1.out 3;have hfzz1_4:=bz BKz1.out 4;have hfzz1_5:=bz BKz1.out 5;have hfzz1_6:=bz BKz1.out 6;have hfzz1_7:=bz BKz1.out 7;have hfzz1_8:=bz BKz1.out 8;have hfzz1_9:=bz BKz1.out 9;have hfzz1_10:=bz BKz1.out 10;have hfzz1_11:=bz BKz1.out 11;have hfzz1_12:=bz BKz1.out 12;have hfzz1_13:=bz BKz1.out 13)|(go_at_call 26;(with_reducible refine (celluloidref07_RGBA.calls k a0_1 a0_2 a0_3 a0_4 t288 _ A7.out).mono ?_);rintro e wz2 ⟨rfl,hb⟩;have nz1_:=am (bw (by exact BKz1.out) hb);have nz2_:=am (ss (by repeat (first|(with_reducible first|exact HB.out|apply sa|apply sn|apply sd|refine sx ?_ GEz1.out)|exact HB.out)) hb);clear BKz1;clear HB;have BKz1:=nz1_;have HB:=nz2_;clear nz1_ nz2_;(try clear hb);(try clear hb2);(try clear hk);(try clear hi)))
    go_ret
    exact ⟨by first|rfl|(simp [errW_none,errW_some] <;> rfl)|(simp [*,errW_none,errW_some] <;> rfl),by repeat (first|(with_reducible first|exact HB.out|apply sa|apply sn|apply sd|refine sx ?_ GEz1.out)|exact HB.out)⟩

end Go.Proofs.Ytdphpilcokloeaa.P
