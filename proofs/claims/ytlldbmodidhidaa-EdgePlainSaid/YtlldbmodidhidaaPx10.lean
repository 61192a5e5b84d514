/- Printed by printx.py (wip/tool) out of the translation: plain functions that tell what the program answers,and the proofs that the program comes to these answers,for all arguments of their kinds. Lean checks it. -/
import Derived.Test.YtlldbmodidhidaaShort
import Derived.Test.YtlldbmodidhidaaPx0
import Derived.Test.YtlldbmodidhidaaPx8
import Derived.Test.YtlldbmodidhidaaPx9
namespace Go.Proofs.Ytlldbmodidhidaa.P
open Go.RowKit Go.Proofs.YtlldbmodidhidaaW.PrintWords Go.Proofs.YtlldbmodidhidaaW.PrintLast Go.Proofs.YtlldbmodidhidaaW.PrintMore
attribute [local go_sem] max2_int min2_int max_two min_two max_three min_three max_four min_four max_five min_five max_six min_six   -- for this text's walks alone
set_option linter.unusedVariables false
set_option linter.unusedSimpArgs false

/-! ### style_RightFill: function 43 -/
def style_RightFill.l0 : Nat → Int → List (S86) → Int → Int → Int → Int → Int → Int → Int → Int → Int → Int → Int → Int → Int → Int → List (S86) → Int → Option (Bool)
  | 0,_,_,_,_,_,_,_,_,_,_,_,_,_,_,_,_,_,_ => none
  | k + 1,x3,x68,x69,x70,x136000,x136001,x136002,x136003,x136004,x136005,x136006,x136007,x136008,x136009,x136010,x136011,x136012,x136013 => if x70 < x69 then (if 0 ≤ x70 then (if x70 < (x68.length : Int) then ((style_stop.f k ((rd_T86 x68 x70).f0) ((rd_T86 x68 x70).f1.f0) ((rd_T86 x68 x70).f1.f1) ((rd_T86 x68 x70).f1.f2) ((rd_T86 x68 x70).f1.f3) x3).bind fun t145 => (if t145 = true then (style_RightFill.l0 k ((rd_T86 x68 x70).f0) x68 x69 (wrap64 (x70 + 1)) x136000 x136001 x136002 x136003 x136004 x136005 x136006 x136007 x136008 x136009 x136010 x136011 x136012 x136013) else (some false))) else (none)) else (none)) else ((field_RightMatrix.f k x136005 x136006 x136007 x136008 x136009 x136010).bind fun t146 => (if t146 = true then (if x136011 ≥ 0 then (if x136011 ≤ 2 then (if (x136012.length : Int) ≥ 1 then (some (decide ((x136012.length : Int) ≤ 8))) else (some false)) else (some false)) else (some false)) else (some false)))
def style_RightFill.f (k : Nat) (a0_0 : Int) (a0_1 : Int) (a0_2 : Int) (a0_3 : Int) (a0_4 : Int) (a0_5 : Int) (a0_6 : Int) (a0_7 : Int) (a0_8 : Int) (a0_9 : Int) (a0_10 : Int) (a0_11 : Int) (l0_12 : List (S86)) (a0_13 : Int) : Option (Bool):=if a0_0 = 0 then ((field_RightRGBA.f k a0_1 a0_2 a0_3 a0_4).bind fun t136 => (if t136 = true then ((style_SameFill.f k a0_0 a0_1 a0_2 a0_3 a0_4 a0_5 a0_6 a0_7 a0_8 a0_9 a0_10 a0_11 l0_12 a0_13 0 a0_1 a0_2 a0_3 a0_4 0 0 0 0 0 0 0 ([] : List (S86)) 0).bind fun t137 => (some t137)) else (some false))) else ((style_picture.f a0_0).bind fun t138 => (if t138 = true then ((field_RightMatrix.f k a0_5 a0_6 a0_7 a0_8 a0_9 a0_10).bind fun t139 => (if t139 = true then (if a0_13 ≥ 0 then (if a0_13 < 65536 then ((style_SameFill.f k a0_0 a0_1 a0_2 a0_3 a0_4 a0_5 a0_6 a0_7 a0_8 a0_9 a0_10 a0_11 l0_12 a0_13 a0_0 0 0 0 0 a0_5 a0_6 a0_7 a0_8 a0_9 a0_10 0 ([] : List (S86)) a0_13).bind fun t140 => (some t140)) else (some false)) else (some false)) else (some false))) else ((style_gradient.f a0_0).bind fun t141 => (if t141 = true then ((style_SameFill.f k a0_0 a0_1 a0_2 a0_3 a0_4 a0_5 a0_6 a0_7 a0_8 a0_9 a0_10 a0_11 l0_12 a0_13 a0_0 0 0 0 0 a0_5 a0_6 a0_7 a0_8 a0_9 a0_10 a0_11 l0_12 0).bind fun t142 => (if t142 = true then (style_RightFill.l0 k 0 l0_12 (l0_12.length : Int) 0 a0_0 a0_1 a0_2 a0_3 a0_4 a0_5 a0_6 a0_7 a0_8 a0_9 a0_10 a0_11 l0_12 a0_13) else (some false))) else (some false)))))
theorem style_RightFill.mono_l : ∀ k,(∀ y0 y1 y2 y3 y4 y5 y6 y7 y8 y9 y10 y11 y12 y13 y14 y15 y16 y17,LeO (style_RightFill.l0 k y0 y1 y2 y3 y4 y5 y6 y7 y8 y9 y10 y11 y12 y13 y14 y15 y16 y17) (style_RightFill.l0 (k + 1) y0 y1 y2 y3 y4 y5 y6 y7 y8 y9 y10 y11 y12 y13 y14 y15 y16 y17))
  | 0 => fun _ _ _ _ _ _ _ _ _ _ _ _ _ _ _ _ _ _ r h => by simp [style_RightFill.l0] at h
  | k + 1 => by
    have ih0:=style_RightFill.mono_l k
    · intro y0 y1 y2 y3 y4 y5 y6 y7 y8 y9 y10 y11 y12 y13 y14 y15 y16 y17
      unfold style_RightFill.l0
      repeat' first
      | (with_reducible exact ih0 _ _ _ _ _ _ _ _ _ _ _ _ _ _ _ _ _ _)
      | (with_reducible exact field_RightMatrix.mono _ _ _ _ _ _ _)
      | (with_reducible exact field_RightRGBA.mono _ _ _ _ _)
      | (with_reducible exact style_SameFill.mono _ _ _ _ _ _ _ _ _ _ _ _ _ _ _ _ _ _ _ _ _ _ _ _ _ _ _ _ _)
      | (with_reducible exact style_stop.mono _ _ _ _ _ _ _)
      | (with_reducible exact LeO.refl _)
      | (with_reducible exact LeO.none _)
      | (with_reducible refine LeO.ite ?_ ?_)
      | (with_reducible refine LeO.bind ?_ (fun _ => ?_))
      | exact ih0 _ _ _ _ _ _ _ _ _ _ _ _ _ _ _ _ _ _
      | exact field_RightMatrix.mono _ _ _ _ _ _ _
      | exact field_RightRGBA.mono _ _ _ _ _
      | exact style_SameFill.mono _ _ _ _ _ _ _ _ _ _ _ _ _ _ _ _ _ _ _ _ _ _ _ _ _ _ _ _ _
      | exact style_stop.mono _ _ _ _ _ _ _
      | exact LeO.none _
      | refine LeO.ite ?_ ?_
      | refine LeO.bind ?_ (fun _ => ?_)
theorem style_RightFill.mono : ∀ a0 a1 a2 a3 a4 a5 a6 a7 a8 a9 a10 a11 a12 a13 k,LeO (style_RightFill.f k a0 a1 a2 a3 a4 a5 a6 a7 a8 a9 a10 a11 a12 a13) (style_RightFill.f (k + 1) a0 a1 a2 a3 a4 a5 a6 a7 a8 a9 a10 a11 a12 a13):=by
  intro a0 a1 a2 a3 a4 a5 a6 a7 a8 a9 a10 a11 a12 a13 k
  have ih0:=style_RightFill.mono_l k
  unfold style_RightFill.f
  repeat' first
      | (with_reducible exact ih0 _ _ _ _ _ _ _ _ _ _ _ _ _ _ _ _ _ _)
      | (with_reducible exact field_RightMatrix.mono _ _ _ _ _ _ _)
      | (with_reducible exact field_RightRGBA.mono _ _ _ _ _)
      | (with_reducible exact style_SameFill.mono _ _ _ _ _ _ _ _ _ _ _ _ _ _ _ _ _ _ _ _ _ _ _ _ _ _ _ _ _)
      | (with_reducible exact style_stop.mono _ _ _ _ _ _ _)
      | (with_reducible exact LeO.refl _)
      | (with_reducible exact LeO.none _)
      | (with_reducible refine LeO.ite ?_ ?_)
      | (with_reducible refine LeO.bind ?_ (fun _ => ?_))
      | exact ih0 _ _ _ _ _ _ _ _ _ _ _ _ _ _ _ _ _ _
      | exact field_RightMatrix.mono _ _ _ _ _ _ _
      | exact field_RightRGBA.mono _ _ _ _ _
      | exact style_SameFill.mono _ _ _ _ _ _ _ _ _ _ _ _ _ _ _ _ _ _ _ _ _ _ _ _ _ _ _ _ _
      | exact style_stop.mono _ _ _ _ _ _ _
      | exact LeO.none _
      | refine LeO.ite ?_ ?_
      | refine LeO.bind ?_ (fun _ => ?_)
set_option maxHeartbeats 8000000 in
set_option maxRecDepth 100000 in
theorem style_RightFill.calls (k : Nat) (a0_0 : Int) (a0_1 : Int) (a0_2 : Int) (a0_3 : Int) (a0_4 : Int) (a0_5 : Int) (a0_6 : Int) (a0_7 : Int) (a0_8 : Int) (a0_9 : Int) (a0_10 : Int) (a0_11 : Int) (A0_12 : Option Addr) (c0_12 : Nat) (l0_12 : List (S86)) (a0_13 : Int) (r : Bool) (w : World) (hr0_12 : Kd.C k86 w A0_12 l0_12.length l0_12) (hc0_12 : l0_12.length ≤ c0_12) (h : style_RightFill.f k a0_0 a0_1 a0_2 a0_3 a0_4 a0_5 a0_6 a0_7 a0_8 a0_9 a0_10 a0_11 l0_12 a0_13 = some r) :
    Calls Try.prog 43 #[.agg #[.int .i64 a0_0,.int .i64 a0_1,.int .i64 a0_2,.int .i64 a0_3,.int .i64 a0_4,.int .i64 a0_5,.int .i64 a0_6,.int .i64 a0_7,.int .i64 a0_8,.int .i64 a0_9,.int .i64 a0_10,.int .i64 a0_11,.slice A0_12 l0_12.length c0_12,.int .i64 a0_13]] w fun e w' => e = .returned (.bool r) ∧ Below w.heap.size w w':=by
  have hu65:=Try.underlying65;have hu60:=Try.underlying60;have hu62:=Try.underlying62;have hu86:=Try.underlying86;have HR0_12:=am hr0_12;have HC0_12:=am hc0_12;clear hr0_12 hc0_12;have HB:=am (Below.refl w.heap.size w);have H : (if a0_0 = 0 then ((field_RightRGBA.f k a0_1 a0_2 a0_3 a0_4).bind fun t136 => (if t136 = true then ((style_SameFill.f k a0_0 a0_1 a0_2 a0_3 a0_4 a0_5 a0_6 a0_7 a0_8 a0_9 a0_10 a0_11 l0_12 a0_13 0 a0_1 a0_2 a0_3 a0_4 0 0 0 0 0 0 0 ([] : List (S86)) 0).bind fun t137 => (some t137)) else (some false))) else ((style_picture.f a0_0).bind fun t138 => (if t138 = true then ((field_RightMatrix.f k a0_5 a0_6 a0_7 a0_8 a0_9 a0_10).bind fun t139 => (if t139 = true then (if a0_13 ≥ 0 then (if a0_13 < 65536 then ((style_SameFill.f k a0_0 a0_1 a0_2 a0_3 a0_4 a0_5 a0_6 a0_7 a0_8 a0_9 a0_10 a0_11 l0_12 a0_13 a0_0 0 0 0 0 a0_5 a0_6 a0_7 a0_8 a0_9 a0_10 0 ([] : List (S86)) a0_13).bind fun t140 => (some t140)) else (some false)) else (some false)) else (some false))) else ((style_gradient.f a0_0).bind fun t141 => (if t141 = true then ((style_SameFill.f k a0_0 a0_1 a0_2 a0_3 a0_4 a0_5 a0_6 a0_7 a0_8 a0_9 a0_10 a0_11 l0_12 a0_13 a0_0 0 0 0 0 a0_5 a0_6 a0_7 a0_8 a0_9 a0_10 a0_11 l0_12 0).bind fun t142 => (if t142 = true then (style_RightFill.l0 k 0 l0_12 (l0_12.length : Int) 0 a0_0 a0_1 a0_2 a0_3 a0_4 a0_5 a0_6 a0_7 a0_8 a0_9 a0_10 a0_11 l0_12 a0_13) else (some false))) else (some false)))))) = some r:=h;clear h
  by_cases c2 : a0_0 = 0
  focus
    rw [if_pos c2] at H;have c2b0 : (a0_0 == 0) = true:=beq_iff_eq.mpr c2;have c2b1 : (a0_0 != 0) = false:=bne_eq_false_iff_eq.mpr c2;clear c2;replace H:=Option.bind_eq_some_iff.mp H;obtain ⟨t136,A30,H⟩:=H;replace H : (if t136 = true then ((style_SameFill.f k a0_0 a0_1 a0_2 a0_3 a0_4 a0_5 a0_6 a0_7 a0_8 a0_9 a0_10 a0_11 l0_12 a0_13 0 a0_1 a0_2 a0_3 a0_4 0 0 0 0 0 0 0 ([] : List (S86)) 0).bind fun t137 => (some t137)) else (some false)) = some r:=H;have A3:=am A30;clear A30
    by_cases c4 : t136 = true
    focus
      subst c4
      have H1 : ((style_SameFill.f k a0_0 a0_1 a0_2 a0_3 a0_4 a0_5 a0_6 a0_7 a0_8 a0_9 a0_10 a0_11 l0_12 a0_13 0 a0_1 a0_2 a0_3 a0_4 0 0 0 0 0 0 0 ([] : List (S86)) 0).bind fun t137 => (some t137)) = some r:=by rw [if_pos rfl] at H;exact H
      clear H;have H:=H1;clear H1;replace H:=Option.bind_eq_some_iff.mp H;obtain ⟨t137,A50,H⟩:=H;replace H : (some t137) = some r:=H;have A5:=am A50;clear A50;obtain rfl:=Option.some.inj H
    rotate_left
    focus
      replace c4:=Bool.eq_false_iff.mpr c4;subst c4
      have H1 : (some false) = some r:=by rw [if_neg (show ¬ (false = true) by decide)] at H;exact H
      clear H;have H:=H1;clear H1;obtain rfl:=Option.some.inj H
  rotate_left 2
  focus
    rw [if_neg c2] at H;have c2b0 : (a0_0 == 0) = false:=beq_eq_false_iff_ne.mpr c2;have c2b1 : (a0_0 != 0) = true:=bne_iff_ne.mpr c2;replace H:=Option.bind_eq_some_iff.mp H;obtain ⟨t138,A140,H⟩:=H;replace H : (if t138 = true then ((field_RightMatrix.f k a0_5 a0_6 a0_7 a0_8 a0_9 a0_10).bind fun t139 => (if t139 = true then (if a0_13 ≥ 0 then (if a0_13 < 65536 then ((style_SameFill.f k a0_0 a0_1 a0_2 a0_3 a0_4 a0_5 a0_6 a0_7 a0_8 a0_9 a0_10 a0_11 l0_12 a0_13 a0_0 0 0 0 0 a0_5 a0_6 a0_7 a0_8 a0_9 a0_10 0 ([] : List (S86)) a0_13).bind fun t140 => (some t140)) else (some false)) else (some false)) else (some false))) else ((style_gradient.f a0_0).bind fun t141 => (if t141 = true then ((style_SameFill.f k a0_0 a0_1 a0_2 a0_3 a0_4 a0_5 a0_6 a0_7 a0_8 a0_9 a0_10 a0_11 l0_12 a0_13 a0_0 0 0 0 0 a0_5 a0_6 a0_7 a0_8 a0_9 a0_10 a0_11 l0_12 0).bind fun t142 => (if t142 = true then (style_RightFill.l0 k 0 l0_12 (l0_12.length : Int) 0 a0_0 a0_1 a0_2 a0_3 a0_4 a0_5 a0_6 a0_7 a0_8 a0_9 a0_10 a0_11 l0_12 a0_13) else (some false))) else (some false)))) = some r:=H;have A14:=am A140;clear A140
    by_cases c15 : t138 = true
    focus
      subst c15
      have H1 : ((field_RightMatrix.f k a0_5 a0_6 a0_7 a0_8 a0_9 a0_10).bind fun t139 => (if t139 = true then (if a0_13 ≥ 0 then (if a0_13 < 65536 then ((style_SameFill.f k a0_0 a0_1 a0_2 a0_3 a0_4 a0_5 a0_6 a0_7 a0_8 a0_9 a0_10 a0_11 l0_12 a0_13 a0_0 0 0 0 0 a0_5 a0_6 a0_7 a0_8 a0_9 a0_10 0 ([] : List (S86)) a0_13).bind fun t140 => (some t140)) else (some false)) else (some false)) else (some false))) = some r:=by rw [if_pos rfl] at H;exact H
      clear H;have H:=H1;clear H1;replace H:=Option.bind_eq_some_iff.mp H;obtain ⟨t139,A160,H⟩:=H;replace H : (if t139 = true then (if a0_13 ≥ 0 then (if a0_13 < 65536 then ((style_SameFill.f k a0_0 a0_1 a0_2 a0_3 a0_4 a0_5 a0_6 a0_7 a0_8 a0_9 a0_10 a0_11 l0_12 a0_13 a0_0 0 0 0 0 a0_5 a0_6 a0_7 a0_8 a0_9 a0_10 0 ([] : List (S86)) a0_13).bind fun t140 => (some t140)) else (some false)) else (some false)) else (some false)) = some r:=H;have A16:=am A160;clear A160
      by_cases c17 : t139 = true
      focus
        subst c17
        have H1 : (if a0_13 ≥ 0 then (if a0_13 < 65536 then ((style_SameFill.f k a0_0 a0_1 a0_2 a0_3 a0_4 a0_5 a0_6 a0_7 a0_8 a0_9 a0_10 a0_11 l0_12 a0_13 a0_0 0 0 0 0 a0_5 a0_6 a0_7 a0_8 a0_9 a0_10 0 ([] : List (S86)) a0_13).bind fun t140 => (some t140)) else (some false)) else (some false)) = some r:=by rw [if_pos rfl] at H;exact H
        clear H;have H:=H1;clear H1
        by_cases c18 : a0_13 ≥ 0
        focus
          rw [if_pos c18] at H;have c18b0 : decide (0 ≤ a0_13) = true:=decide_eq_true c18;clear c18
          by_cases c19 : a0_13 < 65536
          focus
            rw [if_pos c19] at H;have c19b0 : decide (a0_13 < 65536) = true:=decide_eq_true c19;clear c19;replace H:=Option.bind_eq_some_iff.mp H;obtain ⟨t140,A200,H⟩:=H;replace H : (some t140) = some r:=H;have A20:=am A200;clear A200;obtain rfl:=Option.some.inj H
          rotate_left
          focus
            rw [if_neg c19] at H;have c19b0 : decide (a0_13 < 65536) = false:=decide_eq_false c19;clear c19;obtain rfl:=Option.some.inj H
        rotate_left 2
        focus
          rw [if_neg c18] at H;have c18b0 : decide (0 ≤ a0_13) = false:=decide_eq_false c18;clear c18;obtain rfl:=Option.some.inj H
      rotate_left 3
      focus
        replace c17:=Bool.eq_false_iff.mpr c17;subst c17
        have H1 : (some false) = some r:=by rw [if_neg (show ¬ (false = true) by decide)] at H;exact H
        clear H;have H:=H1;clear H1;obtain rfl:=Option.some.inj H
    rotate_left 4
    focus
      replace c15:=Bool.eq_false_iff.mpr c15;subst c15
      have H1 : ((style_gradient.f a0_0).bind fun t141 => (if t141 = true then ((style_SameFill.f k a0_0 a0_1 a0_2 a0_3 a0_4 a0_5 a0_6 a0_7 a0_8 a0_9 a0_10 a0_11 l0_12 a0_13 a0_0 0 0 0 0 a0_5 a0_6 a0_7 a0_8 a0_9 a0_10 a0_11 l0_12 0).bind fun t142 => (if t142 = true then (style_RightFill.l0 k 0 l0_12 (l0_12.length : Int) 0 a0_0 a0_1 a0_2 a0_3 a0_4 a0_5 a0_6 a0_7 a0_8 a0_9 a0_10 a0_11 l0_12 a0_13) else (some false))) else (some false))) = some r:=by rw [if_neg (show ¬ (false = true) by decide)] at H;exact H
      clear H;have H:=H1;clear H1;replace H:=Option.bind_eq_some_iff.mp H;obtain ⟨t141,A370,H⟩:=H;replace H : (if t141 = true then ((style_SameFill.f k a0_0 a0_1 a0_2 a0_3 a0_4 a0_5 a0_6 a0_7 a0_8 a0_9 a0_10 a0_11 l0_12 a0_13 a0_0 0 0 0 0 a0_5 a0_6 a0_7 a0_8 a0_9 a0_10 a0_11 l0_12 0).bind fun t142 => (if t142 = true then (style_RightFill.l0 k 0 l0_12 (l0_12.length : Int) 0 a0_0 a0_1 a0_2 a0_3 a0_4 a0_5 a0_6 a0_7 a0_8 a0_9 a0_10 a0_11 l0_12 a0_13) else (some false))) else (some false)) = some r:=H;have A37:=am A370;clear A370
      by_cases c38 : t141 = true
      focus
        subst c38
        have H1 : ((style_SameFill.f k a0_0 a0_1 a0_2 a0_3 a0_4 a0_5 a0_6 a0_7 a0_8 a0_9 a0_10 a0_11 l0_12 a0_13 a0_0 0 0 0 0 a0_5 a0_6 a0_7 a0_8 a0_9 a0_10 a0_11 l0_12 0).bind fun t142 => (if t142 = true then (style_RightFill.l0 k 0 l0_12 (l0_12.length : Int) 0 a0_0 a0_1 a0_2 a0_3 a0_4 a0_5 a0_6 a0_7 a0_8 a0_9 a0_10 a0_11 l0_12 a0_13) else (some false))) = some r:=by rw [if_pos rfl] at H;exact H
        clear H;have H:=H1;clear H1;replace H:=Option.bind_eq_some_iff.mp H;obtain ⟨t142,A390,H⟩:=H;replace H : (if t142 = true then (style_RightFill.l0 k 0 l0_12 (l0_12.length : Int) 0 a0_0 a0_1 a0_2 a0_3 a0_4 a0_5 a0_6 a0_7 a0_8 a0_9 a0_10 a0_11 l0_12 a0_13) else (some false)) = some r:=H;have A39:=am A390;clear A390
        by_cases c40 : t142 = true
        focus
          subst c40
          have H1 : (style_RightFill.l0 k 0 l0_12 (l0_12.length : Int) 0 a0_0 a0_1 a0_2 a0_3 a0_4 a0_5 a0_6 a0_7 a0_8 a0_9 a0_10 a0_11 l0_12 a0_13) = some r:=by rw [if_pos rfl] at H;exact H
          clear H;have H:=H1;clear H1;have H':=am H;clear H
          go_enter Try.func43,Try.ntmps43
          go_wp2_with (first|((with_reducible refine gate_dst (N:=1) rfl ?_);(try (refine gate_guard (by rfl) ?_;dsimp only));refine box_event ?hg (N:=1) ?hd (cs:=#[.int .i64 a0_0,.int .i64 a0_1,.int .i64 a0_2,.int .i64 a0_3,.int .i64 a0_4,.int .i64 a0_5,.int .i64 a0_6,.int .i64 a0_7,.int .i64 a0_8,.int .i64 a0_9,.int .i64 a0_10,.int .i64 a0_11,.slice A0_12 l0_12.length c0_12,.int .i64 a0_13]) (t:=65) ?hr ?_;(case hd => rfl);(case hg => rfl);(case hr => first|(go_simp;done)|(go_simp;rfl));intro gb135 hg w41 hbox hb;have BK135:=am (hbox);have GW135:=am ((by rw [hg];exact (sz (by repeat (first|(with_reducible first|exact HB.out|apply sa|apply sn|apply sd)|exact HB.out))) : w.heap.size ≤ gb135));have GE135:=am ((by rw [hg];exact (sz (by repeat (first|(with_reducible first|exact HB.out|apply sa|apply sn|apply sd)|exact HB.out))) : w.heap.size ≤ gb135));replace HB:=am (ss (by repeat (first|(with_reducible first|exact HB.out|apply sa|apply sn|apply sd)|exact HB.out)) hb);clear hb hbox hg;obtain ⟨hcz42_0,hcz42_1,hcz42_2,hcz42_3,hcz42_4,hcz42_5,hcz42_6,hcz42_7,hcz42_8,hcz42_9,hcz42_10,hcz42_11,hcz42_12,hcz42_13⟩:=cq14 BK135.out;obtain ⟨hfz42_0,hfz42_1,hfz42_2,hfz42_3,hfz42_4,hfz42_5,hfz42_6,hfz42_7,hfz42_8,hfz42_9,hfz42_10,hfz42_11,hfz42_12,hfz42_13⟩:=fq14 BK135.out)|((with_reducible refine gate_callee (f:=54) rfl ?_);refine goesL_ (some 23) rfl rfl Try.func54 (by kernel_rfl) rfl #[.int .i64 a0_0] rfl (by (try simp only [List.map_toArray,List.map_cons,List.map_nil]);first|done|rfl|(simp only [List.length_drop,List.length_take];rfl)) ?_;(with_reducible refine (style_picture.calls a0_0 false _ A14.out).mono ?_);rintro e w' ⟨rfl,⟨nd,rfl⟩⟩;refine ⟨_,rfl,?_⟩)|((with_reducible refine gate_callee (f:=56) rfl ?_);refine goesL_ (some 51) rfl rfl Try.func56 (by kernel_rfl) rfl #[.int .i64 a0_0] rfl (by (try simp only [List.map_toArray,List.map_cons,List.map_nil]);first|done|rfl|(simp only [List.length_drop,List.length_take];rfl)) ?_;(with_reducible refine (style_gradient.calls a0_0 true _ A37.out).mono ?_);rintro e w' ⟨rfl,⟨nd,rfl⟩⟩;refine ⟨_,rfl,?_⟩)|(go_at_call 53;(with_reducible refine (style_SameFill.calls k a0_0 a0_1 a0_2 a0_3 a0_4 a0_5 a0_6 a0_7 a0_8 a0_9 a0_10 a0_11 _ _ l0_12 a0_13 a0_0 0 0 0 0 a0_5 a0_6 a0_7 a0_8 a0_9 a0_10 a0_11 _ _ l0_12 0 true _ ?side1 ?side2 ?side3 ?side4 A39.out).mono ?_);(case side1 => repeat (first|exact (Kd.C_below HR0_12.out (by repeat (first|(with_reducible first|exact HB.out|apply sa|apply sn|apply sd|refine sx ?_ GE135.out)|exact HB.out)))|(with_reducible refine Kd.C_alloc ?_ _)|(with_reducible refine Kd.C_drewN ?_ _)|(with_reducible refine Kd.C_drew ?_)));(case side2 => exact HC0_12.out);(case side3 => repeat (first|exact (Kd.C_below HR0_12.out (by repeat (first|(with_reducible first|exact HB.out|apply sa|apply sn|apply sd|refine sx ?_ GE135.out)|exact HB.out)))|(with_reducible refine Kd.C_alloc ?_ _)|(with_reducible refine Kd.C_drewN ?_ _)|(with_reducible refine Kd.C_drew ?_)));(case side4 => exact HC0_12.out);rintro e w43 ⟨rfl,hb⟩;replace BK135:=am (bw (by exact BK135.out) hb);replace HB:=am (ss (by repeat (first|(with_reducible first|exact HB.out|apply sa|apply sn|apply sd|refine sx ?_ GE135.out)|exact HB.out)) hb);(try clear hb);(try clear hb2);(try clear hk);(try clear hi);obtain ⟨hcz44_0,hcz44_1,hcz44_2,hcz44_3,hcz44_4,hcz44_5,hcz44_6,hcz44_7,hcz44_8,hcz44_9,hcz44_10,hcz44_11,hcz44_12,hcz44_13⟩:=cq14 BK135.out;obtain ⟨hfz44_0,hfz44_1,hfz44_2,hfz44_3,hfz44_4,hfz44_5,hfz44_6,hfz44_7,hfz44_8,hfz44_9,hfz44_10,hfz44_11,hfz44_12,hfz44_13⟩:=fq14 BK135.out))
          go_loopg [3,70] k (fun kq v3 v70 w' => ∃ (x3_1 : Int) (x70_1 : Int),v3 = .int .i64 x3_1 ∧ v70 = .int .i64 x70_1 ∧ Aside0 (style_RightFill.l0 kq x3_1 l0_12 (l0_12.length : Int) x70_1 a0_0 a0_1 a0_2 a0_3 a0_4 a0_5 a0_6 a0_7 a0_8 a0_9 a0_10 a0_11 l0_12 a0_13 = some r) ∧ Aside0 (kq ≤ k) ∧ Aside0 (w'.heap[gb135]? = some (.cells #[.int .i64 a0_0,.int .i64 a0_1,.int .i64 a0_2,.int .i64 a0_3,.int .i64 a0_4,.int .i64 a0_5,.int .i64 a0_6,.int .i64 a0_7,.int .i64 a0_8,.int .i64 a0_9,.int .i64 a0_10,.int .i64 a0_11,(.slice A0_12 l0_12.length c0_12),.int .i64 a0_13] 65 (0,0))) ∧ Aside0 (Below w.heap.size w w'))
          case atStart => exact ⟨(0),(0),(by first|rfl|(simp;done)|(simp [*];done)),(by first|rfl|(simp;done)|(simp [*];done)),H',⟨Nat.le_refl _⟩,⟨by exact BK135.out⟩,⟨by repeat (first|(with_reducible first|exact HB.out|apply sa|apply sn|apply sd|refine sx ?_ GE135.out)|exact HB.out)⟩⟩
          case round =>
            clear H'
            try clear c1
            try clear c2
            try clear c2b0
            try clear c2b1
            try clear p2
            try clear c3
            try clear c4
            try clear c5
            try clear c15
            try clear c17
            try clear c18
            try clear c18b0
            try clear c19
            try clear c19b0
            try clear c38
            try clear c40
            try clear c43
            try clear hcz12_0
            try clear hcz12_1
            try clear hcz12_10
            try clear hcz12_11
            try clear hcz12_12
            try clear hcz12_13
            try clear hcz12_2
            try clear hcz12_3
            try clear hcz12_4
            try clear hcz12_5
            try clear hcz12_6
            try clear hcz12_7
            try clear hcz12_8
            try clear hcz12_9
            try clear hcz22_0
            try clear hcz22_1
            try clear hcz22_10
            try clear hcz22_11
            try clear hcz22_12
            try clear hcz22_13
            try clear hcz22_2
            try clear hcz22_3
            try clear hcz22_4
            try clear hcz22_5
            try clear hcz22_6
            try clear hcz22_7
            try clear hcz22_8
            try clear hcz22_9
            try clear hcz24_0
            try clear hcz24_1
            try clear hcz24_10
            try clear hcz24_11
            try clear hcz24_12
            try clear hcz24_13
            try clear hcz24_2
            try clear hcz24_3
            try clear hcz24_4
            try clear hcz24_5
            try clear hcz24_6
            try clear hcz24_7
            try clear hcz24_8
            try clear hcz24_9
            try clear hcz27_0
            try clear hcz27_1
            try clear hcz27_10
            try clear hcz27_11
            try clear hcz27_12
            try clear hcz27_13
            try clear hcz27_2
            try clear hcz27_3
            try clear hcz27_4
            try clear hcz27_5
            try clear hcz27_6
            try clear hcz27_7
            try clear hcz27_8
            try clear hcz27_9
            try clear hcz29_0
            try clear hcz29_1
            try clear hcz29_10
            try clear hcz29_11
            try clear hcz29_12
            try clear hcz29_13
            try clear hcz29_2
            try clear hcz29_3
            try clear hcz29_4
            try clear hcz29_5
            try clear hcz29_6
            try clear hcz29_7
            try clear hcz29_8
            try clear hcz29_9
            try clear hcz31_0
            try clear hcz31_1
            try clear hcz31_10
            try clear hcz31_11
            try clear hcz31_12
            try clear hcz31_13
            try clear hcz31_2
            try clear hcz31_3
            try clear hcz31_4
            try clear hcz31_5
            try clear hcz31_6
            try clear hcz31_7
            try clear hcz31_8
            try clear hcz31_9
            try clear hcz33_0
            try clear hcz33_1
            try clear hcz33_10
            try clear hcz33_11
            try clear hcz33_12
            try clear hcz33_13
            try clear hcz33_2
            try clear hcz33_3
            try clear hcz33_4
            try clear hcz33_5
            try clear hcz33_6
            try clear hcz33_7
            try clear hcz33_8
            try clear hcz33_9
            try clear hcz35_0
            try clear hcz35_1
            try clear hcz35_10
            try clear hcz35_11
            try clear hcz35_12
            try clear hcz35_13
            try clear hcz35_2
            try clear hcz35_3
            try clear hcz35_4
            try clear hcz35_5
            try clear hcz35_6
            try clear hcz35_7
            try clear hcz35_8
            try clear hcz35_9
            try clear hcz42_0
            try clear hcz42_1
            try clear hcz42_10
            try clear hcz42_11
            try clear hcz42_12
            try clear hcz42_13
            try clear hcz42_2
            try clear hcz42_3
            try clear hcz42_4
            try clear hcz42_5
            try clear hcz42_6
            try clear hcz42_7
            try clear hcz42_8
            try clear hcz42_9
            try clear hcz44_0
            try clear hcz44_1
            try clear hcz44_10
            try clear hcz44_11
            try clear hcz44_12
            try clear hcz44_13
            try clear hcz44_2
            try clear hcz44_3
            try clear hcz44_4
            try clear hcz44_5
            try clear hcz44_6
            try clear hcz44_7
            try clear hcz44_8
            try clear hcz44_9
            try clear hcz7_0
            try clear hcz7_1
            try clear hcz7_10
            try clear hcz7_11
            try clear hcz7_12
            try clear hcz7_13
            try clear hcz7_2
            try clear hcz7_3
            try clear hcz7_4
            try clear hcz7_5
            try clear hcz7_6
            try clear hcz7_7
            try clear hcz7_8
            try clear hcz7_9
            try clear hcz9_0
            try clear hcz9_1
            try clear hcz9_10
            try clear hcz9_11
            try clear hcz9_12
            try clear hcz9_13
            try clear hcz9_2
            try clear hcz9_3
            try clear hcz9_4
            try clear hcz9_5
            try clear hcz9_6
            try clear hcz9_7
            try clear hcz9_8
            try clear hcz9_9
            try clear hfz12_0
            try clear hfz12_1
            try clear hfz12_10
            try clear hfz12_11
            try clear hfz12_12
            try clear hfz12_13
            try clear hfz12_2
            try clear hfz12_3
            try clear hfz12_4
            try clear hfz12_5
            try clear hfz12_6
            try clear hfz12_7
            try clear hfz12_8
            try clear hfz12_9
            try clear hfz22_0
            try clear hfz22_1
            try clear hfz22_10
            try clear hfz22_11
            try clear hfz22_12
            try clear hfz22_13
            try clear hfz22_2
            try clear hfz22_3
            try clear hfz22_4
            try clear hfz22_5
            try clear hfz22_6
            try clear hfz22_7
            try clear hfz22_8
            try clear hfz22_9
            try clear hfz24_0
            try clear hfz24_1
            try clear hfz24_10
            try clear hfz24_11
            try clear hfz24_12
            try clear hfz24_13
            try clear hfz24_2
            try clear hfz24_3
            try clear hfz24_4
            try clear hfz24_5
            try clear hfz24_6
            try clear hfz24_7
            try clear hfz24_8
            try clear hfz24_9
            try clear hfz27_0
            try clear hfz27_1
            try clear hfz27_10
            try clear hfz27_11
            try clear hfz27_12
            try clear hfz27_13
            try clear hfz27_2
            try clear hfz27_3
            try clear hfz27_4
            try clear hfz27_5
            try clear hfz27_6
            try clear hfz27_7
            try clear hfz27_8
            try clear hfz27_9
            try clear hfz29_0
            try clear hfz29_1
            try clear hfz29_10
            try clear hfz29_11
            try clear hfz29_12
            try clear hfz29_13
            try clear hfz29_2
            try clear hfz29_3
            try clear hfz29_4
            try clear hfz29_5
            try clear hfz29_6
            try clear hfz29_7
            try clear hfz29_8
            try clear hfz29_9
            try clear hfz31_0
            try clear hfz31_1
            try clear hfz31_10
            try clear hfz31_11
            try clear hfz31_12
            try clear hfz31_13
            try clear hfz31_2
            try clear hfz31_3
            try clear hfz31_4
            try clear hfz31_5
            try clear hfz31_6
            try clear hfz31_7
            try clear hfz31_8
            try clear hfz31_9
            try clear hfz33_0
            try clear hfz33_1
            try clear hfz33_10
            try clear hfz33_11
            try clear hfz33_12
            try clear hfz33_13
            try clear hfz33_2
            try clear hfz33_3
            try clear hfz33_4
            try clear hfz33_5
            try clear hfz33_6
            try clear hfz33_7
            try clear hfz33_8
            try clear hfz33_9
            try clear hfz35_0
            try clear hfz35_1
            try clear hfz35_10
            try clear hfz35_11
            try clear hfz35_12
            try clear hfz35_13
            try clear hfz35_2
            try clear hfz35_3
            try clear hfz35_4
            try clear hfz35_5
            try clear hfz35_6
            try clear hfz35_7
            try clear hfz35_8
            try clear hfz35_9
            try clear hfz42_0
            try clear hfz42_1
            try clear hfz42_10
            try clear hfz42_11
            try clear hfz42_12
            try clear hfz42_13
            try clear hfz42_2
            try clear hfz42_3
            try clear hfz42_4
            try clear hfz42_5
            try clear hfz42_6
            try clear hfz42_7
            try clear hfz42_8
            try clear hfz42_9
            try clear hfz44_0
            try clear hfz44_1
            try clear hfz44_10
            try clear hfz44_11
            try clear hfz44_12
            try clear hfz44_13
            try clear hfz44_2
            try clear hfz44_3
            try clear hfz44_4
            try clear hfz44_5
            try clear hfz44_6
            try clear hfz44_7
            try clear hfz44_8
            try clear hfz44_9
            try clear hfz7_0
            try clear hfz7_1
            try clear hfz7_10
            try clear hfz7_11
            try clear hfz7_12
            try clear hfz7_13
            try clear hfz7_2
            try clear hfz7_3
            try clear hfz7_4
            try clear hfz7_5
            try clear hfz7_6
            try clear hfz7_7
            try clear hfz7_8
            try clear hfz7_9
            try clear hfz9_0
            try clear hfz9_1
            try clear hfz9_10
            try clear hfz9_11
            try clear hfz9_12
            try clear hfz9_13
            try clear hfz9_2
            try clear hfz9_3
            try clear hfz9_4
            try clear hfz9_5
            try clear hfz9_6
            try clear hfz9_7
            try clear hfz9_8
            try clear hfz9_9
            obtain ⟨x3_1,x70_1,rfl,rfl,HA,HK1,BK135,HB⟩:=hrel
            cases gk with
            | zero => exact absurd HA.out (by simp [style_RightFill.l0])
            | succ k1 =>
              have H:=HA.out;clear HA;simp only [style_RightFill.l0] at H
              by_cases c45 : x70_1 < (l0_12.length : Int)
              · rw [if_pos c45] at H
                have c45b0 : decide (x70_1 < (l0_12.length : Int)) = true:=decide_eq_true c45;clear c45
                by_cases c46 : 0 ≤ x70_1
                · rw [if_pos c46] at H
                  have c46b0 : decide (0 ≤ x70_1) = true:=decide_eq_true c46;clear c46
                  by_cases c47 : x70_1 < (l0_12.length : Int)
                  · rw [if_pos c47] at H
                    have c47b0 : decide (x70_1 < (l0_12.length : Int)) = true:=decide_eq_true c47;clear c47;replace H:=Option.bind_eq_some_iff.mp H;obtain ⟨t145,A480,H⟩:=H;replace H : (if t145 = true then (style_RightFill.l0 k1 ((rd_T86 l0_12 x70_1).f0) l0_12 (l0_12.length : Int) (wrap64 (x70_1 + 1)) a0_0 a0_1 a0_2 a0_3 a0_4 a0_5 a0_6 a0_7 a0_8 a0_9 a0_10 a0_11 l0_12 a0_13) else (some false)) = some r:=H;have A48:=am A480;clear A480
                    by_cases c49 : t145 = true
                    · subst c49
                      have H1 : (style_RightFill.l0 k1 ((rd_T86 l0_12 x70_1).f0) l0_12 (l0_12.length : Int) (wrap64 (x70_1 + 1)) a0_0 a0_1 a0_2 a0_3 a0_4 a0_5 a0_6 a0_7 a0_8 a0_9 a0_10 a0_11 l0_12 a0_13) = some r:=by rw [if_pos rfl] at H;exact H
                      clear H;have H:=H1;clear H1;have H':=am H;clear H;have p143 : 0 ≤ (x70_1 : Int):=of_decide_eq_true (by first|(with_reducible assumption)|assumption);have q143 : x70_1 < (l0_12.length : Int):=of_decide_eq_true (by first|(with_reducible assumption)|assumption);obtain ⟨ad143,e143,hx143_0,hx143_1,hx143_2,hx143_3,hx143_4⟩:=at_T86 HR0_12.out x70_1 p143 q143
                      cases e143
                      replace hx143_0:=(HB.out.cell (World.block_lt_of_cell? w _ hx143_0)).trans hx143_0;replace hx143_1:=(HB.out.cell (World.block_lt_of_cell? w _ hx143_1)).trans hx143_1;replace hx143_2:=(HB.out.cell (World.block_lt_of_cell? w _ hx143_2)).trans hx143_2;replace hx143_3:=(HB.out.cell (World.block_lt_of_cell? w _ hx143_3)).trans hx143_3;replace hx143_4:=(HB.out.cell (World.block_lt_of_cell? w _ hx143_4)).trans hx143_4;replace p143:=eq_true p143;replace q143:=eq_true q143
                      go_wp2_with (first|((with_reducible refine gate_dst (N:=5) rfl ?_);(try (refine gate_guard (by rfl) ?_;dsimp only));refine box_event ?hg (N:=5) ?hd (cs:=#[.int .i64 0,.int .i64 0,.int .i64 0,.int .i64 0,.int .i64 0]) (t:=86) ?hr ?_;(case hd => rfl);(case hg => rfl);(case hr => first|(go_simp;done)|(go_simp;rfl));intro gb144 hg w50 hbox hb;have BK144:=am (hbox);obtain ⟨h1_,GW144⟩:=sg (by repeat (first|(with_reducible first|exact HB.out|apply sa|apply sn|apply sd|refine sx ?_ GE135.out)|exact HB.out)) hb hg;replace HB:=h1_;clear h1_;have GE144:=GW144;have NB135_144:=nb (by exact BK135.out) hg;have NB144_135:=ng (by exact BK135.out) hg;replace BK135:=am (bw (by exact BK135.out) hb);clear hb hbox hg;have hnb51:=NB144_135.out;have hnc51:=NB135_144.out;obtain ⟨hcz52_0,hcz52_1,hcz52_2,hcz52_3,hcz52_4⟩:=cq5 BK144.out;obtain ⟨hfz52_0,hfz52_1,hfz52_2,hfz52_3,hfz52_4⟩:=fq5 BK144.out)|((with_reducible refine gate_callee (f:=57) rfl ?_);refine goesL_ (some 76) rfl rfl Try.func57 (by kernel_rfl) rfl #[.agg #[.int .i64 ((rd_T86 l0_12 x70_1).f0),.int .i64 ((rd_T86 l0_12 x70_1).f1.f0),.int .i64 ((rd_T86 l0_12 x70_1).f1.f1),.int .i64 ((rd_T86 l0_12 x70_1).f1.f2),.int .i64 ((rd_T86 l0_12 x70_1).f1.f3)],.int .i64 x3_1] rfl (by (try simp only [List.map_toArray,List.map_cons,List.map_nil]);first|done|rfl|(simp only [List.length_drop,List.length_take];rfl)) ?_;(with_reducible refine (style_stop.calls k1 ((rd_T86 l0_12 x70_1).f0) ((rd_T86 l0_12 x70_1).f1.f0) ((rd_T86 l0_12 x70_1).f1.f1) ((rd_T86 l0_12 x70_1).f1.f2) ((rd_T86 l0_12 x70_1).f1.f3) x3_1 true _ A48.out).mono ?_);rintro e w53 ⟨rfl,hb⟩;refine ⟨_,rfl,?_⟩;replace BK135:=am (wz BK135.out (by (with_reducible repeat (first|refine bn ?_ _|refine bd ?_|refine ba ?_ _|refine bf ?_ NB135_144.out _));exact BK135.out) hb);replace BK144:=am (bw (g:=gb144) (o:=.cells #[.int .i64 ((rd_T86 l0_12 x70_1).f0),.int .i64 ((rd_T86 l0_12 x70_1).f1.f0),.int .i64 ((rd_T86 l0_12 x70_1).f1.f1),.int .i64 ((rd_T86 l0_12 x70_1).f1.f2),.int .i64 ((rd_T86 l0_12 x70_1).f1.f3)] 86 (0,0)) (bp5 BK144.out) hb);replace HB:=am (ss (by repeat (first|(with_reducible first|exact HB.out|apply sa|apply sn|apply sd|refine sy ?_ (by assumption))|exact HB.out)) hb);(try clear hb);(try clear hb2);(try clear hk);(try clear hi);obtain ⟨hcz54_0,hcz54_1,hcz54_2,hcz54_3,hcz54_4⟩:=cq5 BK144.out;obtain ⟨hfz54_0,hfz54_1,hfz54_2,hfz54_3,hfz54_4⟩:=fq5 BK144.out))
                      go_roundg k1
                      case measure => have:=HK1.out;omega
                      case rel => exact ⟨((rd_T86 l0_12 x70_1).f0),(wrap64 (x70_1 + 1)),(by first|rfl|(simp;done)|(simp [*];done)),(by first|rfl|(simp;done)|(simp [*];done)),H',⟨by have:=HK1.out;omega⟩,⟨by exact BK135.out⟩,⟨by repeat (first|(with_reducible first|exact HB.out|apply sa|apply sn|apply sd|refine sy ?_ (by assumption))|exact HB.out)⟩⟩
                    · replace c49:=Bool.eq_false_iff.mpr c49
                      subst c49
                      have H1 : (some false) = some r:=by rw [if_neg (show ¬ (false = true) by decide)] at H;exact H
                      clear H;have H:=H1;clear H1;obtain rfl:=Option.some.inj H;have p143 : 0 ≤ (x70_1 : Int):=of_decide_eq_true (by first|(with_reducible assumption)|assumption);have q143 : x70_1 < (l0_12.length : Int):=of_decide_eq_true (by first|(with_reducible assumption)|assumption);obtain ⟨ad143,e143,hx143_0,hx143_1,hx143_2,hx143_3,hx143_4⟩:=at_T86 HR0_12.out x70_1 p143 q143
                      cases e143
                      replace hx143_0:=(HB.out.cell (World.block_lt_of_cell? w _ hx143_0)).trans hx143_0;replace hx143_1:=(HB.out.cell (World.block_lt_of_cell? w _ hx143_1)).trans hx143_1;replace hx143_2:=(HB.out.cell (World.block_lt_of_cell? w _ hx143_2)).trans hx143_2;replace hx143_3:=(HB.out.cell (World.block_lt_of_cell? w _ hx143_3)).trans hx143_3;replace hx143_4:=(HB.out.cell (World.block_lt_of_cell? w _ hx143_4)).trans hx143_4;replace p143:=eq_true p143;replace q143:=eq_true q143
                      go_wp2_with (first|((with_reducible refine gate_dst (N:=5) rfl ?_);(try (refine gate_guard (by rfl) ?_;dsimp only));refine box_event ?hg (N:=5) ?hd (cs:=#[.int .i64 0,.int .i64 0,.int .i64 0,.int .i64 0,.int .i64 0]) (t:=86) ?hr ?_;(case hd => rfl);(case hg => rfl);(case hr => first|(go_simp;done)|(go_simp;rfl));intro gb144 hg w55 hbox hb;have BK144:=am (hbox);obtain ⟨h1_,GW144⟩:=sg (by repeat (first|(with_reducible first|exact HB.out|apply sa|apply sn|apply sd|refine sx ?_ GE135.out)|exact HB.out)) hb hg;replace HB:=h1_;clear h1_;have GE144:=GW144;have NB135_144:=nb (by exact BK135.out) hg;have NB144_135:=ng (by exact BK135.out) hg;replace BK135:=am (bw (by exact BK135.out) hb);clear hb hbox hg;have hnb56:=NB144_135.out;have hnc56:=NB135_144.out;obtain ⟨hcz57_0,hcz57_1,hcz57_2,hcz57_3,hcz57_4⟩:=cq5 BK144.out;obtain ⟨hfz57_0,hfz57_1,hfz57_2,hfz57_3,hfz57_4⟩:=fq5 BK144.out)|((with_reducible refine gate_callee (f:=57) rfl ?_);refine goesL_ (some 76) rfl rfl Try.func57 (by kernel_rfl) rfl #[.agg #[.int .i64 ((rd_T86 l0_12 x70_1).f0),.int .i64 ((rd_T86 l0_12 x70_1).f1.f0),.int .i64 ((rd_T86 l0_12 x70_1).f1.f1),.int .i64 ((rd_T86 l0_12 x70_1).f1.f2),.int .i64 ((rd_T86 l0_12 x70_1).f1.f3)],.int .i64 x3_1] rfl (by (try simp only [List.map_toArray,List.map_cons,List.map_nil]);first|done|rfl|(simp only [List.length_drop,List.length_take];rfl)) ?_;(with_reducible refine (style_stop.calls k1 ((rd_T86 l0_12 x70_1).f0) ((rd_T86 l0_12 x70_1).f1.f0) ((rd_T86 l0_12 x70_1).f1.f1) ((rd_T86 l0_12 x70_1).f1.f2) ((rd_T86 l0_12 x70_1).f1.f3) x3_1 false _ A48.out).mono ?_);rintro e w58 ⟨rfl,hb⟩;refine ⟨_,rfl,?_⟩;replace BK135:=am (wz BK135.out (by (with_reducible repeat (first|refine bn ?_ _|refine bd ?_|refine ba ?_ _|refine bf ?_ NB135_144.out _));exact BK135.out) hb);replace BK144:=am (bw (g:=gb144) (o:=.cells #[.int .i64 ((rd_T86 l0_12 x70_1).f0),.int .i64 ((rd_T86 l0_12 x70_1).f1.f0),.int .i64 ((rd_T86 l0_12 x70_1).f1.f1),.int .i64 ((rd_T86 l0_12 x70_1).f1.f2),.int .i64 ((rd_T86 l0_12 x70_1).f1.f3)] 86 (0,0)) (bp5 BK144.out) hb);replace HB:=am (ss (by repeat (first|(with_reducible first|exact HB.out|apply sa|apply sn|apply sd|refine sy ?_ (by assumption))|exact HB.out)) hb);(try clear hb);(try clear hb2);(try clear hk);(try clear hi)))
                      go_ret
                      exact ⟨by first|rfl|(simp [errW_none,errW_some] <;> rfl)|(simp [*,errW_none,errW_some] <;> rfl),by repeat (first|(with_reducible first|exact HB.out|apply sa|apply sn|apply sd|refine sy ?_ (by assumption))|exact HB.out)⟩
                  · rw [if_neg c47] at H
                    exact absurd H (by simp)
                · rw [if_neg c46] at H
                  exact absurd H (by simp)
              · rw [if_neg c45] at H
                have c45b0 : decide (x70_1 < (l0_12.length : Int)) = false:=decide_eq_false c45;clear c45;replace H:=Option.bind_eq_some_iff.mp H;obtain ⟨t146,A590,H⟩:=H;replace H : (if t146 = true then (if a0_11 ≥ 0 then (if a0_11 ≤ 2 then (if (l0_12.length : Int) ≥ 1 then (some (decide ((l0_12.length : Int) ≤ 8))) else (some false)) else (some false)) else (some false)) else (some false)) = some r:=H;have A59:=am A590;clear A590
                by_cases c60 : t146 = true
                · subst c60
                  have H1 : (if a0_11 ≥ 0 then (if a0_11 ≤ 2 then (if (l0_12.length : Int) ≥ 1 then (some (decide ((l0_12.length : Int) ≤ 8))) else (some false)) else (some false)) else (some false)) = some r:=by rw [if_pos rfl] at H;exact H
                  clear H;have H:=H1;clear H1
                  by_cases c61 : a0_11 ≥ 0
                  · rw [if_pos c61] at H
                    have c61b0 : decide (0 ≤ a0_11) = true:=decide_eq_true c61;clear c61
                    by_cases c62 : a0_11 ≤ 2
                    · rw [if_pos c62] at H
                      have c62b0 : decide (a0_11 ≤ 2) = true:=decide_eq_true c62;clear c62
                      by_cases c63 : (l0_12.length : Int) ≥ 1
                      · rw [if_pos c63] at H
                        have c63b0 : decide (1 ≤ (l0_12.length : Int)) = true:=decide_eq_true c63;have c63b1 : decide (1 ≤ l0_12.length) = true:=decide_eq_true (by omega);clear c63;obtain rfl:=Option.some.inj H;have hcz64_0 : wr.cell? ⟨gb135,0,none⟩ = some (.int .i64 a0_0):=(bc BK135.out 0).trans rfl;have hcz64_1 : wr.cell? ⟨gb135,1,none⟩ = some (.int .i64 a0_1):=(bc BK135.out 1).trans rfl;have hcz64_2 : wr.cell? ⟨gb135,2,none⟩ = some (.int .i64 a0_2):=(bc BK135.out 2).trans rfl;have hcz64_3 : wr.cell? ⟨gb135,3,none⟩ = some (.int .i64 a0_3):=(bc BK135.out 3).trans rfl;have hcz64_4 : wr.cell? ⟨gb135,4,none⟩ = some (.int .i64 a0_4):=(bc BK135.out 4).trans rfl;have hcz64_5 : wr.cell? ⟨gb135,5,none⟩ = some (.int .i64 a0_5):=(bc BK135.out 5).trans rfl;have hcz64_6 : wr.cell? ⟨gb135,6,none⟩ = some (.int .i64 a0_6):=(bc BK135.out 6).trans rfl;have hcz64_7 : wr.cell? ⟨gb135,7,none⟩ = some (.int .i64 a0_7):=(bc BK135.out 7).trans rfl;have hcz64_8 : wr.cell? ⟨gb135,8,none⟩ = some (.int .i64 a0_8):=(bc BK135.out 8).trans rfl;have hcz64_9 : wr.cell? ⟨gb135,9,none⟩ = some (.int .i64 a0_9):=(bc BK135.out 9).trans rfl;have hcz64_10 : wr.cell? ⟨gb135,10,none⟩ = some (.int .i64 a0_10):=(bc BK135.out 10).trans rfl;have hcz64_11 : wr.cell? ⟨gb135,11,none⟩ = some (.int .i64 a0_11):=(bc BK135.out 11).trans rfl;have hcz64_12 : wr.cell? ⟨gb135,12,none⟩ = some (.slice A0_12 l0_12.length c0_12):=(bc BK135.out 12).trans rfl;have hcz64_13 : wr.cell? ⟨gb135,13,none⟩ = some (.int .i64 a0_13):=(bc BK135.out 13).trans rfl;have hfz64_0:=bz BK135.out 0;have hfz64_1:=bz BK135.out 1;have hfz64_2:=bz BK135.out 2;have hfz64_3:=bz BK135.out 3;have hfz64_4:=bz BK135.out 4;have hfz64_5:=bz BK135.out 5;have hfz64_6:=bz BK135.out 6;have hfz64_7:=bz BK135.out 7;have hfz64_8:=bz BK135.out 8;have hfz64_9:=bz BK135.out 9;have hfz64_10:=bz BK135.out 10;have hfz64_11:=bz BK135.out 11;have hfz64_12:=bz BK135.out 12;have hfz64_13:=bz BK135.out 13
                        go_wp2_with (first|((with_reducible refine gate_callee (f:=55) rfl ?_);refine goesL_ (some 83) rfl rfl Try.func55 (by kernel_rfl) rfl #[.agg #[.int .i64 a0_5,.int .i64 a0_6,.int .i64 a0_7,.int .i64 a0_8,.int .i64 a0_9,.int .i64 a0_10]] rfl (by (try simp only [List.map_toArray,List.map_cons,List.map_nil]);first|done|rfl|(simp only [List.length_drop,List.length_take];rfl)) ?_;(with_reducible refine (field_RightMatrix.calls k1 a0_5 a0_6 a0_7 a0_8 a0_9 a0_10 true _ A59.out).mono ?_);rintro e w65 ⟨rfl,hb⟩;refine ⟨_,rfl,?_⟩;replace BK135:=am (bw (by exact BK135.out) hb);replace HB:=am (ss (by repeat (first|(with_reducible first|exact HB.out|apply sa|apply sn|apply sd|refine sx ?_ GE135.out)|exact HB.out)) hb);(try clear hb);(try clear hb2);(try clear hk);(try clear hi);obtain ⟨hcz66_0,hcz66_1,hcz66_2,hcz66_3,hcz66_4,hcz66_5,hcz66_6,hcz66_7,hcz66_8,hcz66_9,hcz66_10,hcz66_11,hcz66_12,hcz66_13⟩:=cq14 BK135.out;obtain ⟨hfz66_0,hfz66_1,hfz66_2,hfz66_3,hfz66_4,hfz66_5,hfz66_6,hfz66_7,hfz66_8,hfz66_9,hfz66_10,hfz66_11,hfz66_12,hfz66_13⟩:=fq14 BK135.out))
                        go_ret
                        exact ⟨by first|rfl|(simp [errW_none,errW_some] <;> rfl)|(simp [*,errW_none,errW_some] <;> rfl),by repeat (first|(with_reducible first|exact HB.out|apply sa|apply sn|apply sd|refine sx ?_ GE135.out)|exact HB.out)⟩
                      · rw [if_neg c63] at H
                        have c63b0 : decide (1 ≤ (l0_12.length : Int)) = false:=decide_eq_false c63;have c63b1 : decide (1 ≤ l0_12.length) = false:=decide_eq_false (by omega);clear c63;obtain rfl:=Option.some.inj H;have hcz67_0 : wr.cell? ⟨gb135,0,none⟩ = some (.int .i64 a0_0):=(bc BK135.out 0).trans rfl;have hcz67_1 : wr.cell? ⟨gb135,1,none⟩ = some (.int .i64 a0_1):=(bc BK135.out 1).trans rfl;have hcz67_2 : wr.cell? ⟨gb135,2,none⟩ = some (.int .i64 a0_2):=(bc BK135.out 2).trans rfl;have hcz67_3 : wr.cell? ⟨gb135,3,none⟩ = some (.int .i64 a0_3):=(bc BK135.out 3).trans rfl;have hcz67_4 : wr.cell? ⟨gb135,4,none⟩ = some (.int .i64 a0_4):=(bc BK135.out 4).trans rfl;have hcz67_5 : wr.cell? ⟨gb135,5,none⟩ = some (.int .i64 a0_5):=(bc BK135.out 5).trans rfl;have hcz67_6 : wr.cell? ⟨gb135,6,none⟩ = some (.int .i64 a0_6):=(bc BK135.out 6).trans rfl;have hcz67_7 : wr.cell? ⟨gb135,7,none⟩ = some (.int .i64 a0_7):=(bc BK135.out 7).trans rfl;have hcz67_8 : wr.cell? ⟨gb135,8,none⟩ = some (.int .i64 a0_8):=(bc BK135.out 8).trans rfl;have hcz67_9 : wr.cell? ⟨gb135,9,none⟩ = some (.int .i64 a0_9):=(bc BK135.out 9).trans rfl;have hcz67_10 : wr.cell? ⟨gb135,10,none⟩ = some (.int .i64 a0_10):=(bc BK135.out 10).trans rfl;have hcz67_11 : wr.cell? ⟨gb135,11,none⟩ = some (.int .i64 a0_11):=(bc BK135.out 11).trans rfl;have hcz67_12 : wr.cell? ⟨gb135,12,none⟩ = some (.slice A0_12 l0_12.length c0_12):=(bc BK135.out 12).trans rfl;have hcz67_13 : wr.cell? ⟨gb135,13,none⟩ = some (.int .i64 a0_13):=(bc BK135.out 13).trans rfl;have hfz67_0:=bz BK135.out 0;have hfz67_1:=bz BK135.out 1;have hfz67_2:=bz BK135.out 2;have hfz67_3:=bz BK135.out 3;have hfz67_4:=bz BK135.out 4;have hfz67_5:=bz BK135.out 5;have hfz67_6:=bz BK135.out 6;have hfz67_7:=bz BK135.out 7;have hfz67_8:=bz BK135.out 8;have hfz67_9:=bz BK135.out 9;have hfz67_10:=bz BK135.out 10;have hfz67_11:=bz BK135.out 11;have hfz67_12:=bz BK135.out 12;have hfz67_13:=bz BK135.out 13
                        go_wp2_with (first|((with_reducible refine gate_callee (f:=55) rfl ?_);refine goesL_ (some 83) rfl rfl Try.func55 (by kernel_rfl) rfl #[.agg #[.int .i64 a0_5,.int .i64 a0_6,.int .i64 a0_7,.int .i64 a0_8,.int .i64 a0_9,.int .i64 a0_10]] rfl (by (try simp only [List.map_toArray,List.map_cons,List.map_nil]);first|done|rfl|(simp only [List.length_drop,List.length_take];rfl)) ?_;(with_reducible refine (field_RightMatrix.calls k1 a0_5 a0_6 a0_7 a0_8 a0_9 a0_10 true _ A59.out).mono ?_);rintro e w68 ⟨rfl,hb⟩;refine ⟨_,rfl,?_⟩;replace BK135:=am (bw (by exact BK135.out) hb);replace HB:=am (ss (by repeat (first|(with_reducible first|exact HB.out|apply sa|apply sn|apply sd|refine sx ?_ GE135.out)|exact HB.out)) hb);(try clear hb);(try clear hb2);(try clear hk);(try clear hi);obtain ⟨hcz69_0,hcz69_1,hcz69_2,hcz69_3,hcz69_4,hcz69_5,hcz69_6,hcz69_7,hcz69_8,hcz69_9,hcz69_10,hcz69_11,hcz69_12,hcz69_13⟩:=cq14 BK135.out;obtain ⟨hfz69_0,hfz69_1,hfz69_2,hfz69_3,hfz69_4,hfz69_5,hfz69_6,hfz69_7,hfz69_8,hfz69_9,hfz69_10,hfz69_11,hfz69_12,hfz69_13⟩:=fq14 BK135.out))
                        go_ret
                        exact ⟨by first|rfl|(simp [errW_none,errW_some] <;> rfl)|(simp [*,errW_none,errW_some] <;> rfl),by repeat (first|(with_reducible first|exact HB.out|apply sa|apply sn|apply sd|refine sx ?_ GE135.out)|exact HB.out)⟩
                    · rw [if_neg c62] at H
                      have c62b0 : decide (a0_11 ≤ 2) = false:=decide_eq_false c62;clear c62;obtain rfl:=Option.some.inj H;have hcz70_0 : wr.cell? ⟨gb135,0,none⟩ = some (.int .i64 a0_0):=(bc BK135.out 0).trans rfl;have hcz70_1 : wr.cell? ⟨gb135,1,none⟩ = some (.int .i64 a0_1):=(bc BK135.out 1).trans rfl;have hcz70_2 : wr.cell? ⟨gb135,2,none⟩ = some (.int .i64 a0_2):=(bc BK135.out 2).trans rfl;have hcz70_3 : wr.cell? ⟨gb135,3,none⟩ = some (.int .i64 a0_3):=(bc BK135.out 3).trans rfl;have hcz70_4 : wr.cell? ⟨gb135,4,none⟩ = some (.int .i64 a0_4):=(bc BK135.out 4).trans rfl;have hcz70_5 : wr.cell? ⟨gb135,5,none⟩ = some (.int .i64 a0_5):=(bc BK135.out 5).trans rfl;have hcz70_6 : wr.cell? ⟨gb135,6,none⟩ = some (.int .i64 a0_6):=(bc BK135.out 6).trans rfl;have hcz70_7 : wr.cell? ⟨gb135,7,none⟩ = some (.int .i64 a0_7):=(bc BK135.out 7).trans rfl;have hcz70_8 : wr.cell? ⟨gb135,8,none⟩ = some (.int .i64 a0_8):=(bc BK135.out 8).trans rfl;have hcz70_9 : wr.cell? ⟨gb135,9,none⟩ = some (.int .i64 a0_9):=(bc BK135.out 9).trans rfl;have hcz70_10 : wr.cell? ⟨gb135,10,none⟩ = some (.int .i64 a0_10):=(bc BK135.out 10).trans rfl;have hcz70_11 : wr.cell? ⟨gb135,11,none⟩ = some (.int .i64 a0_11):=(bc BK135.out 11).trans rfl;have hcz70_12 : wr.cell? ⟨gb135,12,none⟩ = some (.slice A0_12 l0_12.length c0_12):=(bc BK135.out 12).trans rfl;have hcz70_13 : wr.cell? ⟨gb135,13,none⟩ = some (.int .i64 a0_13):=(bc BK135.out 13).trans rfl;have hfz70_0:=bz BK135.out 0;have hfz70_1:=bz BK135.out 1;have hfz70_2:=bz BK135.out 2;have hfz70_3:=bz BK135.out 3;have hfz70_4:=bz BK135.out 4;have hfz70_5:=bz BK135.out 5;have hfz70_6:=bz BK135.out 6;have hfz70_7:=bz BK135.out 7;have hfz70_8:=bz BK135.out 8;have hfz70_9:=bz BK135.out 9;have hfz70_10:=bz BK135.out 10;have hfz70_11:=bz BK135.out 11;have hfz70_12:=bz BK135.out 12;have hfz70_13:=bz BK135.out 13
                      go_wp2_with (first|((with_reducible refine gate_callee (f:=55) rfl ?_);refine goesL_ (some 83) rfl rfl Try.func55 (by kernel_rfl) rfl #[.agg #[.int .i64 a0_5,.int .i64 a0_6,.int .i64 a0_7,.int .i64 a0_8,.int .i64 a0_9,.int .i64 a0_10]] rfl (by (try simp only [List.map_toArray,List.map_cons,List.map_nil]);first|done|rfl|(simp only [List.length_drop,List.length_take];rfl)) ?_;(with_reducible refine (field_RightMatrix.calls k1 a0_5 a0_6 a0_7 a0_8 a0_9 a0_10 true _ A59.out).mono ?_);rintro e w71 ⟨rfl,hb⟩;refine ⟨_,rfl,?_⟩;replace BK135:=am (bw (by exact BK135.out) hb);replace HB:=am (ss (by repeat (first|(with_reducible first|exact HB.out|apply sa|apply sn|apply sd|refine sx ?_ GE135.out)|exact HB.out)) hb);(try clear hb);(try clear hb2);(try clear hk);(try clear hi);obtain ⟨hcz72_0,hcz72_1,hcz72_2,hcz72_3,hcz72_4,hcz72_5,hcz72_6,hcz72_7,hcz72_8,hcz72_9,hcz72_10,hcz72_11,hcz72_12,hcz72_13⟩:=cq14 BK135.out;obtain ⟨hfz72_0,hfz72_1,hfz72_2,hfz72_3,hfz72_4,hfz72_5,hfz72_6,hfz72_7,hfz72_8,hfz72_9,hfz72_10,hfz72_11,hfz72_12,hfz72_13⟩:=fq14 BK135.out))
                      go_ret
                      exact ⟨by first|rfl|(simp [errW_none,errW_some] <;> rfl)|(simp [*,errW_none,errW_some] <;> rfl),by repeat (first|(with_reducible first|exact HB.out|apply sa|apply sn|apply sd|refine sx ?_ GE135.out)|exact HB.out)⟩
                  · rw [if_neg c61] at H
                    have c61b0 : decide (0 ≤ a0_11) = false:=decide_eq_false c61;clear c61;obtain rfl:=Option.some.inj H;have hcz73_0 : wr.cell? ⟨gb135,0,none⟩ = some (.int .i64 a0_0):=(bc BK135.out 0).trans rfl;have hcz73_1 : wr.cell? ⟨gb135,1,none⟩ = some (.int .i64 a0_1):=(bc BK135.out 1).trans rfl;have hcz73_2 : wr.cell? ⟨gb135,2,none⟩ = some (.int .i64 a0_2):=(bc BK135.out 2).trans rfl;have hcz73_3 : wr.cell? ⟨gb135,3,none⟩ = some (.int .i64 a0_3):=(bc BK135.out 3).trans rfl;have hcz73_4 : wr.cell? ⟨gb135,4,none⟩ = some (.int .i64 a0_4):=(bc BK135.out 4).trans rfl;have hcz73_5 : wr.cell? ⟨gb135,5,none⟩ = some (.int .i64 a0_5):=(bc BK135.out 5).trans rfl;have hcz73_6 : wr.cell? ⟨gb135,6,none⟩ = some (.int .i64 a0_6):=(bc BK135.out 6).trans rfl;have hcz73_7 : wr.cell? ⟨gb135,7,none⟩ = some (.int .i64 a0_7):=(bc BK135.out 7).trans rfl;have hcz73_8 : wr.cell? ⟨gb135,8,none⟩ = some (.int .i64 a0_8):=(bc BK135.out 8).trans rfl;have hcz73_9 : wr.cell? ⟨gb135,9,none⟩ = some (.int .i64 a0_9):=(bc BK135.out 9).trans rfl;have hcz73_10 : wr.cell? ⟨gb135,10,none⟩ = some (.int .i64 a0_10):=(bc BK135.out 10).trans rfl;have hcz73_11 : wr.cell? ⟨gb135,11,none⟩ = some (.int .i64 a0_11):=(bc BK135.out 11).trans rfl;have hcz73_12 : wr.cell? ⟨gb135,12,none⟩ = some (.slice A0_12 l0_12.length c0_12):=(bc BK135.out 12).trans rfl;have hcz73_13 : wr.cell? ⟨gb135,13,none⟩ = some (.int .i64 a0_13):=(bc BK135.out 13).trans rfl;have hfz73_0:=bz BK135.out 0;have hfz73_1:=bz BK135.out 1;have hfz73_2:=bz BK135.out 2;have hfz73_3:=bz BK135.out 3;have hfz73_4:=bz BK135.out 4;have hfz73_5:=bz BK135.out 5;have hfz73_6:=bz BK135.out 6;have hfz73_7:=bz BK135.out 7;have hfz73_8:=bz BK135.out 8;have hfz73_9:=bz BK135.out 9;have hfz73_10:=bz BK135.out 10;have hfz73_11:=bz BK135.out 11;have hfz73_12:=bz BK135.out 12;have hfz73_13:=bz BK135.out 13
                    go_wp2_with (first|((with_reducible refine gate_callee (f:=55) rfl ?_);refine goesL_ (some 83) rfl rfl Try.func55 (by kernel_rfl) rfl #[.agg #[.int .i64 a0_5,.int .i64 a0_6,.int .i64 a0_7,.int .i64 a0_8,.int .i64 a0_9,.int .i64 a0_10]] rfl (by (try simp only [List.map_toArray,List.map_cons,List.map_nil]);first|done|rfl|(simp only [List.length_drop,List.length_take];rfl)) ?_;(with_reducible refine (field_RightMatrix.calls k1 a0_5 a0_6 a0_7 a0_8 a0_9 a0_10 true _ A59.out).mono ?_);rintro e w74 ⟨rfl,hb⟩;refine ⟨_,rfl,?_⟩;replace BK135:=am (bw (by exact BK135.out) hb);replace HB:=am (ss (by repeat (first|(with_reducible first|exact HB.out|apply sa|apply sn|apply sd|refine sx ?_ GE135.out)|exact HB.out)) hb);(try clear hb);(try clear hb2);(try clear hk);(try clear hi);obtain ⟨hcz75_0,hcz75_1,hcz75_2,hcz75_3,hcz75_4,hcz75_5,hcz75_6,hcz75_7,hcz75_8,hcz75_9,hcz75_10,hcz75_11,hcz75_12,hcz75_13⟩:=cq14 BK135.out;obtain ⟨hfz75_0,hfz75_1,hfz75_2,hfz75_3,hfz75_4,hfz75_5,hfz75_6,hfz75_7,hfz75_8,hfz75_9,hfz75_10,hfz75_11,hfz75_12,hfz75_13⟩:=fq14 BK135.out))
                    go_ret
                    exact ⟨by first|rfl|(simp [errW_none,errW_some] <;> rfl)|(simp [*,errW_none,errW_some] <;> rfl),by repeat (first|(with_reducible first|exact HB.out|apply sa|apply sn|apply sd|refine sx ?_ GE135.out)|exact HB.out)⟩
                · replace c60:=Bool.eq_false_iff.mpr c60
                  subst c60
                  have H1 : (some false) = some r:=by rw [if_neg (show ¬ (false = true) by decide)] at H;exact H
                  clear H;have H:=H1;clear H1;obtain rfl:=Option.some.inj H;have hcz76_0 : wr.cell? ⟨gb135,0,none⟩ = some (.int .i64 a0_0):=(bc BK135.out 0).trans rfl;have hcz76_1 : wr.cell? ⟨gb135,1,none⟩ = some (.int .i64 a0_1):=(bc BK135.out 1).trans rfl;have hcz76_2 : wr.cell? ⟨gb135,2,none⟩ = some (.int .i64 a0_2):=(bc BK135.out 2).trans rfl;have hcz76_3 : wr.cell? ⟨gb135,3,none⟩ = some (.int .i64 a0_3):=(bc BK135.out 3).trans rfl;have hcz76_4 : wr.cell? ⟨gb135,4,none⟩ = some (.int .i64 a0_4):=(bc BK135.out 4).trans rfl;have hcz76_5 : wr.cell? ⟨gb135,5,none⟩ = some (.int .i64 a0_5):=(bc BK135.out 5).trans rfl;have hcz76_6 : wr.cell? ⟨gb135,6,none⟩ = some (.int .i64 a0_6):=(bc BK135.out 6).trans rfl;have hcz76_7 : wr.cell? ⟨gb135,7,none⟩ = some (.int .i64 a0_7):=(bc BK135.out 7).trans rfl;have hcz76_8 : wr.cell? ⟨gb135,8,none⟩ = some (.int .i64 a0_8):=(bc BK135.out 8).trans rfl;have hcz76_9 : wr.cell? ⟨gb135,9,none⟩ = some (.int .i64 a0_9):=(bc BK135.out 9).trans rfl;have hcz76_10 : wr.cell? ⟨gb135,10,none⟩ = some (.int .i64 a0_10):=(bc BK135.out 10).trans rfl;have hcz76_11 : wr.cell? ⟨gb135,11,none⟩ = some (.int .i64 a0_11):=(bc BK135.out 11).trans rfl;have hcz76_12 : wr.cell? ⟨gb135,12,none⟩ = some (.slice A0_12 l0_12.length c0_12):=(bc BK135.out 12).trans rfl;have hcz76_13 : wr.cell? ⟨gb135,13,none⟩ = some (.int .i64 a0_13):=(bc BK135.out 13).trans rfl;have hfz76_0:=bz BK135.out 0;have hfz76_1:=bz BK135.out 1;have hfz76_2:=bz BK135.out 2;have hfz76_3:=bz BK135.out 3;have hfz76_4:=bz BK135.out 4;have hfz76_5:=bz BK135.out 5;have hfz76_6:=bz BK135.out 6;have hfz76_7:=bz BK135.out 7;have hfz76_8:=bz BK135.out 8;have hfz76_9:=bz BK135.out 9;have hfz76_10:=bz BK135.out 10;have hfz76_11:=bz BK135.out 11;have hfz76_12:=bz BK135.out 12;have hfz76_13:=bz BK135.out 13
                  go_wp2_with (first|((with_reducible refine gate_callee (f:=55) rfl ?_);refine goesL_ (some 83) rfl rfl Try.func55 (by kernel_rfl) rfl #[.agg #[.int .i64 a0_5,.int .i64 a0_6,.int .i64 a0_7,.int .i64 a0_8,.int .i64 a0_9,.int .i64 a0_10]] rfl (by (try simp only [List.map_toArray,List.map_cons,List.map_nil]);first|done|rfl|(simp only [List.length_drop,List.length_take];rfl)) ?_;(with_reducible refine (field_RightMatrix.calls k1 a0_5 a0_6 a0_7 a0_8 a0_9 a0_10 false _ A59.out).mono ?_);rintro e w77 ⟨rfl,hb⟩;refine ⟨_,rfl,?_⟩;replace BK135:=am (bw (by exact BK135.out) hb);replace HB:=am (ss (by repeat (first|(with_reducible first|exact HB.out|apply sa|apply sn|apply sd|refine sx ?_ GE135.out)|exact HB.out)) hb);(try clear hb);(try clear hb2);(try clear hk);(try clear hi)))
                  go_ret
                  exact ⟨by first|rfl|(simp [errW_none,errW_some] <;> rfl)|(simp [*,errW_none,errW_some] <;> rfl),by repeat (first|(with_reducible first|exact HB.out|apply sa|apply sn|apply sd|refine sx ?_ GE135.out)|exact HB.out)⟩
        focus
          replace c40:=Bool.eq_false_iff.mpr c40;subst c40
          have H1 : (some false) = some r:=by rw [if_neg (show ¬ (false = true) by decide)] at H;exact H
          clear H;have H:=H1;clear H1;obtain rfl:=Option.some.inj H
      rotate_left
      focus
        replace c38:=Bool.eq_false_iff.mpr c38;subst c38
        have H1 : (some false) = some r:=by rw [if_neg (show ¬ (false = true) by decide)] at H;exact H
        clear H;have H:=H1;clear H1;obtain rfl:=Option.some.inj H
  all_goals
    go_enter Try.func43,Try.ntmps43
    go_wp2_with (first|((with_reducible refine gate_dst (N:=1) rfl ?_);(try (refine gate_guard (by rfl) ?_;dsimp only));refine box_event ?hg (N:=1) ?hd (cs:=#[.int .i64 a0_0,.int .i64 a0_1,.int .i64 a0_2,.int .i64 a0_3,.int .i64 a0_4,.int .i64 a0_5,.int .i64 a0_6,.int .i64 a0_7,.int .i64 a0_8,.int .i64 a0_9,.int .i64 a0_10,.int .i64 a0_11,.slice A0_12 l0_12.length c0_12,.int .i64 a0_13]) (t:=65) ?hr ?_;(case hd => rfl);(case hg => rfl);(case hr => first|(go_simp;done)|(go_simp;rfl));intro gbz1 hg wz1 hbox hb;have nz1_:=am (ss (by repeat (first|(with_reducible first|exact HB.out|apply sa|apply sn|apply sd)|exact HB.out)) hb);have nz2_:=am (hbox);have nz3_:=am ((by rw [hg];exact (sz (by repeat (first|(with_reducible first|exact HB.out|apply sa|apply sn|apply sd)|exact HB.out))) : w.heap.size ≤ gbz1));have nz4_:=am ((by rw [hg];exact (sz (by repeat (first|(with_reducible first|exact HB.out|apply sa|apply sn|apply sd)|exact HB.out))) : w.heap.size ≤ gbz1));clear HB;have HB:=nz1_;have BKz1:=nz2_;have GWz1:=nz3_;have GEz1:=nz4_;clear nz1_ nz2_ nz3_ nz4_;clear hb hbox hg;have hczz1_0 : wz1.cell? ⟨gbz1,0,none⟩ = some (.int .i64 a0_0):=(bc BKz1.out 0).trans rfl;have hczz1_1 : wz1.cell? ⟨gbz1,1,none⟩ = some (.int .i64 a0_1):=(bc BKz1.out 1).trans rfl;have hczz1_2 : wz1.cell? ⟨gbz1,2,none⟩ = some (.int .i64 a0_2):=(bc BKz1.out 2).trans rfl;have hczz1_3 : wz1.cell? ⟨gbz1,3,none⟩ = some (.int .i64 a0_3):=(bc BKz1.out 3).trans rfl;have hczz1_4 : wz1.cell? ⟨gbz1,4,none⟩ = some (.int .i64 a0_4):=(bc BKz1.out 4).trans rfl;have hczz1_5 : wz1.cell? ⟨gbz1,5,none⟩ = some (.int .i64 a0_5):=(bc BKz1.out 5).trans rfl;have hczz1_6 : wz1.cell? ⟨gbz1,6,none⟩ = some (.int .i64 a0_6):=(bc BKz1.out 6).trans rfl;have hczz1_7 : wz1.cell? ⟨gbz1,7,none⟩ = some (.int .i64 a0_7):=(bc BKz1.out 7).trans rfl;have hczz1_8 : wz1.cell? ⟨gbz1,8,none⟩ = some (.int .i64 a0_8):=(bc BKz1.out 8).trans rfl;have hczz1_9 : wz1.cell? ⟨gbz1,9,none⟩ = some (.int .i64 a0_9):=(bc BKz1.out 9).trans rfl;have hczz1_10 : wz1.cell? ⟨gbz1,10,none⟩ = some (.int .i64 a0_10):=(bc BKz1.out 10).trans rfl;have hczz1_11 : wz1.cell? ⟨gbz1,11,none⟩ = some (.int .i64 a0_11):=(bc BKz1.out 11).trans rfl;have hczz1_12 : wz1.cell? ⟨gbz1,12,none⟩ = some (.slice A0_12 l0_12.length c0_12):=(bc BKz1.out 12).trans rfl;have hczz1_13 : wz1.cell? ⟨gbz1,13,none⟩ = some (.int .i64 a0_13):=(bc BKz1.out 13).trans rfl;have hfzz1_0:=bz BKz1.out 0;have hfzz1_1:=bz BKz1.out 1;have hfzz1_2:=bz BKz1.out 2;have hfzz1_3:=bz BKz1.out 3;have hfzz1_4:=bz BKz1.out 4;have hfzz1_5:=bz BKz1.out 5;have hfzz1_6:=bz BKz1.out 6;have hfzz1_7:=bz BKz1.out 7;have hfzz1_8:=bz BKz1.out 8;have hfzz1_9:=bz BKz1.out 9;have hfzz1_10:=bz BKz1.out 10;have hfzz1_11:=bz BKz1.out 11;have hfzz1_12:=bz BKz1.out 12;have hfzz1_13:=bz BKz1.out 13)|((with_reducible refine gate_callee (f:=52) rfl ?_);refine goesL_ (some 12) rfl rfl Try.func52 (by kernel_rfl) rfl #[.agg #[.int .i64 a0_1,.int .i64 a0_2,.int .i64 a0_3,.int .i64 a0_4]] rfl (by (try simp only [List.map_toArray,List.map_cons,List.map_nil]);first|done|rfl|(simp only [List.length_drop,List.length_take];rfl)) ?_;(with_reducible refine (field_RightRGBA.calls k a0_1 a0_2 a0_3 a0_4 true _ A3.out).mono ?_);rintro e wz2 ⟨rfl,hb⟩;refine ⟨_,rfl,?_⟩;have nz1_:=am (bw (by exact BKz1.out) hb);have nz2_:=am (ss (by repeat (first|(with_reducible first|exact HB.out|apply sa|apply sn|apply sd|refine sx ?_ GEz1.out)|exact HB.out)) hb);clear BKz1;clear HB;have BKz1:=nz1_;have HB:=nz2_;clear nz1_ nz2_;(try clear hb);(try clear hb2);(try clear hk);(try clear hi);have hczz2_0 : wz2.cell? ⟨gbz1,0,none⟩ = some (.int .i64 a0_0):=(bc BKz1.out 0).trans rfl;have hczz2_1 : wz2.cell? ⟨gbz1,1,none⟩ = some (.int .i64 a0_1):=(bc BKz1.out 1).trans rfl;have hczz2_2 : wz2.cell? ⟨gbz1,2,none⟩ = some (.int .i64 a0_2):=(bc BKz1.out 2).trans rfl;have hczz2_3 : wz2.cell? ⟨gbz1,3,none⟩ = some (.int .i64 a0_3):=(bc BKz1.out 3).trans rfl;have hczz2_4 : wz2.cell? ⟨gbz1,4,none⟩ = some (.int .i64 a0_4):=(bc BKz1.out 4).trans rfl;have hczz2_5 : wz2.cell? ⟨gbz1,5,none⟩ = some (.int .i64 a0_5):=(bc BKz1.out 5).trans rfl;have hczz2_6 : wz2.cell? ⟨gbz1,6,none⟩ = some (.int .i64 a0_6):=(bc BKz1.out 6).trans rfl;have hczz2_7 : wz2.cell? ⟨gbz1,7,none⟩ = some (.int .i64 a0_7):=(bc BKz1.out 7).trans rfl;have hczz2_8 : wz2.cell? ⟨gbz1,8,none⟩ = some (.int .i64 a0_8):=(bc BKz1.out 8).trans rfl;have hczz2_9 : wz2.cell? ⟨gbz1,9,none⟩ = some (.int .i64 a0_9):=(bc BKz1.out 9).trans rfl;have hczz2_10 : wz2.cell? ⟨gbz1,10,none⟩ = some (.int .i64 a0_10):=(bc BKz1.out 10).trans rfl;have hczz2_11 : wz2.cell? ⟨gbz1,11,none⟩ = some (.int .i64 a0_11):=(bc BKz1.out 11).trans rfl;have hczz2_12 : wz2.cell? ⟨gbz1,12,none⟩ = some (.slice A0_12 l0_12.length c0_12):=(bc BKz1.out 12).trans rfl;have hczz2_13 : wz2.cell? ⟨gbz1,13,none⟩ = some (.int .i64 a0_13):=(bc BKz1.out 13).trans rfl;have hfzz2_0:=bz BKz1.out 0;have hfzz2_1:=bz BKz1.out 1;have hfzz2_2:=bz BKz1.out 2;have hfzz2_3:=bz BKz1.out 3;have hfzz2_4:=bz BKz1.out 4;have hfzz2_5:=bz BKz1.out 5;have hfzz2_6:=bz BKz1.out 6;have hfzz2_7:=bz BKz1.out 7;have hfzz2_8:=bz BKz1.out 8;have hfzz2_9:=bz BKz1.out 9;have hfzz2_10:=bz BKz1.out 10;have hfzz2_11:=bz BKz1.out 11;have hfzz2_12:=bz BKz1.out 12;have hfzz2_13:=bz BKz1.out 13)|(go_at_call 53;(refine (style_SameFill.calls k a0_0 a0_1 a0_2 a0_3 a0_4 a0_5 a0_6 a0_7 a0_8 a0_9 a0_10 a0_11 _ _ l0_12 a0_13 0 a0_1 a0_2 a0_3 a0_4 0 0 0 0 0 0 0 _ _ ([] : List (S86)) 0 t137 _ ?side1 ?side2 ?side3 ?side4 A5.out).mono ?_);(case side1 => repeat (first|exact (Kd.C_below HR0_12.out HB.out)|(with_reducible refine Kd.C_alloc ?_ _)|(with_reducible refine Kd.C_drewN ?_ _)|(with_reducible refine Kd.C_drew ?_)));(case side2 => exact HC0_12.out);(case side3 => exact Kd.C_nil _ _);(case side4 => exact Nat.le_refl _);rintro e wz3 ⟨rfl,hb⟩;have nz1_:=am (bw (by exact BKz1.out) hb);have nz2_:=am (ss (by repeat (first|(with_reducible first|exact HB.out|apply sa|apply sn|apply sd|refine sx ?_ GEz1.out)|exact HB.out)) hb);clear BKz1;clear HB;have BKz1:=nz1_;have HB:=nz2_;clear nz1_ nz2_;(try clear hb);(try clear hb2);(try clear hk);(try clear hi))|((with_reducible refine gate_callee (f:=52) rfl ?_);refine goesL_ (some 12) rfl rfl Try.func52 (by kernel_rfl) rfl #[.agg #[.int .i64 a0_1,.int .i64 a0_2,.int .i64 a0_3,.int .i64 a0_4]] rfl (by (try simp only [List.map_toArray,List.map_cons,List.map_nil]);first|done|rfl|(simp only [List.length_drop,List.length_take];rfl)) ?_;(with_reducible refine (field_RightRGBA.calls k a0_1 a0_2 a0_3 a0_4 false _ A3.out).mono ?_);rintro e wz2 ⟨rfl,hb⟩;refine ⟨_,rfl,?_⟩;have nz1_:=am (bw (by exact BKz1.out) hb);have nz2_:=am (ss (by repeat (first|(with_reducible first|exact HB.out|apply sa|apply sn|apply sd|refine sx ?_ GEz1.out)|exact HB.out)) hb);clear BKz1;clear HB;have BKz1:=nz1_;have HB:=nz2_;clear nz1_ nz2_;(try clear hb);(try clear hb2);(try clear hk);(try clear hi))|((with_reducible refine gate_callee (f:=54) rfl ?_);refine goesL_ (some 23) rfl rfl Try.func54 (by kernel_rfl) rfl #[.int .i64 a0_0] rfl (by (try simp only [List.map_toArray,List.map_cons,List.map_nil]);first|done|rfl|(simp only [List.length_drop,List.length_take];rfl)) ?_;(with_reducible refine (style_picture.calls a0_0 true _ A14.out).mono ?_);rintro e w' ⟨rfl,⟨nd,rfl⟩⟩;refine ⟨_,rfl,?_⟩)|((with_reducible refine gate_callee (f:=55) rfl ?_);refine goesL_ (some 26) rfl rfl Try.func55 (by kernel_rfl) rfl #[.agg #[.int .i64 a0_5,.int .i64 a0_6,.int .i64 a0_7,.int .i64 a0_8,.int .i64 a0_9,.int .i64 a0_10]] rfl (by (try simp only [List.map_toArray,List.map_cons,List.map_nil]);first|done|rfl|(simp only [List.length_drop,List.length_take];rfl)) ?_;(with_reducible refine (field_RightMatrix.calls k a0_5 a0_6 a0_7 a0_8 a0_9 a0_10 true _ A16.out).mono ?_);rintro e wz2 ⟨rfl,hb⟩;refine ⟨_,rfl,?_⟩;have nz1_:=am (bw (by exact BKz1.out) hb);have nz2_:=am (ss (by repeat (first|(with_reducible first|exact HB.out|apply sa|apply sn|apply sd|refine sx ?_ GEz1.out)|exact HB.out)) hb);clear BKz1;clear HB;have BKz1:=nz1_;have HB:=nz2_;clear nz1_ nz2_;(try clear hb);(try clear hb2);(try clear hk);(try clear hi);have hczz2_0 : wz2.cell? ⟨gbz1,0,none⟩ = some (.int .i64 a0_0):=(bc BKz1.out 0).trans rfl;have hczz2_1 : wz2.cell? ⟨gbz1,1,none⟩ = some (.int .i64 a0_1):=(bc BKz1.out 1).trans rfl;have hczz2_2 : wz2.cell? ⟨gbz1,2,none⟩ = some (.int .i64 a0_2):=(bc BKz1.out 2).trans rfl;have hczz2_3 : wz2.cell? ⟨gbz1,3,none⟩ = some (.int .i64 a0_3):=(bc BKz1.out 3).trans rfl;have hczz2_4 : wz2.cell? ⟨gbz1,4,none⟩ = some (.int .i64 a0_4):=(bc BKz1.out 4).trans rfl;have hczz2_5 : wz2.cell? ⟨gbz1,5,none⟩ = some (.int .i64 a0_5):=(bc BKz1.out 5).trans rfl;have hczz2_6 : wz2.cell? ⟨gbz1,6,none⟩ = some (.int .i64 a0_6):=(bc BKz1.out 6).trans rfl;have hczz2_7 : wz2.cell? ⟨gbz1,7,none⟩ = some (.int .i64 a0_7):=(bc BKz1.out 7).trans rfl;have hczz2_8 : wz2.cell? ⟨gbz1,8,none⟩ = some (.int .i64 a0_8):=(bc BKz1.out 8).trans rfl;have hczz2_9 : wz2.cell? ⟨gbz1,9,none⟩ = some (.int .i64 a0_9):=(bc BKz1.out 9).trans rfl;have hczz2_10 : wz2.cell? ⟨gbz1,10,none⟩ = some (.int .i64 a0_10):=(bc BKz1.out 10).trans rfl;have hczz2_11 : wz2.cell? ⟨gbz1,11,none⟩ = some (.int .i64 a0_11):=(bc BKz1.out 11).trans rfl;have hczz2_12 : wz2.cell? ⟨gbz1,12,none⟩ = some (.slice A0_12 l0_12.length c0_12):=(bc BKz1.out 12).trans rfl;have hczz2_13 : wz2.cell? ⟨gbz1,13,none⟩ = some (.int .i64 a0_13):=(bc BKz1.out 13).trans rfl;have hfzz2_0:=bz BKz1.out 0;have hfzz2_1:=bz BKz1.out 1;have hfzz2_2:=bz BKz1.out 2;have hfzz2_3:=bz BKz1.out 3;have hfzz2_4:=bz BKz1.out 4;have hfzz2_5:=bz BKz1.out 5;have hfzz2_6:=bz BKz1.out 6;have hfzz2_7:=bz BKz1.out 7;have hfzz2_8:=bz BKz1.out 8;have hfzz2_9:=bz BKz1.out 9;have hfzz2_10:=bz BKz1.out 10;have hfzz2_11:=bz BKz1.out 11;have hfzz2_12:=bz BKz1.out 12;have hfzz2_13:=bz BKz1.out 13)|(go_at_call 53;(refine (style_SameFill.calls k a0_0 a0_1 a0_2 a0_3 a0_4 a0_5 a0_6 a0_7 a0_8 a0_9 a0_10 a0_11 _ _ l0_12 a0_13 a0_0 0 0 0 0 a0_5 a0_6 a0_7 a0_8 a0_9 a0_10 0 _ _ ([] : List (S86)) a0_13 t140 _ ?side1 ?side2 ?side3 ?side4 A20.out).mono ?_);(case side1 => repeat (first|exact (Kd.C_below HR0_12.out HB.out)|(with_reducible refine Kd.C_alloc ?_ _)|(with_reducible refine Kd.C_drewN ?_ _)|(with_reducible refine Kd.C_drew ?_)));(case side2 => exact HC0_12.out);(case side3 => exact Kd.C_nil _ _);(case side4 => exact Nat.le_refl _);rintro e wz3 ⟨rfl,hb⟩;have nz1_:=am (bw (by exact BKz1.out) hb);have nz2_:=am (ss (by repeat (first|(with_reducible first|exact HB.out|apply sa|apply sn|apply sd|refine sx ?_ GEz1.out)|exact HB.out)) hb);clear BKz1;clear HB;have BKz1:=nz1_;have HB:=nz2_;clear nz1_ nz2_;(try clear hb);(try clear hb2);(try clear hk);(try clear hi))|((with_reducible refine gate_callee (f:=55) rfl ?_);refine goesL_ (some 26) rfl rfl Try.func55 (by kernel_rfl) rfl #[.agg #[.int .i64 a0_5,.int .i64 a0_6,.int .i64 a0_7,.int .i64 a0_8,.int .i64 a0_9,.int .i64 a0_10]] rfl (by (try simp only [List.map_toArray,List.map_cons,List.map_nil]);first|done|rfl|(simp only [List.length_drop,List.length_take];rfl)) ?_;(with_reducible refine (field_RightMatrix.calls k a0_5 a0_6 a0_7 a0_8 a0_9 a0_10 false _ A16.out).mono ?_);rintro e wz2 ⟨rfl,hb⟩;refine ⟨_,rfl,?_⟩;have nz1_:=am (bw (by exact BKz1.out) hb);have nz2_:=am (ss (by repeat (first|(with_reducible first|exact HB.out|apply sa|apply sn|apply sd|refine sx ?_ GEz1.out)|exact HB.out)) hb);clear BKz1;clear HB;have BKz1:=nz1_;have HB:=nz2_;clear nz1_ nz2_;(try clear hb);(try clear hb2);(try clear hk);(try clear hi))|((with_reducible refine gate_callee (f:=54) rfl ?_);refine goesL_ (some 23) rfl rfl Try.func54 (by kernel_rfl) rfl #[.int .i64 a0_0] rfl (by (try simp only [List.map_toArray,List.map_cons,List.map_nil]);first|done|rfl|(simp only [List.length_drop,List.length_take];rfl)) ?_;(with_reducible refine (style_picture.calls a0_0 false _ A14.out).mono ?_);rintro e w' ⟨rfl,⟨nd,rfl⟩⟩;refine ⟨_,rfl,?_⟩)|((with_reducible refine gate_callee (f:=56) rfl ?_);refine goesL_ (some 51) rfl rfl Try.func56 (by kernel_rfl) rfl #[.int .i64 a0_0] rfl (by (try simp only [List.map_toArray,List.map_cons,List.map_nil]);first|done|rfl|(simp only [List.length_drop,List.length_take];rfl)) ?_;(with_reducible refine (style_gradient.calls a0_0 true _ A37.out).mono ?_);rintro e w' ⟨rfl,⟨nd,rfl⟩⟩;refine ⟨_,rfl,?_⟩)|(go_at_call 53;(with_reducible refine (style_SameFill.calls k a0_0 a0_1 a0_2 a0_3 a0_4 a0_5 a0_6 a0_7 a0_8 a0_9 a0_10 a0_11 _ _ l0_12 a0_13 a0_0 0 0 0 0 a0_5 a0_6 a0_7 a0_8 a0_9 a0_10 a0_11 _ _ l0_12 0 false _ ?side1 ?side2 ?side3 ?side4 A39.out).mono ?_);(case side1 => repeat (first|exact (Kd.C_below HR0_12.out (by repeat (first|(with_reducible first|exact HB.out|apply sa|apply sn|apply sd|refine sx ?_ GEz1.out)|exact HB.out)))|(with_reducible refine Kd.C_alloc ?_ _)|(with_reducible refine Kd.C_drewN ?_ _)|(with_reducible refine Kd.C_drew ?_)));(case side2 => exact HC0_12.out);(case side3 => repeat (first|exact (Kd.C_below HR0_12.out (by repeat (first|(with_reducible first|exact HB.out|apply sa|apply sn|apply sd|refine sx ?_ GEz1.out)|exact HB.out)))|(with_reducible refine Kd.C_alloc ?_ _)|(with_reducible refine Kd.C_drewN ?_ _)|(with_reducible refine Kd.C_drew ?_)));(case side4 => exact HC0_12.out);rintro e wz2 ⟨rfl,hb⟩;have nz1_:=am (bw (by exact BKz1.out) hb);have nz2_:=am (ss (by repeat (first|(with_reducible first|exact HB.out|apply sa|apply sn|apply sd|refine sx ?_ GEz1.out)|exact HB.out)) hb);clear BKz1;clear HB;have BKz1:=nz1_;have HB:=nz2_;clear nz1_ nz2_;(try clear hb);(try clear hb2);(try clear hk);(try clear hi))|((with_reducible refine gate_callee (f:=56) rfl ?_);refine goesL_ (some 51) rfl rfl Try.func56 (by kernel_rfl) rfl #[.int .i64 a0_0] rfl (by (try simp only [List.map_toArray,List.map_cons,List.map_nil]);first|done|rfl|(simp only [List.length_drop,List.length_take];rfl)) ?_;(with_reducible refine (style_gradient.calls a0_0 false _ A37.out).mono ?_);rintro e w' ⟨rfl,⟨nd,rfl⟩⟩;refine ⟨_,rfl,?_⟩))
    go_ret
    exact ⟨by first|rfl|(simp [errW_none,errW_some] <;> rfl)|(simp [*,errW_none,errW_some] <;> rfl),by repeat (first|(with_reducible first|exact HB.out|apply sa|apply sn|apply sd|refine sx ?_ GEz1.out)|exact HB.out)⟩

/-! ### style_Right_1: function 42 -/
def style_Right_1.f (k : Nat) (a0_0 : Int) (a0_1 : Int) (a0_2 : Int) (a0_3 : Int) (a0_4 : Int) (a0_5 : Int) (a0_6 : Int) (a0_7 : Int) (a0_8 : Int) (a0_9 : Int) (a0_10 : Int) (a0_11 : Int) (l0_12 : List (S86)) (a0_13 : Int) : Option (Bool):=(style_RightFill.f k a0_0 a0_1 a0_2 a0_3 a0_4 a0_5 a0_6 a0_7 a0_8 a0_9 a0_10 a0_11 l0_12 a0_13).bind fun t148 => (some (!t148))
theorem style_Right_1.mono : ∀ a0 a1 a2 a3 a4 a5 a6 a7 a8 a9 a10 a11 a12 a13 k,LeO (style_Right_1.f k a0 a1 a2 a3 a4 a5 a6 a7 a8 a9 a10 a11 a12 a13) (style_Right_1.f (k + 1) a0 a1 a2 a3 a4 a5 a6 a7 a8 a9 a10 a11 a12 a13):=by
  intro a0 a1 a2 a3 a4 a5 a6 a7 a8 a9 a10 a11 a12 a13 k
  unfold style_Right_1.f
  repeat' first
      | (with_reducible exact style_RightFill.mono _ _ _ _ _ _ _ _ _ _ _ _ _ _ _)
      | (with_reducible exact LeO.refl _)
      | (with_reducible exact LeO.none _)
      | (with_reducible refine LeO.ite ?_ ?_)
      | (with_reducible refine LeO.bind ?_ (fun _ => ?_))
      | exact style_RightFill.mono _ _ _ _ _ _ _ _ _ _ _ _ _ _ _
      | exact LeO.none _
      | refine LeO.ite ?_ ?_
      | refine LeO.bind ?_ (fun _ => ?_)
set_option maxHeartbeats 8000000 in
set_option maxRecDepth 100000 in
theorem style_Right_1.calls (k : Nat) (a0_0 : Int) (a0_1 : Int) (a0_2 : Int) (a0_3 : Int) (a0_4 : Int) (a0_5 : Int) (a0_6 : Int) (a0_7 : Int) (a0_8 : Int) (a0_9 : Int) (a0_10 : Int) (a0_11 : Int) (A0_12 : Option Addr) (c0_12 : Nat) (l0_12 : List (S86)) (a0_13 : Int) (r : Bool) (w : World) (hr0_12 : Kd.C k86 w A0_12 l0_12.length l0_12) (hc0_12 : l0_12.length ≤ c0_12) (h : style_Right_1.f k a0_0 a0_1 a0_2 a0_3 a0_4 a0_5 a0_6 a0_7 a0_8 a0_9 a0_10 a0_11 l0_12 a0_13 = some r) :
    Calls Try.prog 42 #[.agg #[.int .i64 a0_0,.int .i64 a0_1,.int .i64 a0_2,.int .i64 a0_3,.int .i64 a0_4,.int .i64 a0_5,.int .i64 a0_6,.int .i64 a0_7,.int .i64 a0_8,.int .i64 a0_9,.int .i64 a0_10,.int .i64 a0_11,.slice A0_12 l0_12.length c0_12,.int .i64 a0_13]] w fun e w' => e = .returned (.bool r) ∧ Below w.heap.size w w':=by
  have hu65:=Try.underlying65;have HR0_12:=am hr0_12;have HC0_12:=am hc0_12;clear hr0_12 hc0_12;have HB:=am (Below.refl w.heap.size w);have H : ((style_RightFill.f k a0_0 a0_1 a0_2 a0_3 a0_4 a0_5 a0_6 a0_7 a0_8 a0_9 a0_10 a0_11 l0_12 a0_13).bind fun t148 => (some (!t148))) = some r:=h;clear h;replace H:=Option.bind_eq_some_iff.mp H;obtain ⟨t148,A20,H⟩:=H;replace H : (some (!t148)) = some r:=H;have A2:=am A20;clear A20;obtain rfl:=Option.some.inj H
  go_enter Try.func42,Try.ntmps42
  go_wp2_with (first|((with_reducible refine gate_dst (N:=1) rfl ?_);refine box_event ?hg (N:=1) ?hd (cs:=#[.int .i64 a0_0,.int .i64 a0_1,.int .i64 a0_2,.int .i64 a0_3,.int .i64 a0_4,.int .i64 a0_5,.int .i64 a0_6,.int .i64 a0_7,.int .i64 a0_8,.int .i64 a0_9,.int .i64 a0_10,.int .i64 a0_11,.slice A0_12 l0_12.length c0_12,.int .i64 a0_13]) (t:=65) ?hr ?_;(case hd => rfl);(case hg => rfl);(case hr => first|(go_simp;done)|(go_simp;rfl));intro gb147 hg w3 hbox hb;have BK147:=am (hbox);have GW147:=am ((by rw [hg];exact (sz (by repeat (first|(with_reducible first|exact HB.out|apply sa|apply sn|apply sd)|exact HB.out))) : w.heap.size ≤ gb147));have GE147:=am ((by rw [hg];exact (sz (by repeat (first|(with_reducible first|exact HB.out|apply sa|apply sn|apply sd)|exact HB.out))) : w.heap.size ≤ gb147));replace HB:=am (ss (by repeat (first|(with_reducible first|exact HB.out|apply sa|apply sn|apply sd)|exact HB.out)) hb);clear hb hbox hg;obtain ⟨hcz4_0,hcz4_1,hcz4_2,hcz4_3,hcz4_4,hcz4_5,hcz4_6,hcz4_7,hcz4_8,hcz4_9,hcz4_10,hcz4_11,hcz4_12,hcz4_13⟩:=cq14 BK147.out;obtain ⟨hfz4_0,hfz4_1,hfz4_2,hfz4_3,hfz4_4,hfz4_5,hfz4_6,hfz4_7,hfz4_8,hfz4_9,hfz4_10,hfz4_11,hfz4_12,hfz4_13⟩:=fq14 BK147.out)|((with_reducible refine gate_callee (f:=43) rfl ?_);refine goesL_ (some 4) rfl rfl Try.func43 (by kernel_rfl) rfl #[.agg #[.int .i64 a0_0,.int .i64 a0_1,.int .i64 a0_2,.int .i64 a0_3,.int .i64 a0_4,.int .i64 a0_5,.int .i64 a0_6,.int .i64 a0_7,.int .i64 a0_8,.int .i64 a0_9,.int .i64 a0_10,.int .i64 a0_11,.slice A0_12 l0_12.length c0_12,.int .i64 a0_13]] rfl (by (try simp only [List.map_toArray,List.map_cons,List.map_nil]);first|done|rfl|(simp only [List.length_drop,List.length_take];rfl)) ?_;(with_reducible refine (style_RightFill.calls k a0_0 a0_1 a0_2 a0_3 a0_4 a0_5 a0_6 a0_7 a0_8 a0_9 a0_10 a0_11 _ _ l0_12 a0_13 t148 _ ?side1 ?side2 A2.out).mono ?_);(case side1 => repeat (first|exact (Kd.C_below HR0_12.out HB.out)|(with_reducible refine Kd.C_alloc ?_ _)|(with_reducible refine Kd.C_drewN ?_ _)|(with_reducible refine Kd.C_drew ?_)));(case side2 => exact HC0_12.out);rintro e w5 ⟨rfl,hb⟩;refine ⟨_,rfl,?_⟩;replace BK147:=am (bw (by exact BK147.out) hb);replace HB:=am (ss (by repeat (first|(with_reducible first|exact HB.out|apply sa|apply sn|apply sd|refine sx ?_ GE147.out)|exact HB.out)) hb);(try clear hb);(try clear hb2);(try clear hk);(try clear hi)))
  go_ret
  exact ⟨by first|rfl|(simp [errW_none,errW_some] <;> rfl)|(simp [*,errW_none,errW_some] <;> rfl),by repeat (first|(with_reducible first|exact HB.out|apply sa|apply sn|apply sd|refine sx ?_ GE147.out)|exact HB.out)⟩

end Go.Proofs.Ytlldbmodidhidaa.P
