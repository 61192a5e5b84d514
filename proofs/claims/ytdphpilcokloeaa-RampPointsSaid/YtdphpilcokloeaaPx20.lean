/- Printed by printx.py (wip/tool) out of the translation: plain functions that tell what the program answers,and the proofs that the program comes to these answers,for all arguments of their kinds. Lean checks it. -/
import Derived.Test.YtdphpilcokloeaaShort
import Derived.Test.YtdphpilcokloeaaPx0
import Derived.Test.YtdphpilcokloeaaPx4
import Derived.Test.YtdphpilcokloeaaPx11
import Derived.Test.YtdphpilcokloeaaPx14
import Derived.Test.YtdphpilcokloeaaPx19
namespace Go.Proofs.Ytdphpilcokloeaa.P
open Go.RowKit Go.Proofs.YtdphpilcokloeaaW.PrintWords Go.Proofs.YtdphpilcokloeaaW.PrintLast Go.Proofs.YtdphpilcokloeaaW.PrintMore
attribute [local go_sem] max2_int min2_int max_two min_two max_three min_three max_four min_four max_five min_five max_six min_six   -- for this text's walks alone
set_option linter.unusedVariables false
set_option linter.unusedSimpArgs false

/-! ### celluloidref19_Gradient: function 20 -/
def celluloidref19_Gradient.f (k : Nat) (a0_0 : Int) (a0_1 : Int) (a0_2 : Int) (a0_3 : Int) (a0_4 : Int) (a0_5 : Int) (a0_6 : Int) (a0_7 : Int) (a0_8 : Int) (a0_9 : Int) (a0_10 : Int) (a0_11 : Int) (l0_12 : List (S32)) (a0_13 : Int) : Option (Bool):=(celluloidref08_Fill.f k a0_0 a0_1 a0_2 a0_3 a0_4 a0_5 a0_6 a0_7 a0_8 a0_9 a0_10 a0_11 l0_12 a0_13).bind fun t298 => (if t298 = true then (if a0_0 = 16 then (some true) else (some (a0_0 == 18))) else (some false))
theorem celluloidref19_Gradient.mono : ∀ a0 a1 a2 a3 a4 a5 a6 a7 a8 a9 a10 a11 a12 a13 k,LeO (celluloidref19_Gradient.f k a0 a1 a2 a3 a4 a5 a6 a7 a8 a9 a10 a11 a12 a13) (celluloidref19_Gradient.f (k + 1) a0 a1 a2 a3 a4 a5 a6 a7 a8 a9 a10 a11 a12 a13):=by
  intro a0 a1 a2 a3 a4 a5 a6 a7 a8 a9 a10 a11 a12 a13 k
  unfold celluloidref19_Gradient.f
  repeat' first
      | (with_reducible exact celluloidref08_Fill.mono _ _ _ _ _ _ _ _ _ _ _ _ _ _ _)
      | (with_reducible exact LeO.refl _)
      | (with_reducible exact LeO.none _)
      | (with_reducible refine LeO.ite ?_ ?_)
      | (with_reducible refine LeO.bind ?_ (fun _ => ?_))
      | exact celluloidref08_Fill.mono _ _ _ _ _ _ _ _ _ _ _ _ _ _ _
      | exact LeO.none _
      | refine LeO.ite ?_ ?_
      | refine LeO.bind ?_ (fun _ => ?_)
set_option maxHeartbeats 8000000 in
set_option maxRecDepth 100000 in
theorem celluloidref19_Gradient.calls (k : Nat) (a0_0 : Int) (a0_1 : Int) (a0_2 : Int) (a0_3 : Int) (a0_4 : Int) (a0_5 : Int) (a0_6 : Int) (a0_7 : Int) (a0_8 : Int) (a0_9 : Int) (a0_10 : Int) (a0_11 : Int) (A0_12 : Option Addr) (c0_12 : Nat) (l0_12 : List (S32)) (a0_13 : Int) (r : Bool) (w : World) (hr0_12 : Kd.C k32 w A0_12 l0_12.length l0_12) (hc0_12 : l0_12.length ≤ c0_12) (h : celluloidref19_Gradient.f k a0_0 a0_1 a0_2 a0_3 a0_4 a0_5 a0_6 a0_7 a0_8 a0_9 a0_10 a0_11 l0_12 a0_13 = some r) :
    Calls Try.prog 20 #[.agg #[.int .i64 a0_0,.int .i64 a0_1,.int .i64 a0_2,.int .i64 a0_3,.int .i64 a0_4,.int .i64 a0_5,.int .i64 a0_6,.int .i64 a0_7,.int .i64 a0_8,.int .i64 a0_9,.int .i64 a0_10,.int .i64 a0_11,.slice A0_12 l0_12.length c0_12,.int .i64 a0_13]] w fun e w' => e = .returned (.bool r) ∧ Below w.heap.size w w':=by
  have hu43:=Try.underlying43;have HR0_12:=am hr0_12;have HC0_12:=am hc0_12;clear hr0_12 hc0_12;have HB:=am (Below.refl w.heap.size w);have H : ((celluloidref08_Fill.f k a0_0 a0_1 a0_2 a0_3 a0_4 a0_5 a0_6 a0_7 a0_8 a0_9 a0_10 a0_11 l0_12 a0_13).bind fun t298 => (if t298 = true then (if a0_0 = 16 then (some true) else (some (a0_0 == 18))) else (some false))) = some r:=h;clear h;replace H:=Option.bind_eq_some_iff.mp H;obtain ⟨t298,A20,H⟩:=H;replace H : (if t298 = true then (if a0_0 = 16 then (some true) else (some (a0_0 == 18))) else (some false)) = some r:=H;have A2:=am A20;clear A20
  by_cases c3 : t298 = true
  · subst c3
    have H1 : (if a0_0 = 16 then (some true) else (some (a0_0 == 18))) = some r:=by rw [if_pos rfl] at H;exact H
    clear H;have H:=H1;clear H1
    by_cases c4 : a0_0 = 16
    · rw [if_pos c4] at H
      have c4b0 : (a0_0 == 16) = true:=beq_iff_eq.mpr c4;have c4b1 : (a0_0 != 16) = false:=bne_eq_false_iff_eq.mpr c4;clear c4;obtain rfl:=Option.some.inj H
      go_enter Try.func20,Try.ntmps20
      go_wp2_with (first|((with_reducible refine gate_dst (N:=1) rfl ?_);refine box_event ?hg (N:=1) ?hd (cs:=#[.int .i64 a0_0,.int .i64 a0_1,.int .i64 a0_2,.int .i64 a0_3,.int .i64 a0_4,.int .i64 a0_5,.int .i64 a0_6,.int .i64 a0_7,.int .i64 a0_8,.int .i64 a0_9,.int .i64 a0_10,.int .i64 a0_11,.slice A0_12 l0_12.length c0_12,.int .i64 a0_13]) (t:=43) ?hr ?_;(case hd => rfl);(case hg => rfl);(case hr => first|(go_simp;done)|(go_simp;rfl));intro gb297 hg w5 hbox hb;have BK297:=am (hbox);have GW297:=am ((by rw [hg];exact (sz (by repeat (first|(with_reducible first|exact HB.out|apply sa|apply sn|apply sd)|exact HB.out))) : w.heap.size ≤ gb297));have GE297:=am ((by rw [hg];exact (sz (by repeat (first|(with_reducible first|exact HB.out|apply sa|apply sn|apply sd)|exact HB.out))) : w.heap.size ≤ gb297));replace HB:=am (ss (by repeat (first|(with_reducible first|exact HB.out|apply sa|apply sn|apply sd)|exact HB.out)) hb);clear hb hbox hg;obtain ⟨hcz6_0,hcz6_1,hcz6_2,hcz6_3,hcz6_4,hcz6_5,hcz6_6,hcz6_7,hcz6_8,hcz6_9,hcz6_10,hcz6_11,hcz6_12,hcz6_13⟩:=cq14 BK297.out;obtain ⟨hfz6_0,hfz6_1,hfz6_2,hfz6_3,hfz6_4,hfz6_5,hfz6_6,hfz6_7,hfz6_8,hfz6_9,hfz6_10,hfz6_11,hfz6_12,hfz6_13⟩:=fq14 BK297.out)|((with_reducible refine gate_callee (f:=30) rfl ?_);refine goesL_ (some 4) rfl rfl Try.func30 (by kernel_rfl) rfl #[.agg #[.int .i64 a0_0,.int .i64 a0_1,.int .i64 a0_2,.int .i64 a0_3,.int .i64 a0_4,.int .i64 a0_5,.int .i64 a0_6,.int .i64 a0_7,.int .i64 a0_8,.int .i64 a0_9,.int .i64 a0_10,.int .i64 a0_11,.slice A0_12 l0_12.length c0_12,.int .i64 a0_13]] rfl (by (try simp only [List.map_toArray,List.map_cons,List.map_nil]);first|done|rfl|(simp only [List.length_drop,List.length_take];rfl)) ?_;(with_reducible refine (celluloidref08_Fill.calls k a0_0 a0_1 a0_2 a0_3 a0_4 a0_5 a0_6 a0_7 a0_8 a0_9 a0_10 a0_11 _ _ l0_12 a0_13 true _ ?side1 ?side2 A2.out).mono ?_);(case side1 => repeat (first|exact (Kd.C_below HR0_12.out HB.out)|(with_reducible refine Kd.C_alloc ?_ _)|(with_reducible refine Kd.C_drewN ?_ _)|(with_reducible refine Kd.C_drew ?_)));(case side2 => exact HC0_12.out);rintro e w7 ⟨rfl,hb⟩;refine ⟨_,rfl,?_⟩;replace BK297:=am (bw (by exact BK297.out) hb);replace HB:=am (ss (by repeat (first|(with_reducible first|exact HB.out|apply sa|apply sn|apply sd|refine sx ?_ GE297.out)|exact HB.out)) hb);(try clear hb);(try clear hb2);(try clear hk);(try clear hi);obtain ⟨hcz8_0,hcz8_1,hcz8_2,hcz8_3,hcz8_4,hcz8_5,hcz8_6,hcz8_7,hcz8_8,hcz8_9,hcz8_10,hcz8_11,hcz8_12,hcz8_13⟩:=cq14 BK297.out;obtain ⟨hfz8_0,hfz8_1,hfz8_2,hfz8_3,hfz8_4,hfz8_5,hfz8_6,hfz8_7,hfz8_8,hfz8_9,hfz8_10,hfz8_11,hfz8_12,hfz8_13⟩:=fq14 BK297.out))
      go_ret
      exact ⟨by first|rfl|(simp [errW_none,errW_some] <;> rfl)|(simp [*,errW_none,errW_some] <;> rfl),by repeat (first|(with_reducible first|exact HB.out|apply sa|apply sn|apply sd|refine sx ?_ GE297.out)|exact HB.out)⟩
    · rw [if_neg c4] at H
      have c4b0 : (a0_0 == 16) = false:=beq_eq_false_iff_ne.mpr c4;have c4b1 : (a0_0 != 16) = true:=bne_iff_ne.mpr c4;obtain rfl:=Option.some.inj H
      go_enter Try.func20,Try.ntmps20
      go_wp2_with (first|((with_reducible refine gate_dst (N:=1) rfl ?_);refine box_event ?hg (N:=1) ?hd (cs:=#[.int .i64 a0_0,.int .i64 a0_1,.int .i64 a0_2,.int .i64 a0_3,.int .i64 a0_4,.int .i64 a0_5,.int .i64 a0_6,.int .i64 a0_7,.int .i64 a0_8,.int .i64 a0_9,.int .i64 a0_10,.int .i64 a0_11,.slice A0_12 l0_12.length c0_12,.int .i64 a0_13]) (t:=43) ?hr ?_;(case hd => rfl);(case hg => rfl);(case hr => first|(go_simp;done)|(go_simp;rfl));intro gb297 hg w9 hbox hb;have BK297:=am (hbox);have GW297:=am ((by rw [hg];exact (sz (by repeat (first|(with_reducible first|exact HB.out|apply sa|apply sn|apply sd)|exact HB.out))) : w.heap.size ≤ gb297));have GE297:=am ((by rw [hg];exact (sz (by repeat (first|(with_reducible first|exact HB.out|apply sa|apply sn|apply sd)|exact HB.out))) : w.heap.size ≤ gb297));replace HB:=am (ss (by repeat (first|(with_reducible first|exact HB.out|apply sa|apply sn|apply sd)|exact HB.out)) hb);clear hb hbox hg;obtain ⟨hcz10_0,hcz10_1,hcz10_2,hcz10_3,hcz10_4,hcz10_5,hcz10_6,hcz10_7,hcz10_8,hcz10_9,hcz10_10,hcz10_11,hcz10_12,hcz10_13⟩:=cq14 BK297.out;obtain ⟨hfz10_0,hfz10_1,hfz10_2,hfz10_3,hfz10_4,hfz10_5,hfz10_6,hfz10_7,hfz10_8,hfz10_9,hfz10_10,hfz10_11,hfz10_12,hfz10_13⟩:=fq14 BK297.out)|((with_reducible refine gate_callee (f:=30) rfl ?_);refine goesL_ (some 4) rfl rfl Try.func30 (by kernel_rfl) rfl #[.agg #[.int .i64 a0_0,.int .i64 a0_1,.int .i64 a0_2,.int .i64 a0_3,.int .i64 a0_4,.int .i64 a0_5,.int .i64 a0_6,.int .i64 a0_7,.int .i64 a0_8,.int .i64 a0_9,.int .i64 a0_10,.int .i64 a0_11,.slice A0_12 l0_12.length c0_12,.int .i64 a0_13]] rfl (by (try simp only [List.map_toArray,List.map_cons,List.map_nil]);first|done|rfl|(simp only [List.length_drop,List.length_take];rfl)) ?_;(with_reducible refine (celluloidref08_Fill.calls k a0_0 a0_1 a0_2 a0_3 a0_4 a0_5 a0_6 a0_7 a0_8 a0_9 a0_10 a0_11 _ _ l0_12 a0_13 true _ ?side1 ?side2 A2.out).mono ?_);(case side1 => repeat (first|exact (Kd.C_below HR0_12.out HB.out)|(with_reducible refine Kd.C_alloc ?_ _)|(with_reducible refine Kd.C_drewN ?_ _)|(with_reducible refine Kd.C_drew ?_)));(case side2 => exact HC0_12.out);rintro e w11 ⟨rfl,hb⟩;refine ⟨_,rfl,?_⟩;replace BK297:=am (bw (by exact BK297.out) hb);replace HB:=am (ss (by repeat (first|(with_reducible first|exact HB.out|apply sa|apply sn|apply sd|refine sx ?_ GE297.out)|exact HB.out)) hb);(try clear hb);(try clear hb2);(try clear hk);(try clear hi);obtain ⟨hcz12_0,hcz12_1,hcz12_2,hcz12_3,hcz12_4,hcz12_5,hcz12_6,hcz12_7,hcz12_8,hcz12_9,hcz12_10,hcz12_11,hcz12_12,hcz12_13⟩:=cq14 BK297.out;obtain ⟨hfz12_0,hfz12_1,hfz12_2,hfz12_3,hfz12_4,hfz12_5,hfz12_6,hfz12_7,hfz12_8,hfz12_9,hfz12_10,hfz12_11,hfz12_12,hfz12_13⟩:=fq14 BK297.out))
      go_ret
      exact ⟨by first|rfl|(simp [errW_none,errW_some] <;> rfl)|(simp [*,errW_none,errW_some] <;> rfl),by repeat (first|(with_reducible first|exact HB.out|apply sa|apply sn|apply sd|refine sx ?_ GE297.out)|exact HB.out)⟩
  · replace c3:=Bool.eq_false_iff.mpr c3
    subst c3
    have H1 : (some false) = some r:=by rw [if_neg (show ¬ (false = true) by decide)] at H;exact H
    clear H;have H:=H1;clear H1;obtain rfl:=Option.some.inj H
    go_enter Try.func20,Try.ntmps20
    go_wp2_with (first|((with_reducible refine gate_dst (N:=1) rfl ?_);refine box_event ?hg (N:=1) ?hd (cs:=#[.int .i64 a0_0,.int .i64 a0_1,.int .i64 a0_2,.int .i64 a0_3,.int .i64 a0_4,.int .i64 a0_5,.int .i64 a0_6,.int .i64 a0_7,.int .i64 a0_8,.int .i64 a0_9,.int .i64 a0_10,.int .i64 a0_11,.slice A0_12 l0_12.length c0_12,.int .i64 a0_13]) (t:=43) ?hr ?_;(case hd => rfl);(case hg => rfl);(case hr => first|(go_simp;done)|(go_simp;rfl));intro gb297 hg w13 hbox hb;have BK297:=am (hbox);have GW297:=am ((by rw [hg];exact (sz (by repeat (first|(with_reducible first|exact HB.out|apply sa|apply sn|apply sd)|exact HB.out))) : w.heap.size ≤ gb297));have GE297:=am ((by rw [hg];exact (sz (by repeat (first|(with_reducible first|exact HB.out|apply sa|apply sn|apply sd)|exact HB.out))) : w.heap.size ≤ gb297));replace HB:=am (ss (by repeat (first|(with_reducible first|exact HB.out|apply sa|apply sn|apply sd)|exact HB.out)) hb);clear hb hbox hg;obtain ⟨hcz14_0,hcz14_1,hcz14_2,hcz14_3,hcz14_4,hcz14_5,hcz14_6,hcz14_7,hcz14_8,hcz14_9,hcz14_10,hcz14_11,hcz14_12,hcz14_13⟩:=cq14 BK297.out;obtain ⟨hfz14_0,hfz14_1,hfz14_2,hfz14_3,hfz14_4,hfz14_5,hfz14_6,hfz14_7,hfz14_8,hfz14_9,hfz14_10,hfz14_11,hfz14_12,hfz14_13⟩:=fq14 BK297.out)|((with_reducible refine gate_callee (f:=30) rfl ?_);refine goesL_ (some 4) rfl rfl Try.func30 (by kernel_rfl) rfl #[.agg #[.int .i64 a0_0,.int .i64 a0_1,.int .i64 a0_2,.int .i64 a0_3,.int .i64 a0_4,.int .i64 a0_5,.int .i64 a0_6,.int .i64 a0_7,.int .i64 a0_8,.int .i64 a0_9,.int .i64 a0_10,.int .i64 a0_11,.slice A0_12 l0_12.length c0_12,.int .i64 a0_13]] rfl (by (try simp only [List.map_toArray,List.map_cons,List.map_nil]);first|done|rfl|(simp only [List.length_drop,List.length_take];rfl)) ?_;(with_reducible refine (celluloidref08_Fill.calls k a0_0 a0_1 a0_2 a0_3 a0_4 a0_5 a0_6 a0_7 a0_8 a0_9 a0_10 a0_11 _ _ l0_12 a0_13 false _ ?side1 ?side2 A2.out).mono ?_);(case side1 => repeat (first|exact (Kd.C_below HR0_12.out HB.out)|(with_reducible refine Kd.C_alloc ?_ _)|(with_reducible refine Kd.C_drewN ?_ _)|(with_reducible refine Kd.C_drew ?_)));(case side2 => exact HC0_12.out);rintro e w15 ⟨rfl,hb⟩;refine ⟨_,rfl,?_⟩;replace BK297:=am (bw (by exact BK297.out) hb);replace HB:=am (ss (by repeat (first|(with_reducible first|exact HB.out|apply sa|apply sn|apply sd|refine sx ?_ GE297.out)|exact HB.out)) hb);(try clear hb);(try clear hb2);(try clear hk);(try clear hi)))
    go_ret
    exact ⟨by first|rfl|(simp [errW_none,errW_some] <;> rfl)|(simp [*,errW_none,errW_some] <;> rfl),by repeat (first|(with_reducible first|exact HB.out|apply sa|apply sn|apply sd|refine sx ?_ GE297.out)|exact HB.out)⟩

/-! ### celluloidref19_end: function 31 -/
def celluloidref19_end.f (a0 : Int) : Option (Int):=if a0 > 1073741824 then (some 1073741824) else (if a0 < (-1073741824) then (some (-1073741824)) else (some a0))
set_option maxHeartbeats 8000000 in
set_option maxRecDepth 100000 in
theorem celluloidref19_end.calls (a0 : Int) (r : Int) (w : World) (h : celluloidref19_end.f a0 = some r) :
    Calls Try.prog 31 #[.int .i64 a0] w fun e w' => e = .returned (.int .i64 r) ∧ Drawn0 w w':=by
  have H : (if a0 > 1073741824 then (some 1073741824) else (if a0 < (-1073741824) then (some (-1073741824)) else (some a0))) = some r:=h;clear h
  by_cases c2 : a0 > 1073741824
  · rw [if_pos c2] at H
    have c2b0 : decide (1073741824 < a0) = true:=decide_eq_true c2;clear c2;obtain rfl:=Option.some.inj H
    go_enter Try.func31,Try.ntmps31
    go_wp2
    go_ret
    exact ⟨by first|rfl|(simp;done)|(simp [*];done),by repeat (first|exact Drawn0.refl _|apply Drawn0.step)⟩
  · rw [if_neg c2] at H
    have c2b0 : decide (1073741824 < a0) = false:=decide_eq_false c2;clear c2
    by_cases c3 : a0 < (-1073741824)
    · rw [if_pos c3] at H
      have c3b0 : decide (a0 < (-1073741824)) = true:=decide_eq_true c3;clear c3;obtain rfl:=Option.some.inj H
      go_enter Try.func31,Try.ntmps31
      go_wp2
      go_ret
      exact ⟨by first|rfl|(simp;done)|(simp [*];done),by repeat (first|exact Drawn0.refl _|apply Drawn0.step)⟩
    · rw [if_neg c3] at H
      have c3b0 : decide (a0 < (-1073741824)) = false:=decide_eq_false c3;clear c3;obtain rfl:=Option.some.inj H
      go_enter Try.func31,Try.ntmps31
      go_wp2
      go_ret
      exact ⟨by first|rfl|(simp;done)|(simp [*];done),by repeat (first|exact Drawn0.refl _|apply Drawn0.step)⟩

/-! ### celluloidref19_At: function 21 -/
def celluloidref19_At.f (k : Nat) (a0_0 : Int) (a0_1 : Int) (a0_2 : Int) (a0_3 : Int) (a0_4 : Int) (a0_5 : Int) (a0_6 : Int) (a0_7 : Int) (a0_8 : Int) (a0_9 : Int) (a0_10 : Int) (a0_11 : Int) (l0_12 : List (S32)) (a0_13 : Int) (a1_0 : Int) (a1_1 : Int) : Option (Int × Int × Int × Int):=(celluloidref19_end.f a1_0).bind fun t302 => ((celluloidref19_end.f a1_1).bind fun t303 => ((celluloidref01_Root.f k (wrap64 ((wrap64 (t302 * t302)) + (wrap64 (t303 * t303))))).bind fun t304 => (if a0_0 = 16 then ((celluloidref19_modulo.f t302 128).bind fun t305 => ((celluloidref19_Fold.f (wrap64 (Int.tdiv (wrap64 ((wrap64 (t302 + 16384)) - t305)) 128)) a0_11).bind fun t306 => ((celluloidref19_Color.f k l0_12 t306).bind fun bt307 => (some (bt307.1,bt307.2.1,bt307.2.2.1,bt307.2.2.2))))) else ((celluloidref19_Fold.f (wrap64 (Int.tdiv t304 64)) a0_11).bind fun t311 => ((celluloidref19_Color.f k l0_12 t311).bind fun bt312 => (some (bt312.1,bt312.2.1,bt312.2.2.1,bt312.2.2.2)))))))
theorem celluloidref19_At.mono : ∀ a0 a1 a2 a3 a4 a5 a6 a7 a8 a9 a10 a11 a12 a13 a14 a15 k,LeO (celluloidref19_At.f k a0 a1 a2 a3 a4 a5 a6 a7 a8 a9 a10 a11 a12 a13 a14 a15) (celluloidref19_At.f (k + 1) a0 a1 a2 a3 a4 a5 a6 a7 a8 a9 a10 a11 a12 a13 a14 a15):=by
  intro a0 a1 a2 a3 a4 a5 a6 a7 a8 a9 a10 a11 a12 a13 a14 a15 k
  unfold celluloidref19_At.f
  repeat' first
      | (with_reducible exact celluloidref01_Root.mono _ _)
      | (with_reducible exact celluloidref19_Color.mono _ _ _)
      | (with_reducible exact LeO.refl _)
      | (with_reducible exact LeO.none _)
      | (with_reducible refine LeO.ite ?_ ?_)
      | (with_reducible refine LeO.bind ?_ (fun _ => ?_))
      | exact celluloidref01_Root.mono _ _
      | exact celluloidref19_Color.mono _ _ _
      | exact LeO.none _
      | refine LeO.ite ?_ ?_
      | refine LeO.bind ?_ (fun _ => ?_)
def celluloidref19_At.T1 : Bool × List (List Nat × List Nat):=(true,[([],[]),([0],[0]),([1],[1]),([],[]),([3],[3]),([4,2],[4]),([2,5,0,1,2],[2]),([5,6,0,1,2,3,4,5,6],[5])])
def celluloidref19_At.B1 : List Nat:=[0,1,3,0,8,31,63,127]
theorem celluloidref19_At.tab1 : rtab .any (opsOf Try.f21 1) = celluloidref19_At.T1:=by kernel_rfl
theorem celluloidref19_At.bits1 : waitsOk celluloidref19_At.T1.2 celluloidref19_At.B1 = true:=by kernel_rfl
def celluloidref19_At.T5 : Bool × List (List Nat × List Nat):=(true,[([],[]),([0],[0]),([],[]),([],[]),([3],[3]),([2,4],[2,4]),([1,5,5],[1,5]),([6,6,0,1,2,3,4,5,6],[6])])
def celluloidref19_At.B5 : List Nat:=[0,1,0,0,8,28,63,127]
theorem celluloidref19_At.tab5 : rtab .any (opsOf Try.f21 5) = celluloidref19_At.T5:=by kernel_rfl
theorem celluloidref19_At.bits5 : waitsOk celluloidref19_At.T5.2 celluloidref19_At.B5 = true:=by kernel_rfl
set_option maxHeartbeats 8000000 in
set_option maxRecDepth 100000 in
theorem celluloidref19_At.calls (k : Nat) (a0_0 : Int) (a0_1 : Int) (a0_2 : Int) (a0_3 : Int) (a0_4 : Int) (a0_5 : Int) (a0_6 : Int) (a0_7 : Int) (a0_8 : Int) (a0_9 : Int) (a0_10 : Int) (a0_11 : Int) (A0_12 : Option Addr) (c0_12 : Nat) (l0_12 : List (S32)) (a0_13 : Int) (a1_0 : Int) (a1_1 : Int) (r1 : Int) (r2 : Int) (r3 : Int) (r4 : Int) (w : World) (hr0_12 : Kd.C k32 w A0_12 l0_12.length l0_12) (hc0_12 : l0_12.length ≤ c0_12) (h : celluloidref19_At.f k a0_0 a0_1 a0_2 a0_3 a0_4 a0_5 a0_6 a0_7 a0_8 a0_9 a0_10 a0_11 l0_12 a0_13 a1_0 a1_1 = some (r1,r2,r3,r4)) :
    Calls Try.prog 21 #[.agg #[.int .i64 a0_0,.int .i64 a0_1,.int .i64 a0_2,.int .i64 a0_3,.int .i64 a0_4,.int .i64 a0_5,.int .i64 a0_6,.int .i64 a0_7,.int .i64 a0_8,.int .i64 a0_9,.int .i64 a0_10,.int .i64 a0_11,.slice A0_12 l0_12.length c0_12,.int .i64 a0_13],.agg #[.int .i64 a1_0,.int .i64 a1_1]] w fun e w' => e = .returned (.agg #[.int .i64 r1,.int .i64 r2,.int .i64 r3,.int .i64 r4]) ∧ Below w.heap.size w w':=by
  have hu43:=Try.underlying43;have hu36:=Try.underlying36;have hu27:=Try.underlying27;have HR0_12:=am hr0_12;have HC0_12:=am hc0_12;clear hr0_12 hc0_12;have HB:=am (Below.refl w.heap.size w);have H : ((celluloidref19_end.f a1_0).bind fun t302 => ((celluloidref19_end.f a1_1).bind fun t303 => ((celluloidref01_Root.f k (wrap64 ((wrap64 (t302 * t302)) + (wrap64 (t303 * t303))))).bind fun t304 => (if a0_0 = 16 then ((celluloidref19_modulo.f t302 128).bind fun t305 => ((celluloidref19_Fold.f (wrap64 (Int.tdiv (wrap64 ((wrap64 (t302 + 16384)) - t305)) 128)) a0_11).bind fun t306 => ((celluloidref19_Color.f k l0_12 t306).bind fun bt307 => (some (bt307.1,bt307.2.1,bt307.2.2.1,bt307.2.2.2))))) else ((celluloidref19_Fold.f (wrap64 (Int.tdiv t304 64)) a0_11).bind fun t311 => ((celluloidref19_Color.f k l0_12 t311).bind fun bt312 => (some (bt312.1,bt312.2.1,bt312.2.2.1,bt312.2.2.2)))))))) = some (r1,r2,r3,r4):=h;clear h;replace H:=Option.bind_eq_some_iff.mp H;obtain ⟨t302,A30,H⟩:=H;replace H : ((celluloidref19_end.f a1_1).bind fun t303 => ((celluloidref01_Root.f k (wrap64 ((wrap64 (t302 * t302)) + (wrap64 (t303 * t303))))).bind fun t304 => (if a0_0 = 16 then ((celluloidref19_modulo.f t302 128).bind fun t305 => ((celluloidref19_Fold.f (wrap64 (Int.tdiv (wrap64 ((wrap64 (t302 + 16384)) - t305)) 128)) a0_11).bind fun t306 => ((celluloidref19_Color.f k l0_12 t306).bind fun bt307 => (some (bt307.1,bt307.2.1,bt307.2.2.1,bt307.2.2.2))))) else ((celluloidref19_Fold.f (wrap64 (Int.tdiv t304 64)) a0_11).bind fun t311 => ((celluloidref19_Color.f k l0_12 t311).bind fun bt312 => (some (bt312.1,bt312.2.1,bt312.2.2.1,bt312.2.2.2))))))) = some (r1,r2,r3,r4):=H;have A3:=am A30;clear A30;replace H:=Option.bind_eq_some_iff.mp H;obtain ⟨t303,A40,H⟩:=H;replace H : ((celluloidref01_Root.f k (wrap64 ((wrap64 (t302 * t302)) + (wrap64 (t303 * t303))))).bind fun t304 => (if a0_0 = 16 then ((celluloidref19_modulo.f t302 128).bind fun t305 => ((celluloidref19_Fold.f (wrap64 (Int.tdiv (wrap64 ((wrap64 (t302 + 16384)) - t305)) 128)) a0_11).bind fun t306 => ((celluloidref19_Color.f k l0_12 t306).bind fun bt307 => (some (bt307.1,bt307.2.1,bt307.2.2.1,bt307.2.2.2))))) else ((celluloidref19_Fold.f (wrap64 (Int.tdiv t304 64)) a0_11).bind fun t311 => ((celluloidref19_Color.f k l0_12 t311).bind fun bt312 => (some (bt312.1,bt312.2.1,bt312.2.2.1,bt312.2.2.2)))))) = some (r1,r2,r3,r4):=H;have A4:=am A40;clear A40;replace H:=Option.bind_eq_some_iff.mp H;obtain ⟨t304,A50,H⟩:=H;replace H : (if a0_0 = 16 then ((celluloidref19_modulo.f t302 128).bind fun t305 => ((celluloidref19_Fold.f (wrap64 (Int.tdiv (wrap64 ((wrap64 (t302 + 16384)) - t305)) 128)) a0_11).bind fun t306 => ((celluloidref19_Color.f k l0_12 t306).bind fun bt307 => (some (bt307.1,bt307.2.1,bt307.2.2.1,bt307.2.2.2))))) else ((celluloidref19_Fold.f (wrap64 (Int.tdiv t304 64)) a0_11).bind fun t311 => ((celluloidref19_Color.f k l0_12 t311).bind fun bt312 => (some (bt312.1,bt312.2.1,bt312.2.2.1,bt312.2.2.2))))) = some (r1,r2,r3,r4):=H;have A5:=am A50;clear A50
  by_cases c6 : a0_0 = 16
  · rw [if_pos c6] at H
    have c6b0 : (a0_0 == 16) = true:=beq_iff_eq.mpr c6;have c6b1 : (a0_0 != 16) = false:=bne_eq_false_iff_eq.mpr c6;clear c6;replace H:=Option.bind_eq_some_iff.mp H;obtain ⟨t305,A70,H⟩:=H;replace H : ((celluloidref19_Fold.f (wrap64 (Int.tdiv (wrap64 ((wrap64 (t302 + 16384)) - t305)) 128)) a0_11).bind fun t306 => ((celluloidref19_Color.f k l0_12 t306).bind fun bt307 => (some (bt307.1,bt307.2.1,bt307.2.2.1,bt307.2.2.2)))) = some (r1,r2,r3,r4):=H;have A7:=am A70;clear A70;replace H:=Option.bind_eq_some_iff.mp H;obtain ⟨t306,A80,H⟩:=H;replace H : ((celluloidref19_Color.f k l0_12 t306).bind fun bt307 => (some (bt307.1,bt307.2.1,bt307.2.2.1,bt307.2.2.2))) = some (r1,r2,r3,r4):=H;have A8:=am A80;clear A80;replace H:=Option.bind_eq_some_iff.mp H;obtain ⟨⟨t307,t308,t309,t310⟩,A90,H⟩:=H;replace H : (some (t307,t308,t309,t310)) = some (r1,r2,r3,r4):=H;have A9:=am A90;clear A90;simp only [Option.some.injEq,Prod.mk.injEq] at H;obtain ⟨rfl,rfl,rfl,rfl⟩:=H
    go_enter Try.func21,Try.ntmps21
    try go_wp2_with (first|((with_reducible refine gate_dst (N:=2) rfl ?_);refine box_event ?hg (N:=2) ?hd (cs:=#[.int .i64 a0_0,.int .i64 a0_1,.int .i64 a0_2,.int .i64 a0_3,.int .i64 a0_4,.int .i64 a0_5,.int .i64 a0_6,.int .i64 a0_7,.int .i64 a0_8,.int .i64 a0_9,.int .i64 a0_10,.int .i64 a0_11,.slice A0_12 l0_12.length c0_12,.int .i64 a0_13]) (t:=43) ?hr ?_;(case hd => rfl);(case hg => rfl);(case hr => first|(go_simp;done)|(go_simp;rfl));intro gb299 hg w10 hbox hb;have BK299:=am (hbox);have GW299:=am ((by rw [hg];exact (sz (by repeat (first|(with_reducible first|exact HB.out|apply sa|apply sn|apply sd)|exact HB.out))) : w.heap.size ≤ gb299));have GE299:=am ((by rw [hg];exact (sz (by repeat (first|(with_reducible first|exact HB.out|apply sa|apply sn|apply sd)|exact HB.out))) : w.heap.size ≤ gb299));replace HB:=am (ss (by repeat (first|(with_reducible first|exact HB.out|apply sa|apply sn|apply sd)|exact HB.out)) hb);clear hb hbox hg)|((with_reducible refine gate_dst (N:=3) rfl ?_);refine box_event ?hg (N:=3) ?hd (cs:=#[.int .i64 a1_0,.int .i64 a1_1]) (t:=36) ?hr ?_;(case hd => rfl);(case hg => rfl);(case hr => first|(go_simp;done)|(go_simp;rfl));intro gb300 hg w11 hbox hb;have BK300:=am (hbox);obtain ⟨h1_,GW300⟩:=sg (by repeat (first|(with_reducible first|exact HB.out|apply sa|apply sn|apply sd|refine sx ?_ GE299.out)|exact HB.out)) hb hg;replace HB:=h1_;clear h1_;have GE300:=GW300;have NB299_300:=nb (by exact BK299.out) hg;have NB300_299:=ng (by exact BK299.out) hg;replace BK299:=am (bw (by exact BK299.out) hb);clear hb hbox hg)|((with_reducible refine gate_dst (N:=4) rfl ?_);refine box_event ?hg (N:=4) ?hd (cs:=#[.int .i64 0,.int .i64 0,.int .i64 0,.int .i64 0]) (t:=27) ?hr ?_;(case hd => rfl);(case hg => rfl);(case hr => first|(go_simp;done)|(go_simp;rfl));intro gb301 hg w12 hbox hb;have BK301:=am (hbox);obtain ⟨h1_,GW301⟩:=sg (by repeat (first|(with_reducible first|exact HB.out|apply sa|apply sn|apply sd|refine sy ?_ (by assumption))|exact HB.out)) hb hg;replace HB:=h1_;clear h1_;have GE301:=GW301;have NB299_301:=nb (by exact BK299.out) hg;replace BK299:=am (bw (by exact BK299.out) hb);have NB301_299:=am (Ne.symm NB299_301.out);have NB300_301:=nb (by exact BK300.out) hg;have NB301_300:=ng (by exact BK300.out) hg;replace BK300:=am (bw (by exact BK300.out) hb);clear hb hbox hg))
    replace BK299:=am (bd BK299.out);replace BK300:=am (bd BK300.out);replace BK301:=am (bd BK301.out);replace HB:=am (sd HB.out);refine start_ (n:=8) (S:=fun w' => w'.cell? ⟨gb300,0,none⟩ = some (.int .i64 a1_0) ∧ w'.cell? ⟨gb300,1,none⟩ = some (.int .i64 a1_1)) (ds:=[]) #[false,false,false,false,false,false,false,false] (by kernel_rfl) rfl rfl ⟨(bc BK300.out 0).trans rfl,(bc BK300.out 1).trans rfl⟩ (fun hHeld => ?_);refine with_tabW celluloidref19_At.tab1 celluloidref19_At.bits1 (fun HT_ HW_ => ?_);generalize w12.drew = w13 at BK299 BK300 BK301 HB hHeld ⊢;refine pure_ (i:=0) (N:=some 8) (v:=?_) (a':=?_) #[true,false,false,false,false,false,false,false] rfl rfl (any_of HT_.out (by kernel_rfl)) (fun _ _ _ h => h) (Or.inl ⟨by rfl,?_⟩) ?_ ?_
    rotate_left
    · intro w'
      go_simp
      with_reducible rfl
    rotate_left
    · simp only [Act.put,q1,q2,q3,i64_w,i32_w]
      rfl
    refine pure_ (i:=3) (N:=some 11) (v:=?_) (a':=?_) #[true,false,false,true,false,false,false,false] rfl rfl (any_of HT_.out (by kernel_rfl)) (fun _ _ _ h => h) (Or.inl ⟨by rfl,?_⟩) ?_ ?_
    rotate_left
    · intro w'
      go_simp
      with_reducible rfl
    rotate_left
    · simp only [Act.put,q1,q2,q3,i64_w,i32_w]
      rfl
    refine take_ (i:=1) (N:=some 9) (v:=?_) (a':=?_) #[true,true,false,true,false,false,false,false] rfl rfl (take_ofW HT_.out HW_.out (by kernel_rfl)) (fun _ _ _ h => h) (Or.inl ⟨by rfl,?_⟩) hHeld ?_ ?_
    rotate_left
    · rintro w' ⟨s0,s1⟩
      go_simp
      with_reducible rfl
    rotate_left
    · simp only [Act.put,q1,q2,q3,i64_w,i32_w]
      rfl
    refine take_ (i:=4) (N:=some 12) (v:=?_) (a':=?_) #[true,true,false,true,true,false,false,false] rfl rfl (take_ofW HT_.out HW_.out (by kernel_rfl)) (fun _ _ _ h => h) (Or.inl ⟨by rfl,?_⟩) hHeld ?_ ?_
    rotate_left
    · rintro w' ⟨s0,s1⟩
      go_simp
      with_reducible rfl
    rotate_left
    · simp only [Act.put,q1,q2,q3,i64_w,i32_w]
      rfl
    refine one_ (i:=2) (N:=some 10) #[true,true,true,true,true,false,false,false] rfl rfl (one_of HT_.out (by kernel_rfl)) (by decide) (fun K hK => ?_);refine goes_ Try.func31 (by kernel_rfl) rfl #[.int .i64 a1_0] (by rfl) rfl rfl (by (try simp only [List.map_toArray,List.map_cons,List.map_nil]);first|done|rfl|(simp only [List.length_drop,List.length_take];rfl)) ?_
    with_reducible refine (celluloidref19_end.calls a1_0 t302 _ A3.out).mono ?_
    rintro e w' ⟨rfl,⟨nd,rfl⟩⟩
    refine ⟨_,rfl,?_⟩;refine hK.out _ _ ⟨(bc BK300.out 0).trans rfl,(bc BK300.out 1).trans rfl⟩ (fun hHeld => ?_);clear hK K;refine norm_ (a':=?_) ?_ ?_
    rotate_left
    · show Act.put _ (some 10) _ = _
      simp only [Act.put,q1,q2,q3,i64_w,i32_w]
      rfl
    refine one_ (i:=5) (N:=some 13) #[true,true,true,true,true,true,false,false] rfl rfl (one_of HT_.out (by kernel_rfl)) (by decide) (fun K hK => ?_);refine goes_ Try.func31 (by kernel_rfl) rfl #[.int .i64 a1_1] (by rfl) rfl rfl (by (try simp only [List.map_toArray,List.map_cons,List.map_nil]);first|done|rfl|(simp only [List.length_drop,List.length_take];rfl)) ?_
    with_reducible refine (celluloidref19_end.calls a1_1 t303 _ A4.out).mono ?_
    rintro e w' ⟨rfl,⟨nd,rfl⟩⟩
    refine ⟨_,rfl,?_⟩;refine hK.out _ _ ⟨(bc BK300.out 0).trans rfl,(bc BK300.out 1).trans rfl⟩ (fun hHeld => ?_);clear hK K;refine norm_ (a':=?_) ?_ ?_
    rotate_left
    · show Act.put _ (some 13) _ = _
      simp only [Act.put,q1,q2,q3,i64_w,i32_w]
      rfl
    refine pure_ (i:=6) (N:=some 5) (v:=?_) (a':=?_) #[true,true,true,true,true,true,true,false] rfl rfl (any_of HT_.out (by kernel_rfl)) (fun _ _ _ h => h) (Or.inl ⟨by rfl,?_⟩) ?_ ?_
    rotate_left
    · intro w'
      go_simp
      with_reducible rfl
    rotate_left
    · simp only [Act.put,q1,q2,q3,i64_w,i32_w]
      rfl
    refine pure_ (i:=7) (N:=some 6) (v:=?_) (a':=?_) #[true,true,true,true,true,true,true,true] rfl rfl (any_of HT_.out (by kernel_rfl)) (fun _ _ _ h => h) (Or.inl ⟨by rfl,?_⟩) ?_ ?_
    rotate_left
    · intro w'
      go_simp
      with_reducible rfl
    rotate_left
    · simp only [Act.put,q1,q2,q3,i64_w,i32_w]
      rfl
    refine done_ (done_of HT_.out (by kernel_rfl)) ?_
    try go_wp2_with (first|((with_reducible refine gate_callee (f:=18) rfl ?_);refine goesL_ (some 21) rfl rfl Try.func18 (by kernel_rfl) rfl #[.int .i64 (wrap64 ((wrap64 (t302 * t302)) + (wrap64 (t303 * t303))))] rfl (by (try simp only [List.map_toArray,List.map_cons,List.map_nil]);first|done|rfl|(simp only [List.length_drop,List.length_take];rfl)) ?_;(with_reducible refine (celluloidref01_Root.calls k (wrap64 ((wrap64 (t302 * t302)) + (wrap64 (t303 * t303)))) t304 _ A5.out).mono ?_);rintro e w' ⟨rfl,⟨nd,rfl⟩⟩;refine ⟨_,rfl,?_⟩;(repeat (rw [drewN_self w13];generalize hq_ : World.drewN w13 _ = w13;have n0_ : Aside0 (w13.heap[gb299]? = some (.cells #[.int .i64 a0_0,.int .i64 a0_1,.int .i64 a0_2,.int .i64 a0_3,.int .i64 a0_4,.int .i64 a0_5,.int .i64 a0_6,.int .i64 a0_7,.int .i64 a0_8,.int .i64 a0_9,.int .i64 a0_10,.int .i64 a0_11,.slice A0_12 l0_12.length c0_12,.int .i64 a0_13] 43 (0,0))):=⟨by rw [← hq_];exact (by exact BK299.out)⟩;have n1_ : Aside0 (w13.heap[gb300]? = some (.cells #[.int .i64 a1_0,.int .i64 a1_1] 36 (0,0))):=⟨by rw [← hq_];exact (by exact BK300.out)⟩;have n2_ : Aside0 (w13.heap[gb301]? = some (.cells #[.int .i64 0,.int .i64 0,.int .i64 0,.int .i64 0] 27 (0,0))):=⟨by rw [← hq_];exact (by exact BK301.out)⟩;have n3_ : Aside0 (Below w.heap.size w w13):=⟨by rw [← hq_];exact (by repeat (first|(with_reducible first|exact HB.out|apply sa|apply sn|apply sd|refine sy ?_ (by assumption))|exact HB.out))⟩;clear BK299 BK300 BK301 HB hq_;have BK299:=n0_;have BK300:=n1_;have BK301:=n2_;have HB:=n3_;clear n0_ n1_ n2_ n3_));have hnb14:=NB299_300.out;have hnc14:=NB300_299.out;have hnb15:=NB299_301.out;have hnc15:=NB301_299.out;obtain ⟨hcz16_0,hcz16_1,hcz16_2,hcz16_3,hcz16_4,hcz16_5,hcz16_6,hcz16_7,hcz16_8,hcz16_9,hcz16_10,hcz16_11,hcz16_12,hcz16_13⟩:=cq14 BK299.out;obtain ⟨hfz16_0,hfz16_1,hfz16_2,hfz16_3,hfz16_4,hfz16_5,hfz16_6,hfz16_7,hfz16_8,hfz16_9,hfz16_10,hfz16_11,hfz16_12,hfz16_13⟩:=fq14 BK299.out)|((with_reducible refine gate_callee (f:=23) rfl ?_);refine goesL_ (some 29) rfl rfl Try.func23 (by kernel_rfl) rfl #[.int .i64 t302,.int .i64 128] rfl (by (try simp only [List.map_toArray,List.map_cons,List.map_nil]);first|done|rfl|(simp only [List.length_drop,List.length_take];rfl)) ?_;(with_reducible refine (celluloidref19_modulo.calls t302 128 t305 _ A7.out).mono ?_);rintro e w' ⟨rfl,⟨nd,rfl⟩⟩;refine ⟨_,rfl,?_⟩;(repeat (rw [drewN_self w13];generalize hq_ : World.drewN w13 _ = w13;have n0_ : Aside0 (w13.heap[gb299]? = some (.cells #[.int .i64 a0_0,.int .i64 a0_1,.int .i64 a0_2,.int .i64 a0_3,.int .i64 a0_4,.int .i64 a0_5,.int .i64 a0_6,.int .i64 a0_7,.int .i64 a0_8,.int .i64 a0_9,.int .i64 a0_10,.int .i64 a0_11,.slice A0_12 l0_12.length c0_12,.int .i64 a0_13] 43 (0,0))):=⟨by rw [← hq_];exact (by exact BK299.out)⟩;have n1_ : Aside0 (w13.heap[gb300]? = some (.cells #[.int .i64 a1_0,.int .i64 a1_1] 36 (0,0))):=⟨by rw [← hq_];exact (by exact BK300.out)⟩;have n2_ : Aside0 (w13.heap[gb301]? = some (.cells #[.int .i64 0,.int .i64 0,.int .i64 0,.int .i64 0] 27 (0,0))):=⟨by rw [← hq_];exact (by exact BK301.out)⟩;have n3_ : Aside0 (Below w.heap.size w w13):=⟨by rw [← hq_];exact (by repeat (first|(with_reducible first|exact HB.out|apply sa|apply sn|apply sd|refine sy ?_ (by assumption))|exact HB.out))⟩;clear BK299 BK300 BK301 HB hq_;have BK299:=n0_;have BK300:=n1_;have BK301:=n2_;have HB:=n3_;clear n0_ n1_ n2_ n3_))))
    replace BK299:=am (bd BK299.out);replace BK300:=am (bd BK300.out);replace BK301:=am (bd BK301.out);replace HB:=am (sd HB.out);refine start_ (n:=8) (S:=fun w' => w'.cell? ⟨gb299,0,none⟩ = some (.int .i64 a0_0) ∧ w'.cell? ⟨gb299,1,none⟩ = some (.int .i64 a0_1) ∧ w'.cell? ⟨gb299,2,none⟩ = some (.int .i64 a0_2) ∧ w'.cell? ⟨gb299,3,none⟩ = some (.int .i64 a0_3) ∧ w'.cell? ⟨gb299,4,none⟩ = some (.int .i64 a0_4) ∧ w'.cell? ⟨gb299,5,none⟩ = some (.int .i64 a0_5) ∧ w'.cell? ⟨gb299,6,none⟩ = some (.int .i64 a0_6) ∧ w'.cell? ⟨gb299,7,none⟩ = some (.int .i64 a0_7) ∧ w'.cell? ⟨gb299,8,none⟩ = some (.int .i64 a0_8) ∧ w'.cell? ⟨gb299,9,none⟩ = some (.int .i64 a0_9) ∧ w'.cell? ⟨gb299,10,none⟩ = some (.int .i64 a0_10) ∧ w'.cell? ⟨gb299,11,none⟩ = some (.int .i64 a0_11) ∧ w'.cell? ⟨gb299,12,none⟩ = some (.slice A0_12 l0_12.length c0_12) ∧ w'.cell? ⟨gb299,13,none⟩ = some (.int .i64 a0_13)) (ds:=[]) #[false,false,false,false,false,false,false,false] (by kernel_rfl) rfl rfl ⟨(bc BK299.out 0).trans rfl,(bc BK299.out 1).trans rfl,(bc BK299.out 2).trans rfl,(bc BK299.out 3).trans rfl,(bc BK299.out 4).trans rfl,(bc BK299.out 5).trans rfl,(bc BK299.out 6).trans rfl,(bc BK299.out 7).trans rfl,(bc BK299.out 8).trans rfl,(bc BK299.out 9).trans rfl,(bc BK299.out 10).trans rfl,(bc BK299.out 11).trans rfl,(bc BK299.out 12).trans rfl,(bc BK299.out 13).trans rfl⟩ (fun hHeld => ?_);refine with_tabW celluloidref19_At.tab5 celluloidref19_At.bits5 (fun HT_ HW_ => ?_);generalize w13.drew = w17 at BK299 BK300 BK301 HB hHeld ⊢;refine pure_ (i:=0) (N:=some 32) (v:=?_) (a':=?_) #[true,false,false,false,false,false,false,false] rfl rfl (any_of HT_.out (by kernel_rfl)) (fun _ _ _ h => h) (Or.inl ⟨by rfl,?_⟩) ?_ ?_
    rotate_left
    · intro w'
      go_simp
      with_reducible rfl
    rotate_left
    · simp only [Act.put,q1,q2,q3,i64_w,i32_w]
      rfl
    refine pure_ (i:=2) (N:=some 34) (v:=?_) (a':=?_) #[true,false,true,false,false,false,false,false] rfl rfl (any_of HT_.out (by kernel_rfl)) (fun _ _ _ h => h) (Or.inl ⟨by rfl,?_⟩) ?_ ?_
    rotate_left
    · intro w'
      go_simp
      with_reducible rfl
    rotate_left
    · simp only [Act.put,q1,q2,q3,i64_w,i32_w]
      rfl
    refine pure_ (i:=3) (N:=some 35) (v:=?_) (a':=?_) #[true,false,true,true,false,false,false,false] rfl rfl (any_of HT_.out (by kernel_rfl)) (fun _ _ _ h => h) (Or.inl ⟨by rfl,?_⟩) ?_ ?_
    rotate_left
    · intro w'
      go_simp
      with_reducible rfl
    rotate_left
    · simp only [Act.put,q1,q2,q3,i64_w,i32_w]
      rfl
    refine take_ (i:=1) (N:=some 33) (v:=?_) (a':=?_) #[true,true,true,true,false,false,false,false] rfl rfl (take_ofW HT_.out HW_.out (by kernel_rfl)) (fun _ _ _ h => h) (Or.inl ⟨by rfl,?_⟩) hHeld ?_ ?_
    rotate_left
    · rintro w' ⟨s0,s1,s2,s3,s4,s5,s6,s7,s8,s9,s10,s11,s12,s13⟩
      go_simp
      with_reducible rfl
    rotate_left
    · simp only [Act.put,q1,q2,q3,i64_w,i32_w]
      rfl
    refine take_ (i:=4) (N:=some 36) (v:=?_) (a':=?_) #[true,true,true,true,true,false,false,false] rfl rfl (take_ofW HT_.out HW_.out (by kernel_rfl)) (fun _ _ _ h => h) (Or.inl ⟨by rfl,?_⟩) hHeld ?_ ?_
    rotate_left
    · rintro w' ⟨s0,s1,s2,s3,s4,s5,s6,s7,s8,s9,s10,s11,s12,s13⟩
      go_simp
      with_reducible rfl
    rotate_left
    · simp only [Act.put,q1,q2,q3,i64_w,i32_w]
      rfl
    refine one_ (i:=5) (N:=some 37) #[true,true,true,true,true,true,false,false] rfl rfl (one_of HT_.out (by kernel_rfl)) (by decide) (fun K hK => ?_);refine goes_ Try.func11 (by kernel_rfl) rfl #[.int .i64 (wrap64 (Int.tdiv (wrap64 ((wrap64 (t302 + 16384)) - t305)) 128)),.int .i64 a0_11] (by rfl) rfl rfl (by (try simp only [List.map_toArray,List.map_cons,List.map_nil]);first|done|rfl|(simp only [List.length_drop,List.length_take];rfl)) ?_
    with_reducible refine (celluloidref19_Fold.calls (wrap64 (Int.tdiv (wrap64 ((wrap64 (t302 + 16384)) - t305)) 128)) a0_11 t306 _ A8.out).mono ?_
    rintro e w' ⟨rfl,⟨nd,rfl⟩⟩
    refine ⟨_,rfl,?_⟩;refine hK.out _ _ ⟨(bc BK299.out 0).trans rfl,(bc BK299.out 1).trans rfl,(bc BK299.out 2).trans rfl,(bc BK299.out 3).trans rfl,(bc BK299.out 4).trans rfl,(bc BK299.out 5).trans rfl,(bc BK299.out 6).trans rfl,(bc BK299.out 7).trans rfl,(bc BK299.out 8).trans rfl,(bc BK299.out 9).trans rfl,(bc BK299.out 10).trans rfl,(bc BK299.out 11).trans rfl,(bc BK299.out 12).trans rfl,(bc BK299.out 13).trans rfl⟩ (fun hHeld => ?_);clear hK K;refine norm_ (a':=?_) ?_ ?_
    rotate_left
    · show Act.put _ (some 37) _ = _
      simp only [Act.put,q1,q2,q3,i64_w,i32_w]
      rfl
    refine one_ (i:=6) (N:=some 38) #[true,true,true,true,true,true,true,false] rfl rfl (one_of HT_.out (by kernel_rfl)) (by decide) (fun K hK => ?_);refine goes_ Try.func15 (by kernel_rfl) rfl #[.slice A0_12 l0_12.length c0_12,.int .i64 t306] (by rfl) rfl rfl (by (try simp only [List.map_toArray,List.map_cons,List.map_nil]);first|done|rfl|(simp only [List.length_drop,List.length_take];rfl)) ?_
    with_reducible refine (celluloidref19_Color.calls k _ _ l0_12 t306 t307 t308 t309 t310 _ ?side1 ?side2 A9.out).mono ?_
    (case side1 => repeat (first|exact (Kd.C_below HR0_12.out (by repeat (first|(with_reducible first|exact HB.out|apply sa|apply sn|apply sd|refine sy ?_ (by assumption))|exact HB.out)))|(with_reducible refine Kd.C_alloc ?_ _)|(with_reducible refine Kd.C_drewN ?_ _)|(with_reducible refine Kd.C_drew ?_)))
    (case side2 => exact HC0_12.out)
    rintro e w18 ⟨rfl,hb⟩
    refine ⟨_,rfl,?_⟩;replace BK299:=am (bw (by exact BK299.out) hb);replace BK300:=am (bw (by exact BK300.out) hb);replace BK301:=am (bw (by exact BK301.out) hb);replace HB:=am (ss (by repeat (first|(with_reducible first|exact HB.out|apply sa|apply sn|apply sd|refine sy ?_ (by assumption))|exact HB.out)) hb);(try clear hb);(try clear hb2);(try clear hk);(try clear hi);refine hK.out _ _ ⟨(bc BK299.out 0).trans rfl,(bc BK299.out 1).trans rfl,(bc BK299.out 2).trans rfl,(bc BK299.out 3).trans rfl,(bc BK299.out 4).trans rfl,(bc BK299.out 5).trans rfl,(bc BK299.out 6).trans rfl,(bc BK299.out 7).trans rfl,(bc BK299.out 8).trans rfl,(bc BK299.out 9).trans rfl,(bc BK299.out 10).trans rfl,(bc BK299.out 11).trans rfl,(bc BK299.out 12).trans rfl,(bc BK299.out 13).trans rfl⟩ (fun hHeld => ?_);clear hK K;refine norm_ (a':=?_) ?_ ?_
    rotate_left
    · show Act.put _ (some 38) _ = _
      simp only [Act.put,q1,q2,q3,i64_w,i32_w]
      rfl
    refine one_ (i:=7) (N:=none) #[true,true,true,true,true,true,true,true] rfl rfl (one_of HT_.out (by kernel_rfl)) (by decide) (fun K hK => ?_);have hs19 : w18.cell? ⟨gb301,0,none⟩ = some (.int .i64 0):=(bc BK301.out 0).trans rfl;have hfs19:=bz BK301.out 0;have hns19_0:=NB299_301.out;have hns19_1:=NB300_301.out;have hms19_0:=NB301_299.out;have hms19_1:=NB301_300.out;have hs20 : w18.cell? ⟨gb301,1,none⟩ = some (.int .i64 0):=(bc BK301.out 1).trans rfl;have hfs20:=bz BK301.out 1;have hns20_0:=NB299_301.out;have hns20_1:=NB300_301.out;have hms20_0:=NB301_299.out;have hms20_1:=NB301_300.out;have hs21 : w18.cell? ⟨gb301,2,none⟩ = some (.int .i64 0):=(bc BK301.out 2).trans rfl;have hfs21:=bz BK301.out 2;have hns21_0:=NB299_301.out;have hns21_1:=NB300_301.out;have hms21_0:=NB301_299.out;have hms21_1:=NB301_300.out;have hs22 : w18.cell? ⟨gb301,3,none⟩ = some (.int .i64 0):=(bc BK301.out 3).trans rfl;have hfs22:=bz BK301.out 3;have hns22_0:=NB299_301.out;have hns22_1:=NB300_301.out;have hms22_0:=NB301_299.out;have hms22_1:=NB301_300.out;refine skip_ (w1:=?_) (by rfl) rfl ?_ ?_
    rotate_left
    · go_simp
      rfl
    refine hK.out _ _ ⟨((cell_far (p:=⟨gb301,_,none⟩) NB299_301.out _).trans (((cell_far (p:=⟨gb301,_,none⟩) NB299_301.out _).trans (((cell_far (p:=⟨gb301,_,none⟩) NB299_301.out _).trans (((cell_far (p:=⟨gb301,_,none⟩) NB299_301.out _).trans (hHeld.1)))))))),((cell_far (p:=⟨gb301,_,none⟩) NB299_301.out _).trans (((cell_far (p:=⟨gb301,_,none⟩) NB299_301.out _).trans (((cell_far (p:=⟨gb301,_,none⟩) NB299_301.out _).trans (((cell_far (p:=⟨gb301,_,none⟩) NB299_301.out _).trans (hHeld.2.1)))))))),((cell_far (p:=⟨gb301,_,none⟩) NB299_301.out _).trans (((cell_far (p:=⟨gb301,_,none⟩) NB299_301.out _).trans (((cell_far (p:=⟨gb301,_,none⟩) NB299_301.out _).trans (((cell_far (p:=⟨gb301,_,none⟩) NB299_301.out _).trans (hHeld.2.2.1)))))))),((cell_far (p:=⟨gb301,_,none⟩) NB299_301.out _).trans (((cell_far (p:=⟨gb301,_,none⟩) NB299_301.out _).trans (((cell_far (p:=⟨gb301,_,none⟩) NB299_301.out _).trans (((cell_far (p:=⟨gb301,_,none⟩) NB299_301.out _).trans (hHeld.2.2.2.1)))))))),((cell_far (p:=⟨gb301,_,none⟩) NB299_301.out _).trans (((cell_far (p:=⟨gb301,_,none⟩) NB299_301.out _).trans (((cell_far (p:=⟨gb301,_,none⟩) NB299_301.out _).trans (((cell_far (p:=⟨gb301,_,none⟩) NB299_301.out _).trans (hHeld.2.2.2.2.1)))))))),((cell_far (p:=⟨gb301,_,none⟩) NB299_301.out _).trans (((cell_far (p:=⟨gb301,_,none⟩) NB299_301.out _).trans (((cell_far (p:=⟨gb301,_,none⟩) NB299_301.out _).trans (((cell_far (p:=⟨gb301,_,none⟩) NB299_301.out _).trans (hHeld.2.2.2.2.2.1)))))))),((cell_far (p:=⟨gb301,_,none⟩) NB299_301.out _).trans (((cell_far (p:=⟨gb301,_,none⟩) NB299_301.out _).trans (((cell_far (p:=⟨gb301,_,none⟩) NB299_301.out _).trans (((cell_far (p:=⟨gb301,_,none⟩) NB299_301.out _).trans (hHeld.2.2.2.2.2.2.1)))))))),((cell_far (p:=⟨gb301,_,none⟩) NB299_301.out _).trans (((cell_far (p:=⟨gb301,_,none⟩) NB299_301.out _).trans (((cell_far (p:=⟨gb301,_,none⟩) NB299_301.out _).trans (((cell_far (p:=⟨gb301,_,none⟩) NB299_301.out _).trans (hHeld.2.2.2.2.2.2.2.1)))))))),((cell_far (p:=⟨gb301,_,none⟩) NB299_301.out _).trans (((cell_far (p:=⟨gb301,_,none⟩) NB299_301.out _).trans (((cell_far (p:=⟨gb301,_,none⟩) NB299_301.out _).trans (((cell_far (p:=⟨gb301,_,none⟩) NB299_301.out _).trans (hHeld.2.2.2.2.2.2.2.2.1)))))))),((cell_far (p:=⟨gb301,_,none⟩) NB299_301.out _).trans (((cell_far (p:=⟨gb301,_,none⟩) NB299_301.out _).trans (((cell_far (p:=⟨gb301,_,none⟩) NB299_301.out _).trans (((cell_far (p:=⟨gb301,_,none⟩) NB299_301.out _).trans (hHeld.2.2.2.2.2.2.2.2.2.1)))))))),((cell_far (p:=⟨gb301,_,none⟩) NB299_301.out _).trans (((cell_far (p:=⟨gb301,_,none⟩) NB299_301.out _).trans (((cell_far (p:=⟨gb301,_,none⟩) NB299_301.out _).trans (((cell_far (p:=⟨gb301,_,none⟩) NB299_301.out _).trans (hHeld.2.2.2.2.2.2.2.2.2.2.1)))))))),((cell_far (p:=⟨gb301,_,none⟩) NB299_301.out _).trans (((cell_far (p:=⟨gb301,_,none⟩) NB299_301.out _).trans (((cell_far (p:=⟨gb301,_,none⟩) NB299_301.out _).trans (((cell_far (p:=⟨gb301,_,none⟩) NB299_301.out _).trans (hHeld.2.2.2.2.2.2.2.2.2.2.2.1)))))))),((cell_far (p:=⟨gb301,_,none⟩) NB299_301.out _).trans (((cell_far (p:=⟨gb301,_,none⟩) NB299_301.out _).trans (((cell_far (p:=⟨gb301,_,none⟩) NB299_301.out _).trans (((cell_far (p:=⟨gb301,_,none⟩) NB299_301.out _).trans (hHeld.2.2.2.2.2.2.2.2.2.2.2.2.1)))))))),((cell_far (p:=⟨gb301,_,none⟩) NB299_301.out _).trans (((cell_far (p:=⟨gb301,_,none⟩) NB299_301.out _).trans (((cell_far (p:=⟨gb301,_,none⟩) NB299_301.out _).trans (((cell_far (p:=⟨gb301,_,none⟩) NB299_301.out _).trans (hHeld.2.2.2.2.2.2.2.2.2.2.2.2.2))))))))⟩ (fun hHeld => ?_);clear hK K;refine done_ (done_of HT_.out (by kernel_rfl)) ?_
    try go_wp2
    refine bodyPost_ret (results_cell_row rfl _ _ gb301 27 #[.int .i64 t307,.int .i64 t308,.int .i64 t309,.int .i64 t310] (0,0) _ rfl (by (with_reducible repeat (first|refine bn ?_ _|refine bd ?_|refine ba ?_ _));refine bp (cs:=#[.int .i64 t307,.int .i64 t308,.int .i64 t309,.int .i64 0]) ?_ 3 _ rfl;(with_reducible repeat (first|refine bn ?_ _|refine bd ?_|refine ba ?_ _));refine bp (cs:=#[.int .i64 t307,.int .i64 t308,.int .i64 0,.int .i64 0]) ?_ 2 _ rfl;(with_reducible repeat (first|refine bn ?_ _|refine bd ?_|refine ba ?_ _));refine bp (cs:=#[.int .i64 t307,.int .i64 0,.int .i64 0,.int .i64 0]) ?_ 1 _ rfl;(with_reducible repeat (first|refine bn ?_ _|refine bd ?_|refine ba ?_ _));refine bp (cs:=#[.int .i64 0,.int .i64 0,.int .i64 0,.int .i64 0]) ?_ 0 _ rfl;(with_reducible repeat (first|refine bn ?_ _|refine bd ?_|refine ba ?_ _));exact BK301.out) Try.underlying27 rfl (by kernel_rfl)) rfl ?_
    exact ⟨by first|rfl|(simp [errW_none,errW_some] <;> rfl)|(simp [*,errW_none,errW_some] <;> rfl),by repeat (first|(with_reducible first|exact HB.out|apply sa|apply sn|apply sd|refine sy ?_ (by assumption))|exact HB.out)⟩
  · rw [if_neg c6] at H
    have c6b0 : (a0_0 == 16) = false:=beq_eq_false_iff_ne.mpr c6;have c6b1 : (a0_0 != 16) = true:=bne_iff_ne.mpr c6;replace H:=Option.bind_eq_some_iff.mp H;obtain ⟨t311,A230,H⟩:=H;replace H : ((celluloidref19_Color.f k l0_12 t311).bind fun bt312 => (some (bt312.1,bt312.2.1,bt312.2.2.1,bt312.2.2.2))) = some (r1,r2,r3,r4):=H;have A23:=am A230;clear A230;replace H:=Option.bind_eq_some_iff.mp H;obtain ⟨⟨t312,t313,t314,t315⟩,A240,H⟩:=H;replace H : (some (t312,t313,t314,t315)) = some (r1,r2,r3,r4):=H;have A24:=am A240;clear A240;simp only [Option.some.injEq,Prod.mk.injEq] at H;obtain ⟨rfl,rfl,rfl,rfl⟩:=H
    go_enter Try.func21,Try.ntmps21
    try go_wp2_with (first|((with_reducible refine gate_dst (N:=2) rfl ?_);refine box_event ?hg (N:=2) ?hd (cs:=#[.int .i64 a0_0,.int .i64 a0_1,.int .i64 a0_2,.int .i64 a0_3,.int .i64 a0_4,.int .i64 a0_5,.int .i64 a0_6,.int .i64 a0_7,.int .i64 a0_8,.int .i64 a0_9,.int .i64 a0_10,.int .i64 a0_11,.slice A0_12 l0_12.length c0_12,.int .i64 a0_13]) (t:=43) ?hr ?_;(case hd => rfl);(case hg => rfl);(case hr => first|(go_simp;done)|(go_simp;rfl));intro gb299 hg w25 hbox hb;have BK299:=am (hbox);have GW299:=am ((by rw [hg];exact (sz (by repeat (first|(with_reducible first|exact HB.out|apply sa|apply sn|apply sd)|exact HB.out))) : w.heap.size ≤ gb299));have GE299:=am ((by rw [hg];exact (sz (by repeat (first|(with_reducible first|exact HB.out|apply sa|apply sn|apply sd)|exact HB.out))) : w.heap.size ≤ gb299));replace HB:=am (ss (by repeat (first|(with_reducible first|exact HB.out|apply sa|apply sn|apply sd)|exact HB.out)) hb);clear hb hbox hg)|((with_reducible refine gate_dst (N:=3) rfl ?_);refine box_event ?hg (N:=3) ?hd (cs:=#[.int .i64 a1_0,.int .i64 a1_1]) (t:=36) ?hr ?_;(case hd => rfl);(case hg => rfl);(case hr => first|(go_simp;done)|(go_simp;rfl));intro gb300 hg w26 hbox hb;have BK300:=am (hbox);obtain ⟨h1_,GW300⟩:=sg (by repeat (first|(with_reducible first|exact HB.out|apply sa|apply sn|apply sd|refine sx ?_ GE299.out)|exact HB.out)) hb hg;replace HB:=h1_;clear h1_;have GE300:=GW300;have NB299_300:=nb (by exact BK299.out) hg;have NB300_299:=ng (by exact BK299.out) hg;replace BK299:=am (bw (by exact BK299.out) hb);clear hb hbox hg)|((with_reducible refine gate_dst (N:=4) rfl ?_);refine box_event ?hg (N:=4) ?hd (cs:=#[.int .i64 0,.int .i64 0,.int .i64 0,.int .i64 0]) (t:=27) ?hr ?_;(case hd => rfl);(case hg => rfl);(case hr => first|(go_simp;done)|(go_simp;rfl));intro gb301 hg w27 hbox hb;have BK301:=am (hbox);obtain ⟨h1_,GW301⟩:=sg (by repeat (first|(with_reducible first|exact HB.out|apply sa|apply sn|apply sd|refine sy ?_ (by assumption))|exact HB.out)) hb hg;replace HB:=h1_;clear h1_;have GE301:=GW301;have NB299_301:=nb (by exact BK299.out) hg;replace BK299:=am (bw (by exact BK299.out) hb);have NB301_299:=am (Ne.symm NB299_301.out);have NB300_301:=nb (by exact BK300.out) hg;have NB301_300:=ng (by exact BK300.out) hg;replace BK300:=am (bw (by exact BK300.out) hb);clear hb hbox hg))
    replace BK299:=am (bd BK299.out);replace BK300:=am (bd BK300.out);replace BK301:=am (bd BK301.out);replace HB:=am (sd HB.out);refine start_ (n:=8) (S:=fun w' => w'.cell? ⟨gb300,0,none⟩ = some (.int .i64 a1_0) ∧ w'.cell? ⟨gb300,1,none⟩ = some (.int .i64 a1_1)) (ds:=[]) #[false,false,false,false,false,false,false,false] (by kernel_rfl) rfl rfl ⟨(bc BK300.out 0).trans rfl,(bc BK300.out 1).trans rfl⟩ (fun hHeld => ?_);refine with_tabW celluloidref19_At.tab1 celluloidref19_At.bits1 (fun HT_ HW_ => ?_);generalize w27.drew = w28 at BK299 BK300 BK301 HB hHeld ⊢;refine pure_ (i:=0) (N:=some 8) (v:=?_) (a':=?_) #[true,false,false,false,false,false,false,false] rfl rfl (any_of HT_.out (by kernel_rfl)) (fun _ _ _ h => h) (Or.inl ⟨by rfl,?_⟩) ?_ ?_
    rotate_left
    · intro w'
      go_simp
      with_reducible rfl
    rotate_left
    · simp only [Act.put,q1,q2,q3,i64_w,i32_w]
      rfl
    refine pure_ (i:=3) (N:=some 11) (v:=?_) (a':=?_) #[true,false,false,true,false,false,false,false] rfl rfl (any_of HT_.out (by kernel_rfl)) (fun _ _ _ h => h) (Or.inl ⟨by rfl,?_⟩) ?_ ?_
    rotate_left
    · intro w'
      go_simp
      with_reducible rfl
    rotate_left
    · simp only [Act.put,q1,q2,q3,i64_w,i32_w]
      rfl
    refine take_ (i:=1) (N:=some 9) (v:=?_) (a':=?_) #[true,true,false,true,false,false,false,false] rfl rfl (take_ofW HT_.out HW_.out (by kernel_rfl)) (fun _ _ _ h => h) (Or.inl ⟨by rfl,?_⟩) hHeld ?_ ?_
    rotate_left
    · rintro w' ⟨s0,s1⟩
      go_simp
      with_reducible rfl
    rotate_left
    · simp only [Act.put,q1,q2,q3,i64_w,i32_w]
      rfl
    refine take_ (i:=4) (N:=some 12) (v:=?_) (a':=?_) #[true,true,false,true,true,false,false,false] rfl rfl (take_ofW HT_.out HW_.out (by kernel_rfl)) (fun _ _ _ h => h) (Or.inl ⟨by rfl,?_⟩) hHeld ?_ ?_
    rotate_left
    · rintro w' ⟨s0,s1⟩
      go_simp
      with_reducible rfl
    rotate_left
    · simp only [Act.put,q1,q2,q3,i64_w,i32_w]
      rfl
    refine one_ (i:=2) (N:=some 10) #[true,true,true,true,true,false,false,false] rfl rfl (one_of HT_.out (by kernel_rfl)) (by decide) (fun K hK => ?_);refine goes_ Try.func31 (by kernel_rfl) rfl #[.int .i64 a1_0] (by rfl) rfl rfl (by (try simp only [List.map_toArray,List.map_cons,List.map_nil]);first|done|rfl|(simp only [List.length_drop,List.length_take];rfl)) ?_
    with_reducible refine (celluloidref19_end.calls a1_0 t302 _ A3.out).mono ?_
    rintro e w' ⟨rfl,⟨nd,rfl⟩⟩
    refine ⟨_,rfl,?_⟩;refine hK.out _ _ ⟨(bc BK300.out 0).trans rfl,(bc BK300.out 1).trans rfl⟩ (fun hHeld => ?_);clear hK K;refine norm_ (a':=?_) ?_ ?_
    rotate_left
    · show Act.put _ (some 10) _ = _
      simp only [Act.put,q1,q2,q3,i64_w,i32_w]
      rfl
    refine one_ (i:=5) (N:=some 13) #[true,true,true,true,true,true,false,false] rfl rfl (one_of HT_.out (by kernel_rfl)) (by decide) (fun K hK => ?_);refine goes_ Try.func31 (by kernel_rfl) rfl #[.int .i64 a1_1] (by rfl) rfl rfl (by (try simp only [List.map_toArray,List.map_cons,List.map_nil]);first|done|rfl|(simp only [List.length_drop,List.length_take];rfl)) ?_
    with_reducible refine (celluloidref19_end.calls a1_1 t303 _ A4.out).mono ?_
    rintro e w' ⟨rfl,⟨nd,rfl⟩⟩
    refine ⟨_,rfl,?_⟩;refine hK.out _ _ ⟨(bc BK300.out 0).trans rfl,(bc BK300.out 1).trans rfl⟩ (fun hHeld => ?_);clear hK K;refine norm_ (a':=?_) ?_ ?_
    rotate_left
    · show Act.put _ (some 13) _ = _
      simp only [Act.put,q1,q2,q3,i64_w,i32_w]
      rfl
    refine pure_ (i:=6) (N:=some 5) (v:=?_) (a':=?_) #[true,true,true,true,true,true,true,false] rfl rfl (any_of HT_.out (by kernel_rfl)) (fun _ _ _ h => h) (Or.inl ⟨by rfl,?_⟩) ?_ ?_
    rotate_left
    · intro w'
      go_simp
      with_reducible rfl
    rotate_left
    · simp only [Act.put,q1,q2,q3,i64_w,i32_w]
      rfl
    refine pure_ (i:=7) (N:=some 6) (v:=?_) (a':=?_) #[true,true,true,true,true,true,true,true] rfl rfl (any_of HT_.out (by kernel_rfl)) (fun _ _ _ h => h) (Or.inl ⟨by rfl,?_⟩) ?_ ?_
    rotate_left
    · intro w'
      go_simp
      with_reducible rfl
    rotate_left
    · simp only [Act.put,q1,q2,q3,i64_w,i32_w]
      rfl
    refine done_ (done_of HT_.out (by kernel_rfl)) ?_
    try go_wp2_with (first|((with_reducible refine gate_callee (f:=18) rfl ?_);refine goesL_ (some 21) rfl rfl Try.func18 (by kernel_rfl) rfl #[.int .i64 (wrap64 ((wrap64 (t302 * t302)) + (wrap64 (t303 * t303))))] rfl (by (try simp only [List.map_toArray,List.map_cons,List.map_nil]);first|done|rfl|(simp only [List.length_drop,List.length_take];rfl)) ?_;(with_reducible refine (celluloidref01_Root.calls k (wrap64 ((wrap64 (t302 * t302)) + (wrap64 (t303 * t303)))) t304 _ A5.out).mono ?_);rintro e w' ⟨rfl,⟨nd,rfl⟩⟩;refine ⟨_,rfl,?_⟩;(repeat (rw [drewN_self w28];generalize hq_ : World.drewN w28 _ = w28;have n0_ : Aside0 (w28.heap[gb299]? = some (.cells #[.int .i64 a0_0,.int .i64 a0_1,.int .i64 a0_2,.int .i64 a0_3,.int .i64 a0_4,.int .i64 a0_5,.int .i64 a0_6,.int .i64 a0_7,.int .i64 a0_8,.int .i64 a0_9,.int .i64 a0_10,.int .i64 a0_11,.slice A0_12 l0_12.length c0_12,.int .i64 a0_13] 43 (0,0))):=⟨by rw [← hq_];exact (by exact BK299.out)⟩;have n1_ : Aside0 (w28.heap[gb300]? = some (.cells #[.int .i64 a1_0,.int .i64 a1_1] 36 (0,0))):=⟨by rw [← hq_];exact (by exact BK300.out)⟩;have n2_ : Aside0 (w28.heap[gb301]? = some (.cells #[.int .i64 0,.int .i64 0,.int .i64 0,.int .i64 0] 27 (0,0))):=⟨by rw [← hq_];exact (by exact BK301.out)⟩;have n3_ : Aside0 (Below w.heap.size w w28):=⟨by rw [← hq_];exact (by repeat (first|(with_reducible first|exact HB.out|apply sa|apply sn|apply sd|refine sy ?_ (by assumption))|exact HB.out))⟩;clear BK299 BK300 BK301 HB hq_;have BK299:=n0_;have BK300:=n1_;have BK301:=n2_;have HB:=n3_;clear n0_ n1_ n2_ n3_));have hnb29:=NB299_300.out;have hnc29:=NB300_299.out;have hnb30:=NB299_301.out;have hnc30:=NB301_299.out;obtain ⟨hcz31_0,hcz31_1,hcz31_2,hcz31_3,hcz31_4,hcz31_5,hcz31_6,hcz31_7,hcz31_8,hcz31_9,hcz31_10,hcz31_11,hcz31_12,hcz31_13⟩:=cq14 BK299.out;obtain ⟨hfz31_0,hfz31_1,hfz31_2,hfz31_3,hfz31_4,hfz31_5,hfz31_6,hfz31_7,hfz31_8,hfz31_9,hfz31_10,hfz31_11,hfz31_12,hfz31_13⟩:=fq14 BK299.out))
    replace BK299:=am (bd BK299.out);replace BK300:=am (bd BK300.out);replace BK301:=am (bd BK301.out);replace HB:=am (sd HB.out);refine start_ (n:=8) (S:=fun w' => w'.cell? ⟨gb299,0,none⟩ = some (.int .i64 a0_0) ∧ w'.cell? ⟨gb299,1,none⟩ = some (.int .i64 a0_1) ∧ w'.cell? ⟨gb299,2,none⟩ = some (.int .i64 a0_2) ∧ w'.cell? ⟨gb299,3,none⟩ = some (.int .i64 a0_3) ∧ w'.cell? ⟨gb299,4,none⟩ = some (.int .i64 a0_4) ∧ w'.cell? ⟨gb299,5,none⟩ = some (.int .i64 a0_5) ∧ w'.cell? ⟨gb299,6,none⟩ = some (.int .i64 a0_6) ∧ w'.cell? ⟨gb299,7,none⟩ = some (.int .i64 a0_7) ∧ w'.cell? ⟨gb299,8,none⟩ = some (.int .i64 a0_8) ∧ w'.cell? ⟨gb299,9,none⟩ = some (.int .i64 a0_9) ∧ w'.cell? ⟨gb299,10,none⟩ = some (.int .i64 a0_10) ∧ w'.cell? ⟨gb299,11,none⟩ = some (.int .i64 a0_11) ∧ w'.cell? ⟨gb299,12,none⟩ = some (.slice A0_12 l0_12.length c0_12) ∧ w'.cell? ⟨gb299,13,none⟩ = some (.int .i64 a0_13)) (ds:=[]) #[false,false,false,false,false,false,false,false] (by kernel_rfl) rfl rfl ⟨(bc BK299.out 0).trans rfl,(bc BK299.out 1).trans rfl,(bc BK299.out 2).trans rfl,(bc BK299.out 3).trans rfl,(bc BK299.out 4).trans rfl,(bc BK299.out 5).trans rfl,(bc BK299.out 6).trans rfl,(bc BK299.out 7).trans rfl,(bc BK299.out 8).trans rfl,(bc BK299.out 9).trans rfl,(bc BK299.out 10).trans rfl,(bc BK299.out 11).trans rfl,(bc BK299.out 12).trans rfl,(bc BK299.out 13).trans rfl⟩ (fun hHeld => ?_);refine with_tabW celluloidref19_At.tab5 celluloidref19_At.bits5 (fun HT_ HW_ => ?_);generalize w28.drew = w32 at BK299 BK300 BK301 HB hHeld ⊢;refine pure_ (i:=0) (N:=some 32) (v:=?_) (a':=?_) #[true,false,false,false,false,false,false,false] rfl rfl (any_of HT_.out (by kernel_rfl)) (fun _ _ _ h => h) (Or.inl ⟨by rfl,?_⟩) ?_ ?_
    rotate_left
    · intro w'
      go_simp
      with_reducible rfl
    rotate_left
    · simp only [Act.put,q1,q2,q3,i64_w,i32_w]
      rfl
    refine pure_ (i:=2) (N:=some 34) (v:=?_) (a':=?_) #[true,false,true,false,false,false,false,false] rfl rfl (any_of HT_.out (by kernel_rfl)) (fun _ _ _ h => h) (Or.inl ⟨by rfl,?_⟩) ?_ ?_
    rotate_left
    · intro w'
      go_simp
      with_reducible rfl
    rotate_left
    · simp only [Act.put,q1,q2,q3,i64_w,i32_w]
      rfl
    refine pure_ (i:=3) (N:=some 35) (v:=?_) (a':=?_) #[true,false,true,true,false,false,false,false] rfl rfl (any_of HT_.out (by kernel_rfl)) (fun _ _ _ h => h) (Or.inl ⟨by rfl,?_⟩) ?_ ?_
    rotate_left
    · intro w'
      go_simp
      with_reducible rfl
    rotate_left
    · simp only [Act.put,q1,q2,q3,i64_w,i32_w]
      rfl
    refine take_ (i:=1) (N:=some 33) (v:=?_) (a':=?_) #[true,true,true,true,false,false,false,false] rfl rfl (take_ofW HT_.out HW_.out (by kernel_rfl)) (fun _ _ _ h => h) (Or.inl ⟨by rfl,?_⟩) hHeld ?_ ?_
    rotate_left
    · rintro w' ⟨s0,s1,s2,s3,s4,s5,s6,s7,s8,s9,s10,s11,s12,s13⟩
      go_simp
      with_reducible rfl
    rotate_left
    · simp only [Act.put,q1,q2,q3,i64_w,i32_w]
      rfl
    refine take_ (i:=4) (N:=some 36) (v:=?_) (a':=?_) #[true,true,true,true,true,false,false,false] rfl rfl (take_ofW HT_.out HW_.out (by kernel_rfl)) (fun _ _ _ h => h) (Or.inl ⟨by rfl,?_⟩) hHeld ?_ ?_
    rotate_left
    · rintro w' ⟨s0,s1,s2,s3,s4,s5,s6,s7,s8,s9,s10,s11,s12,s13⟩
      go_simp
      with_reducible rfl
    rotate_left
    · simp only [Act.put,q1,q2,q3,i64_w,i32_w]
      rfl
    refine one_ (i:=5) (N:=some 37) #[true,true,true,true,true,true,false,false] rfl rfl (one_of HT_.out (by kernel_rfl)) (by decide) (fun K hK => ?_);refine goes_ Try.func11 (by kernel_rfl) rfl #[.int .i64 (wrap64 (Int.tdiv t304 64)),.int .i64 a0_11] (by rfl) rfl rfl (by (try simp only [List.map_toArray,List.map_cons,List.map_nil]);first|done|rfl|(simp only [List.length_drop,List.length_take];rfl)) ?_
    with_reducible refine (celluloidref19_Fold.calls (wrap64 (Int.tdiv t304 64)) a0_11 t311 _ A23.out).mono ?_
    rintro e w' ⟨rfl,⟨nd,rfl⟩⟩
    refine ⟨_,rfl,?_⟩;refine hK.out _ _ ⟨(bc BK299.out 0).trans rfl,(bc BK299.out 1).trans rfl,(bc BK299.out 2).trans rfl,(bc BK299.out 3).trans rfl,(bc BK299.out 4).trans rfl,(bc BK299.out 5).trans rfl,(bc BK299.out 6).trans rfl,(bc BK299.out 7).trans rfl,(bc BK299.out 8).trans rfl,(bc BK299.out 9).trans rfl,(bc BK299.out 10).trans rfl,(bc BK299.out 11).trans rfl,(bc BK299.out 12).trans rfl,(bc BK299.out 13).trans rfl⟩ (fun hHeld => ?_);clear hK K;refine norm_ (a':=?_) ?_ ?_
    rotate_left
    · show Act.put _ (some 37) _ = _
      simp only [Act.put,q1,q2,q3,i64_w,i32_w]
      rfl
    refine one_ (i:=6) (N:=some 38) #[true,true,true,true,true,true,true,false] rfl rfl (one_of HT_.out (by kernel_rfl)) (by decide) (fun K hK => ?_);refine goes_ Try.func15 (by kernel_rfl) rfl #[.slice A0_12 l0_12.length c0_12,.int .i64 t311] (by rfl) rfl rfl (by (try simp only [List.map_toArray,List.map_cons,List.map_nil]);first|done|rfl|(simp only [List.length_drop,List.length_take];rfl)) ?_
    with_reducible refine (celluloidref19_Color.calls k _ _ l0_12 t311 t312 t313 t314 t315 _ ?side1 ?side2 A24.out).mono ?_
    (case side1 => repeat (first|exact (Kd.C_below HR0_12.out (by repeat (first|(with_reducible first|exact HB.out|apply sa|apply sn|apply sd|refine sy ?_ (by assumption))|exact HB.out)))|(with_reducible refine Kd.C_alloc ?_ _)|(with_reducible refine Kd.C_drewN ?_ _)|(with_reducible refine Kd.C_drew ?_)))
    (case side2 => exact HC0_12.out)
    rintro e w33 ⟨rfl,hb⟩
    refine ⟨_,rfl,?_⟩;replace BK299:=am (bw (by exact BK299.out) hb);replace BK300:=am (bw (by exact BK300.out) hb);replace BK301:=am (bw (by exact BK301.out) hb);replace HB:=am (ss (by repeat (first|(with_reducible first|exact HB.out|apply sa|apply sn|apply sd|refine sy ?_ (by assumption))|exact HB.out)) hb);(try clear hb);(try clear hb2);(try clear hk);(try clear hi);refine hK.out _ _ ⟨(bc BK299.out 0).trans rfl,(bc BK299.out 1).trans rfl,(bc BK299.out 2).trans rfl,(bc BK299.out 3).trans rfl,(bc BK299.out 4).trans rfl,(bc BK299.out 5).trans rfl,(bc BK299.out 6).trans rfl,(bc BK299.out 7).trans rfl,(bc BK299.out 8).trans rfl,(bc BK299.out 9).trans rfl,(bc BK299.out 10).trans rfl,(bc BK299.out 11).trans rfl,(bc BK299.out 12).trans rfl,(bc BK299.out 13).trans rfl⟩ (fun hHeld => ?_);clear hK K;refine norm_ (a':=?_) ?_ ?_
    rotate_left
    · show Act.put _ (some 38) _ = _
      simp only [Act.put,q1,q2,q3,i64_w,i32_w]
      rfl
    refine one_ (i:=7) (N:=none) #[true,true,true,true,true,true,true,true] rfl rfl (one_of HT_.out (by kernel_rfl)) (by decide) (fun K hK => ?_);have hs34 : w33.cell? ⟨gb301,0,none⟩ = some (.int .i64 0):=(bc BK301.out 0).trans rfl;have hfs34:=bz BK301.out 0;have hns34_0:=NB299_301.out;have hns34_1:=NB300_301.out;have hms34_0:=NB301_299.out;have hms34_1:=NB301_300.out;have hs35 : w33.cell? ⟨gb301,1,none⟩ = some (.int .i64 0):=(bc BK301.out 1).trans rfl;have hfs35:=bz BK301.out 1;have hns35_0:=NB299_301.out;have hns35_1:=NB300_301.out;have hms35_0:=NB301_299.out;have hms35_1:=NB301_300.out;have hs36 : w33.cell? ⟨gb301,2,none⟩ = some (.int .i64 0):=(bc BK301.out 2).trans rfl;have hfs36:=bz BK301.out 2;have hns36_0:=NB299_301.out;have hns36_1:=NB300_301.out;have hms36_0:=NB301_299.out;have hms36_1:=NB301_300.out;have hs37 : w33.cell? ⟨gb301,3,none⟩ = some (.int .i64 0):=(bc BK301.out 3).trans rfl;have hfs37:=bz BK301.out 3;have hns37_0:=NB299_301.out;have hns37_1:=NB300_301.out;have hms37_0:=NB301_299.out;have hms37_1:=NB301_300.out;refine skip_ (w1:=?_) (by rfl) rfl ?_ ?_
    rotate_left
    · go_simp
      rfl
    refine hK.out _ _ ⟨((cell_far (p:=⟨gb301,_,none⟩) NB299_301.out _).trans (((cell_far (p:=⟨gb301,_,none⟩) NB299_301.out _).trans (((cell_far (p:=⟨gb301,_,none⟩) NB299_301.out _).trans (((cell_far (p:=⟨gb301,_,none⟩) NB299_301.out _).trans (hHeld.1)))))))),((cell_far (p:=⟨gb301,_,none⟩) NB299_301.out _).trans (((cell_far (p:=⟨gb301,_,none⟩) NB299_301.out _).trans (((cell_far (p:=⟨gb301,_,none⟩) NB299_301.out _).trans (((cell_far (p:=⟨gb301,_,none⟩) NB299_301.out _).trans (hHeld.2.1)))))))),((cell_far (p:=⟨gb301,_,none⟩) NB299_301.out _).trans (((cell_far (p:=⟨gb301,_,none⟩) NB299_301.out _).trans (((cell_far (p:=⟨gb301,_,none⟩) NB299_301.out _).trans (((cell_far (p:=⟨gb301,_,none⟩) NB299_301.out _).trans (hHeld.2.2.1)))))))),((cell_far (p:=⟨gb301,_,none⟩) NB299_301.out _).trans (((cell_far (p:=⟨gb301,_,none⟩) NB299_301.out _).trans (((cell_far (p:=⟨gb301,_,none⟩) NB299_301.out _).trans (((cell_far (p:=⟨gb301,_,none⟩) NB299_301.out _).trans (hHeld.2.2.2.1)))))))),((cell_far (p:=⟨gb301,_,none⟩) NB299_301.out _).trans (((cell_far (p:=⟨gb301,_,none⟩) NB299_301.out _).trans (((cell_far (p:=⟨gb301,_,none⟩) NB299_301.out _).trans (((cell_far (p:=⟨gb301,_,none⟩) NB299_301.out _).trans (hHeld.2.2.2.2.1)))))))),((cell_far (p:=⟨gb301,_,none⟩) NB299_301.out _).trans (((cell_far (p:=⟨gb301,_,none⟩) NB299_301.out _).trans (((cell_far (p:=⟨gb301,_,none⟩) NB299_301.out _).trans (((cell_far (p:=⟨gb301,_,none⟩) NB299_301.out _).trans (hHeld.2.2.2.2.2.1)))))))),((cell_far (p:=⟨gb301,_,none⟩) NB299_301.out _).trans (((cell_far (p:=⟨gb301,_,none⟩) NB299_301.out _).trans (((cell_far (p:=⟨gb301,_,none⟩) NB299_301.out _).trans (((cell_far (p:=⟨gb301,_,none⟩) NB299_301.out _).trans (hHeld.2.2.2.2.2.2.1)))))))),((cell_far (p:=⟨gb301,_,none⟩) NB299_301.out _).trans (((cell_far (p:=⟨gb301,_,none⟩) NB299_301.out _).trans (((cell_far (p:=⟨gb301,_,none⟩) NB299_301.out _).trans (((cell_far (p:=⟨gb301,_,none⟩) NB299_301.out _).trans (hHeld.2.2.2.2.2.2.2.1)))))))),((cell_far (p:=⟨gb301,_,none⟩) NB299_301.out _).trans (((cell_far (p:=⟨gb301,_,none⟩) NB299_301.out _).trans (((cell_far (p:=⟨gb301,_,none⟩) NB299_301.out _).trans (((cell_far (p:=⟨gb301,_,none⟩) NB299_301.out _).trans (hHeld.2.2.2.2.2.2.2.2.1)))))))),((cell_far (p:=⟨gb301,_,none⟩) NB299_301.out _).trans (((cell_far (p:=⟨gb301,_,none⟩) NB299_301.out _).trans (((cell_far (p:=⟨gb301,_,none⟩) NB299_301.out _).trans (((cell_far (p:=⟨gb301,_,none⟩) NB299_301.out _).trans (hHeld.2.2.2.2.2.2.2.2.2.1)))))))),((cell_far (p:=⟨gb301,_,none⟩) NB299_301.out _).trans (((cell_far (p:=⟨gb301,_,none⟩) NB299_301.out _).trans (((cell_far (p:=⟨gb301,_,none⟩) NB299_301.out _).trans (((cell_far (p:=⟨gb301,_,none⟩) NB299_301.out _).trans (hHeld.2.2.2.2.2.2.2.2.2.2.1)))))))),((cell_far (p:=⟨gb301,_,none⟩) NB299_301.out _).trans (((cell_far (p:=⟨gb301,_,none⟩) NB299_301.out _).trans (((cell_far (p:=⟨gb301,_,none⟩) NB299_301.out _).trans (((cell_far (p:=⟨gb301,_,none⟩) NB299_301.out _).trans (hHeld.2.2.2.2.2.2.2.2.2.2.2.1)))))))),((cell_far (p:=⟨gb301,_,none⟩) NB299_301.out _).trans (((cell_far (p:=⟨gb301,_,none⟩) NB299_301.out _).trans (((cell_far (p:=⟨gb301,_,none⟩) NB299_301.out _).trans (((cell_far (p:=⟨gb301,_,none⟩) NB299_301.out _).trans (hHeld.2.2.2.2.2.2.2.2.2.2.2.2.1)))))))),((cell_far (p:=⟨gb301,_,none⟩) NB299_301.out _).trans (((cell_far (p:=⟨gb301,_,none⟩) NB299_301.out _).trans (((cell_far (p:=⟨gb301,_,none⟩) NB299_301.out _).trans (((cell_far (p:=⟨gb301,_,none⟩) NB299_301.out _).trans (hHeld.2.2.2.2.2.2.2.2.2.2.2.2.2))))))))⟩ (fun hHeld => ?_);clear hK K;refine done_ (done_of HT_.out (by kernel_rfl)) ?_
    try go_wp2
    refine bodyPost_ret (results_cell_row rfl _ _ gb301 27 #[.int .i64 t312,.int .i64 t313,.int .i64 t314,.int .i64 t315] (0,0) _ rfl (by (with_reducible repeat (first|refine bn ?_ _|refine bd ?_|refine ba ?_ _));refine bp (cs:=#[.int .i64 t312,.int .i64 t313,.int .i64 t314,.int .i64 0]) ?_ 3 _ rfl;(with_reducible repeat (first|refine bn ?_ _|refine bd ?_|refine ba ?_ _));refine bp (cs:=#[.int .i64 t312,.int .i64 t313,.int .i64 0,.int .i64 0]) ?_ 2 _ rfl;(with_reducible repeat (first|refine bn ?_ _|refine bd ?_|refine ba ?_ _));refine bp (cs:=#[.int .i64 t312,.int .i64 0,.int .i64 0,.int .i64 0]) ?_ 1 _ rfl;(with_reducible repeat (first|refine bn ?_ _|refine bd ?_|refine ba ?_ _));refine bp (cs:=#[.int .i64 0,.int .i64 0,.int .i64 0,.int .i64 0]) ?_ 0 _ rfl;(with_reducible repeat (first|refine bn ?_ _|refine bd ?_|refine ba ?_ _));exact BK301.out) Try.underlying27 rfl (by kernel_rfl)) rfl ?_
    exact ⟨by first|rfl|(simp [errW_none,errW_some] <;> rfl)|(simp [*,errW_none,errW_some] <;> rfl),by repeat (first|(with_reducible first|exact HB.out|apply sa|apply sn|apply sd|refine sy ?_ (by assumption))|exact HB.out)⟩

end Go.Proofs.Ytdphpilcokloeaa.P
