/- Printed by printx.py (wip/tool) out of the translation: plain functions that tell what the program answers,and the proofs that the program comes to these answers,for all arguments of their kinds. Lean checks it. -/
import Derived.Test.YtmdfcinjmlagcaaShort
import Derived.Test.YtmdfcinjmlagcaaPx0
import Derived.Test.YtmdfcinjmlagcaaPx9
import Derived.Test.YtmdfcinjmlagcaaPx14
import Derived.Test.YtmdfcinjmlagcaaPx16
namespace Go.Proofs.Ytmdfcinjmlagcaa.P
open Go.RowKit Go.Proofs.YtmdfcinjmlagcaaW.PrintWords Go.Proofs.YtmdfcinjmlagcaaW.PrintLast Go.Proofs.YtmdfcinjmlagcaaW.PrintMore
attribute [local go_sem] max2_int min2_int max_two min_two max_three min_three max_four min_four max_five min_five max_six min_six   -- for this text's walks alone
set_option linter.unusedVariables false
set_option linter.unusedSimpArgs false

/-! ### ramp_Fold: function 57 -/
def ramp_Fold.f (a0 : Int) (a1 : Int) : Option (Int):=if a1 = 0 then (some (mn (mx a0 0) 255)) else (if a1 = 1 then (some (mn (Go.bits .and .i64 a0 511) (wrap64 (511 - (Go.bits .and .i64 a0 511))))) else (if a1 = 2 then (some (Go.bits .and .i64 a0 255)) else (some 0)))
set_option maxHeartbeats 8000000 in
set_option maxRecDepth 100000 in
theorem ramp_Fold.calls (a0 : Int) (a1 : Int) (r : Int) (w : World) (h : ramp_Fold.f a0 a1 = some r) :
    Calls Try.prog 57 #[.int .i64 a0,.int .i64 a1] w fun e w' => e = .returned (.int .i64 r) ∧ Below w.heap.size w w':=by
  have HB:=am (Below.refl w.heap.size w);have H : (if a1 = 0 then (some (mn (mx a0 0) 255)) else (if a1 = 1 then (some (mn (Go.bits .and .i64 a0 511) (wrap64 (511 - (Go.bits .and .i64 a0 511))))) else (if a1 = 2 then (some (Go.bits .and .i64 a0 255)) else (some 0)))) = some r:=h;clear h
  by_cases c3 : a1 = 0
  · rw [if_pos c3] at H
    have c3b0 : (a1 == 0) = true:=beq_iff_eq.mpr c3;have c3b1 : (a1 != 0) = false:=bne_eq_false_iff_eq.mpr c3;clear c3;obtain ⟨ji4,hji4⟩ : ∃ j_ : Int,(mx a0 0) = j_:=⟨_,rfl⟩
    replace H : (some (mn (ji4) 255)) = some r:=by first|(rw [hji4] at H;exact H)|(simp only [hji4] at H ⊢;exact H)
    (try (have hji4l : 0 ≤ ji4:=by (rw [← hji4];unfold mx;(repeat' split) <;> omega)))
    (try (have hji4m : 0 ≤ ji4:=by omega))
    have hji4_ : (if a0 < 0 then 0 else a0) = ji4:=hji4;obtain ⟨ji5,hji5⟩ : ∃ j_ : Int,(mn (ji4) 255) = j_:=⟨_,rfl⟩
    replace H : (some ji5) = some r:=by first|(rw [hji5] at H;exact H)|(simp only [hji5] at H ⊢;exact H)
    have hji5_ : (if 255 < (ji4) then 255 else (ji4)) = ji5:=hji5;obtain rfl:=Option.some.inj H
    go_enter Try.func57,Try.ntmps57
    go_wp2
    go_ret
    exact ⟨by first|rfl|(simp [errW_none,errW_some] <;> rfl)|(simp only [← hji4, ← hji5];first|rfl|(simp [errW_none,errW_some] <;> rfl))|(simp [*,errW_none,errW_some] <;> rfl),by repeat (first|(with_reducible first|exact HB.out|apply sa|apply sn|apply sd)|exact HB.out)⟩
  · rw [if_neg c3] at H
    have c3b0 : (a1 == 0) = false:=beq_eq_false_iff_ne.mpr c3;have c3b1 : (a1 != 0) = true:=bne_iff_ne.mpr c3
    by_cases c6 : a1 = 1
    · rw [if_pos c6] at H
      have c6b0 : (a1 == 1) = true:=beq_iff_eq.mpr c6;have c6b1 : (a1 != 1) = false:=bne_eq_false_iff_eq.mpr c6;clear c6;obtain ⟨ji7,hji7⟩ : ∃ j_ : Int,(mn (Go.bits .and .i64 a0 511) (wrap64 (511 - (Go.bits .and .i64 a0 511)))) = j_:=⟨_,rfl⟩
      replace H : (some ji7) = some r:=by first|(rw [hji7] at H;exact H)|(simp only [hji7] at H ⊢;exact H)
      have hji7_ : (if (wrap64 (511 - (Go.bits .and .i64 a0 511))) < (Go.bits .and .i64 a0 511) then (wrap64 (511 - (Go.bits .and .i64 a0 511))) else (Go.bits .and .i64 a0 511)) = ji7:=hji7;obtain rfl:=Option.some.inj H
      go_enter Try.func57,Try.ntmps57
      go_wp2
      go_ret
      exact ⟨by first|rfl|(simp [errW_none,errW_some] <;> rfl)|(simp only [← hji7];first|rfl|(simp [errW_none,errW_some] <;> rfl))|(simp [*,errW_none,errW_some] <;> rfl),by repeat (first|(with_reducible first|exact HB.out|apply sa|apply sn|apply sd)|exact HB.out)⟩
    · rw [if_neg c6] at H
      have c6b0 : (a1 == 1) = false:=beq_eq_false_iff_ne.mpr c6;have c6b1 : (a1 != 1) = true:=bne_iff_ne.mpr c6
      by_cases c8 : a1 = 2
      · rw [if_pos c8] at H
        have c8b0 : (a1 == 2) = true:=beq_iff_eq.mpr c8;have c8b1 : (a1 != 2) = false:=bne_eq_false_iff_eq.mpr c8;clear c8;obtain rfl:=Option.some.inj H
        go_enter Try.func57,Try.ntmps57
        go_wp2
        go_ret
        exact ⟨by first|rfl|(simp [errW_none,errW_some] <;> rfl)|(simp [*,errW_none,errW_some] <;> rfl),by repeat (first|(with_reducible first|exact HB.out|apply sa|apply sn|apply sd)|exact HB.out)⟩
      · rw [if_neg c8] at H
        have c8b0 : (a1 == 2) = false:=beq_eq_false_iff_ne.mpr c8;have c8b1 : (a1 != 2) = true:=bne_iff_ne.mpr c8;obtain rfl:=Option.some.inj H
        go_enter Try.func57,Try.ntmps57
        go_wp2
        go_ret
        exact ⟨by first|rfl|(simp [errW_none,errW_some] <;> rfl)|(simp [*,errW_none,errW_some] <;> rfl),by repeat (first|(with_reducible first|exact HB.out|apply sa|apply sn|apply sd)|exact HB.out)⟩

/-! ### ramp_At: function 32 -/
def ramp_At.j0 : Nat → Int → Bool → Int → Int → Int → Int → Int → Int → Int → Int → Int → Int → Int → Int → List (S80) → Int → Int → Int → Option (Int × Int × Int × Int)
  | 0,_,_,_,_,_,_,_,_,_,_,_,_,_,_,_,_,_,_ => none
  | k + 1,x5,x8,x294000,x294001,x294002,x294003,x294004,x294005,x294006,x294007,x294008,x294009,x294010,x294011,x294012,x294013,x295000,x295001 => if x8 = true then (some (0,0,0,0)) else (if x294000 = 18 then ((ramp_Circle.f k x295000 x295001).bind fun t298 => ((ramp_Fold.f t298 x294011).bind fun t299 => ((ramp_Color.f k x294012 t299).bind fun bt300 => (some (bt300.1,bt300.2.1,bt300.2.2.1,bt300.2.2.2))))) else ((ramp_Fold.f x5 x294011).bind fun t304 => ((ramp_Color.f k x294012 t304).bind fun bt305 => (some (bt305.1,bt305.2.1,bt305.2.2.1,bt305.2.2.2)))))
def ramp_At.f (k : Nat) (a0_0 : Int) (a0_1 : Int) (a0_2 : Int) (a0_3 : Int) (a0_4 : Int) (a0_5 : Int) (a0_6 : Int) (a0_7 : Int) (a0_8 : Int) (a0_9 : Int) (a0_10 : Int) (a0_11 : Int) (l0_12 : List (S80)) (a0_13 : Int) (a1_0 : Int) (a1_1 : Int) : Option (Int × Int × Int × Int):=(ramp_Line.f a1_0 a1_1).bind fun t296 => ((style_RightFill.f k a0_0 a0_1 a0_2 a0_3 a0_4 a0_5 a0_6 a0_7 a0_8 a0_9 a0_10 a0_11 l0_12 a0_13).bind fun t297 => (if t297 = true then (if a0_0 = 16 then (ramp_At.j0 k t296 false a0_0 a0_1 a0_2 a0_3 a0_4 a0_5 a0_6 a0_7 a0_8 a0_9 a0_10 a0_11 l0_12 a0_13 a1_0 a1_1) else (ramp_At.j0 k t296 (a0_0 != 18) a0_0 a0_1 a0_2 a0_3 a0_4 a0_5 a0_6 a0_7 a0_8 a0_9 a0_10 a0_11 l0_12 a0_13 a1_0 a1_1)) else (ramp_At.j0 k t296 true a0_0 a0_1 a0_2 a0_3 a0_4 a0_5 a0_6 a0_7 a0_8 a0_9 a0_10 a0_11 l0_12 a0_13 a1_0 a1_1)))
theorem ramp_At.mono_l : ∀ k,(∀ y0 y1 y2 y3 y4 y5 y6 y7 y8 y9 y10 y11 y12 y13 y14 y15 y16 y17,LeO (ramp_At.j0 k y0 y1 y2 y3 y4 y5 y6 y7 y8 y9 y10 y11 y12 y13 y14 y15 y16 y17) (ramp_At.j0 (k + 1) y0 y1 y2 y3 y4 y5 y6 y7 y8 y9 y10 y11 y12 y13 y14 y15 y16 y17))
  | 0 => fun _ _ _ _ _ _ _ _ _ _ _ _ _ _ _ _ _ _ r h => by simp [ramp_At.j0] at h
  | k + 1 => by
    have ih0:=ramp_At.mono_l k
    · intro y0 y1 y2 y3 y4 y5 y6 y7 y8 y9 y10 y11 y12 y13 y14 y15 y16 y17
      unfold ramp_At.j0
      repeat' first
      | (with_reducible exact ih0 _ _ _ _ _ _ _ _ _ _ _ _ _ _ _ _ _ _)
      | (with_reducible exact ramp_Circle.mono _ _ _)
      | (with_reducible exact ramp_Color.mono _ _ _)
      | (with_reducible exact style_RightFill.mono _ _ _ _ _ _ _ _ _ _ _ _ _ _ _)
      | (with_reducible exact LeO.refl _)
      | (with_reducible exact LeO.none _)
      | (with_reducible refine LeO.ite ?_ ?_)
      | (with_reducible refine LeO.bind ?_ (fun _ => ?_))
      | exact ih0 _ _ _ _ _ _ _ _ _ _ _ _ _ _ _ _ _ _
      | exact ramp_Circle.mono _ _ _
      | exact ramp_Color.mono _ _ _
      | exact style_RightFill.mono _ _ _ _ _ _ _ _ _ _ _ _ _ _ _
      | exact LeO.none _
      | refine LeO.ite ?_ ?_
      | refine LeO.bind ?_ (fun _ => ?_)
theorem ramp_At.mono : ∀ a0 a1 a2 a3 a4 a5 a6 a7 a8 a9 a10 a11 a12 a13 a14 a15 k,LeO (ramp_At.f k a0 a1 a2 a3 a4 a5 a6 a7 a8 a9 a10 a11 a12 a13 a14 a15) (ramp_At.f (k + 1) a0 a1 a2 a3 a4 a5 a6 a7 a8 a9 a10 a11 a12 a13 a14 a15):=by
  intro a0 a1 a2 a3 a4 a5 a6 a7 a8 a9 a10 a11 a12 a13 a14 a15 k
  have ih0:=ramp_At.mono_l k
  unfold ramp_At.f
  repeat' first
      | (with_reducible exact ih0 _ _ _ _ _ _ _ _ _ _ _ _ _ _ _ _ _ _)
      | (with_reducible exact ramp_Circle.mono _ _ _)
      | (with_reducible exact ramp_Color.mono _ _ _)
      | (with_reducible exact style_RightFill.mono _ _ _ _ _ _ _ _ _ _ _ _ _ _ _)
      | (with_reducible exact LeO.refl _)
      | (with_reducible exact LeO.none _)
      | (with_reducible refine LeO.ite ?_ ?_)
      | (with_reducible refine LeO.bind ?_ (fun _ => ?_))
      | exact ih0 _ _ _ _ _ _ _ _ _ _ _ _ _ _ _ _ _ _
      | exact ramp_Circle.mono _ _ _
      | exact ramp_Color.mono _ _ _
      | exact style_RightFill.mono _ _ _ _ _ _ _ _ _ _ _ _ _ _ _
      | exact LeO.none _
      | refine LeO.ite ?_ ?_
      | refine LeO.bind ?_ (fun _ => ?_)
def ramp_At.T6 : Bool × List (List Nat × List Nat):=(true,[([],[]),([0],[0]),([],[]),([],[]),([3],[3]),([2,4],[2,4]),([1,5,5],[1,5]),([6,6,0,1,2,3,4,5,6],[6])])
def ramp_At.B6 : List Nat:=[0,1,0,0,8,28,63,127]
theorem ramp_At.tab6 : rtab .any (opsOf Try.f32 6) = ramp_At.T6:=by kernel_rfl
theorem ramp_At.bits6 : waitsOk ramp_At.T6.2 ramp_At.B6 = true:=by kernel_rfl
set_option maxHeartbeats 8000000 in
set_option maxRecDepth 100000 in
theorem ramp_At.calls (k : Nat) (a0_0 : Int) (a0_1 : Int) (a0_2 : Int) (a0_3 : Int) (a0_4 : Int) (a0_5 : Int) (a0_6 : Int) (a0_7 : Int) (a0_8 : Int) (a0_9 : Int) (a0_10 : Int) (a0_11 : Int) (A0_12 : Option Addr) (c0_12 : Nat) (l0_12 : List (S80)) (a0_13 : Int) (a1_0 : Int) (a1_1 : Int) (r1 : Int) (r2 : Int) (r3 : Int) (r4 : Int) (w : World) (hr0_12 : Kd.C k80 w A0_12 l0_12.length l0_12) (hc0_12 : l0_12.length ≤ c0_12) (h : ramp_At.f k a0_0 a0_1 a0_2 a0_3 a0_4 a0_5 a0_6 a0_7 a0_8 a0_9 a0_10 a0_11 l0_12 a0_13 a1_0 a1_1 = some (r1,r2,r3,r4)) :
    Calls Try.prog 32 #[.agg #[.int .i64 a0_0,.int .i64 a0_1,.int .i64 a0_2,.int .i64 a0_3,.int .i64 a0_4,.int .i64 a0_5,.int .i64 a0_6,.int .i64 a0_7,.int .i64 a0_8,.int .i64 a0_9,.int .i64 a0_10,.int .i64 a0_11,.slice A0_12 l0_12.length c0_12,.int .i64 a0_13],.agg #[.int .i64 a1_0,.int .i64 a1_1]] w fun e w' => e = .returned (.agg #[.int .i64 r1,.int .i64 r2,.int .i64 r3,.int .i64 r4]) ∧ Below w.heap.size w w':=by
  have hu31:=Try.underlying31;have hu37:=Try.underlying37;have hu23:=Try.underlying23;have HR0_12:=am hr0_12;have HC0_12:=am hc0_12;clear hr0_12 hc0_12;have HB:=am (Below.refl w.heap.size w);have H : ((ramp_Line.f a1_0 a1_1).bind fun t296 => ((style_RightFill.f k a0_0 a0_1 a0_2 a0_3 a0_4 a0_5 a0_6 a0_7 a0_8 a0_9 a0_10 a0_11 l0_12 a0_13).bind fun t297 => (if t297 = true then (if a0_0 = 16 then (ramp_At.j0 k t296 false a0_0 a0_1 a0_2 a0_3 a0_4 a0_5 a0_6 a0_7 a0_8 a0_9 a0_10 a0_11 l0_12 a0_13 a1_0 a1_1) else (ramp_At.j0 k t296 (a0_0 != 18) a0_0 a0_1 a0_2 a0_3 a0_4 a0_5 a0_6 a0_7 a0_8 a0_9 a0_10 a0_11 l0_12 a0_13 a1_0 a1_1)) else (ramp_At.j0 k t296 true a0_0 a0_1 a0_2 a0_3 a0_4 a0_5 a0_6 a0_7 a0_8 a0_9 a0_10 a0_11 l0_12 a0_13 a1_0 a1_1)))) = some (r1,r2,r3,r4):=h;clear h;replace H:=Option.bind_eq_some_iff.mp H;obtain ⟨t296,A30,H⟩:=H;replace H : ((style_RightFill.f k a0_0 a0_1 a0_2 a0_3 a0_4 a0_5 a0_6 a0_7 a0_8 a0_9 a0_10 a0_11 l0_12 a0_13).bind fun t297 => (if t297 = true then (if a0_0 = 16 then (ramp_At.j0 k t296 false a0_0 a0_1 a0_2 a0_3 a0_4 a0_5 a0_6 a0_7 a0_8 a0_9 a0_10 a0_11 l0_12 a0_13 a1_0 a1_1) else (ramp_At.j0 k t296 (a0_0 != 18) a0_0 a0_1 a0_2 a0_3 a0_4 a0_5 a0_6 a0_7 a0_8 a0_9 a0_10 a0_11 l0_12 a0_13 a1_0 a1_1)) else (ramp_At.j0 k t296 true a0_0 a0_1 a0_2 a0_3 a0_4 a0_5 a0_6 a0_7 a0_8 a0_9 a0_10 a0_11 l0_12 a0_13 a1_0 a1_1))) = some (r1,r2,r3,r4):=H;have A3:=am A30;clear A30;have HC4:=am H;clear H
  go_enter Try.func32,Try.ntmps32
  go_upto_region 2 with (first|((with_reducible refine gate_dst (N:=2) rfl ?_);refine box_event ?hg (N:=2) ?hd (cs:=#[.int .i64 a0_0,.int .i64 a0_1,.int .i64 a0_2,.int .i64 a0_3,.int .i64 a0_4,.int .i64 a0_5,.int .i64 a0_6,.int .i64 a0_7,.int .i64 a0_8,.int .i64 a0_9,.int .i64 a0_10,.int .i64 a0_11,.slice A0_12 l0_12.length c0_12,.int .i64 a0_13]) (t:=31) ?hr ?_;(case hd => rfl);(case hg => rfl);(case hr => first|(go_simp;done)|(go_simp;rfl));intro gb293 hg w5 hbox hb;have n0_:=am (ss (by repeat (first|(with_reducible first|exact HB.out|apply sa|apply sn|apply sd)|exact HB.out)) hb);have n1_:=am (hbox);have n2_:=am ((by rw [hg];exact (sz (by repeat (first|(with_reducible first|exact HB.out|apply sa|apply sn|apply sd)|exact HB.out))) : w.heap.size ≤ gb293));have n3_:=am ((by rw [hg];exact (sz (by repeat (first|(with_reducible first|exact HB.out|apply sa|apply sn|apply sd)|exact HB.out))) : w.heap.size ≤ gb293));clear HB;have HB:=n0_;have BK293:=n1_;have GW293:=n2_;have GE293:=n3_;clear n0_ n1_ n2_ n3_;clear hb hbox hg)|((with_reducible refine gate_dst (N:=3) rfl ?_);refine box_event ?hg (N:=3) ?hd (cs:=#[.int .i64 a1_0,.int .i64 a1_1]) (t:=37) ?hr ?_;(case hd => rfl);(case hg => rfl);(case hr => first|(go_simp;done)|(go_simp;rfl));intro gb294 hg w6 hbox hb;have n0_:=am (bw (by exact BK293.out) hb);have n1_:=am (ss (by repeat (first|(with_reducible first|exact HB.out|apply sa|apply sn|apply sd|refine sx ?_ GE293.out)|exact HB.out)) hb);have n2_:=am (hbox);have n3_:=am ((by rw [hg];exact (sz (by repeat (first|(with_reducible first|exact HB.out|apply sa|apply sn|apply sd|refine sx ?_ GE293.out)|exact HB.out))) : w.heap.size ≤ gb294));have n4_:=n3_;have n5_:=nb (by exact BK293.out) hg;have n6_:=ng (by exact BK293.out) hg;clear BK293;clear HB;have BK293:=n0_;have HB:=n1_;have BK294:=n2_;have GW294:=n3_;have GE294:=n4_;have NB293_294:=n5_;have NB294_293:=n6_;clear n0_ n1_ n2_ n3_ n4_ n5_ n6_;clear hb hbox hg)|((with_reducible refine gate_dst (N:=4) rfl ?_);refine box_event ?hg (N:=4) ?hd (cs:=#[.int .i64 0,.int .i64 0,.int .i64 0,.int .i64 0]) (t:=23) ?hr ?_;(case hd => rfl);(case hg => rfl);(case hr => first|(go_simp;done)|(go_simp;rfl));intro gb295 hg w7 hbox hb;have n0_:=am (bw (by exact BK293.out) hb);have n1_:=am (bw (by exact BK294.out) hb);have n2_:=am (ss (by repeat (first|(with_reducible first|exact HB.out|apply sa|apply sn|apply sd|refine sy ?_ (by assumption))|exact HB.out)) hb);have n3_:=am (hbox);have n4_:=am ((by rw [hg];exact (sz (by repeat (first|(with_reducible first|exact HB.out|apply sa|apply sn|apply sd|refine sy ?_ (by assumption))|exact HB.out))) : w.heap.size ≤ gb295));have n5_:=n4_;have n6_:=nb (by exact BK293.out) hg;have n7_:=am (Ne.symm n6_.out);have n8_:=nb (by exact BK294.out) hg;have n9_:=ng (by exact BK294.out) hg;clear BK293;clear BK294;clear HB;have BK293:=n0_;have BK294:=n1_;have HB:=n2_;have BK295:=n3_;have GW295:=n4_;have GE295:=n5_;have NB293_295:=n6_;have NB295_293:=n7_;have NB294_295:=n8_;have NB295_294:=n9_;clear n0_ n1_ n2_ n3_ n4_ n5_ n6_ n7_ n8_ n9_;clear hb hbox hg;have hnb8:=NB294_293.out;have hnc8:=NB293_294.out;have hnb9:=NB294_295.out;have hnc9:=NB295_294.out;obtain ⟨hcz10_0,hcz10_1⟩:=cq2 BK294.out;obtain ⟨hfz10_0,hfz10_1⟩:=fq2 BK294.out)|((with_reducible refine gate_callee (f:=54) rfl ?_);refine goesL_ (some 7) rfl rfl Try.func54 (by kernel_rfl) rfl #[.agg #[.int .i64 a1_0,.int .i64 a1_1]] rfl (by (try simp only [List.map_toArray,List.map_cons,List.map_nil]);first|done|rfl|(simp only [List.length_drop,List.length_take];rfl)) ?_;(with_reducible refine (ramp_Line.calls a1_0 a1_1 t296 _ A3.out).mono ?_);rintro e w11 ⟨rfl,hb⟩;refine ⟨_,rfl,?_⟩;have n0_:=am (bw (by exact BK293.out) hb);have n1_:=am (bw (by exact BK294.out) hb);have n2_:=am (bw (by exact BK295.out) hb);have n3_:=am (ss (by repeat (first|(with_reducible first|exact HB.out|apply sa|apply sn|apply sd|refine sy ?_ (by assumption))|exact HB.out)) hb);clear BK293;clear BK294;clear BK295;clear HB;have BK293:=n0_;have BK294:=n1_;have BK295:=n2_;have HB:=n3_;clear n0_ n1_ n2_ n3_;(try clear hb);(try clear hb2);(try clear hk);(try clear hi)))
  (try simp only [Act.put,q1,q2,q3])
  go_cut [8] (fun v8 wc => ∃ (kq : Nat) (x8_3 : Bool),v8 = .bool x8_3 ∧ Aside0 (ramp_At.j0 kq t296 x8_3 a0_0 a0_1 a0_2 a0_3 a0_4 a0_5 a0_6 a0_7 a0_8 a0_9 a0_10 a0_11 l0_12 a0_13 a1_0 a1_1 = some (r1,r2,r3,r4)) ∧ Aside0 (kq ≤ k) ∧ Aside0 (wc.heap[gb293]? = some (.cells #[.int .i64 a0_0,.int .i64 a0_1,.int .i64 a0_2,.int .i64 a0_3,.int .i64 a0_4,.int .i64 a0_5,.int .i64 a0_6,.int .i64 a0_7,.int .i64 a0_8,.int .i64 a0_9,.int .i64 a0_10,.int .i64 a0_11,(.slice A0_12 l0_12.length c0_12),.int .i64 a0_13] 31 (0,0))) ∧ Aside0 (wc.heap[gb294]? = some (.cells #[.int .i64 a1_0,.int .i64 a1_1] 37 (0,0))) ∧ Aside0 (wc.heap[gb295]? = some (.cells #[.int .i64 0,.int .i64 0,.int .i64 0,.int .i64 0] 23 (0,0))) ∧ Aside0 (Below w.heap.size w wc))
  case first =>
    have H:=HC4.out;clear HC4;replace H:=Option.bind_eq_some_iff.mp H;obtain ⟨t297,A120,H⟩:=H;replace H : (if t297 = true then (if a0_0 = 16 then (ramp_At.j0 k t296 false a0_0 a0_1 a0_2 a0_3 a0_4 a0_5 a0_6 a0_7 a0_8 a0_9 a0_10 a0_11 l0_12 a0_13 a1_0 a1_1) else (ramp_At.j0 k t296 (a0_0 != 18) a0_0 a0_1 a0_2 a0_3 a0_4 a0_5 a0_6 a0_7 a0_8 a0_9 a0_10 a0_11 l0_12 a0_13 a1_0 a1_1)) else (ramp_At.j0 k t296 true a0_0 a0_1 a0_2 a0_3 a0_4 a0_5 a0_6 a0_7 a0_8 a0_9 a0_10 a0_11 l0_12 a0_13 a1_0 a1_1)) = some (r1,r2,r3,r4):=H;have A12:=am A120;clear A120
    by_cases c13 : t297 = true
    · subst c13
      have H1 : (if a0_0 = 16 then (ramp_At.j0 k t296 false a0_0 a0_1 a0_2 a0_3 a0_4 a0_5 a0_6 a0_7 a0_8 a0_9 a0_10 a0_11 l0_12 a0_13 a1_0 a1_1) else (ramp_At.j0 k t296 (a0_0 != 18) a0_0 a0_1 a0_2 a0_3 a0_4 a0_5 a0_6 a0_7 a0_8 a0_9 a0_10 a0_11 l0_12 a0_13 a1_0 a1_1)) = some (r1,r2,r3,r4):=by rw [if_pos rfl] at H;exact H
      clear H;have H:=H1;clear H1
      by_cases c14 : a0_0 = 16
      · rw [if_pos c14] at H
        have c14b0 : (a0_0 == 16) = true:=beq_iff_eq.mpr c14;have c14b1 : (a0_0 != 16) = false:=bne_eq_false_iff_eq.mpr c14;clear c14
        (first|rw [c14b0]|(simp only [i64_w,i32_w];rw [c14b0])|skip)
        have H':=am H;clear H;have hnb15:=NB293_294.out;have hnc15:=NB294_293.out;have hnb16:=NB293_295.out;have hnc16:=NB295_293.out;have hcz17_0 : w11.cell? ⟨gb293,0,none⟩ = some (.int .i64 a0_0):=(bc BK293.out 0).trans rfl;have hcz17_1 : w11.cell? ⟨gb293,1,none⟩ = some (.int .i64 a0_1):=(bc BK293.out 1).trans rfl;have hcz17_2 : w11.cell? ⟨gb293,2,none⟩ = some (.int .i64 a0_2):=(bc BK293.out 2).trans rfl;have hcz17_3 : w11.cell? ⟨gb293,3,none⟩ = some (.int .i64 a0_3):=(bc BK293.out 3).trans rfl;have hcz17_4 : w11.cell? ⟨gb293,4,none⟩ = some (.int .i64 a0_4):=(bc BK293.out 4).trans rfl;have hcz17_5 : w11.cell? ⟨gb293,5,none⟩ = some (.int .i64 a0_5):=(bc BK293.out 5).trans rfl;have hcz17_6 : w11.cell? ⟨gb293,6,none⟩ = some (.int .i64 a0_6):=(bc BK293.out 6).trans rfl;have hcz17_7 : w11.cell? ⟨gb293,7,none⟩ = some (.int .i64 a0_7):=(bc BK293.out 7).trans rfl;have hcz17_8 : w11.cell? ⟨gb293,8,none⟩ = some (.int .i64 a0_8):=(bc BK293.out 8).trans rfl;have hcz17_9 : w11.cell? ⟨gb293,9,none⟩ = some (.int .i64 a0_9):=(bc BK293.out 9).trans rfl;have hcz17_10 : w11.cell? ⟨gb293,10,none⟩ = some (.int .i64 a0_10):=(bc BK293.out 10).trans rfl;have hcz17_11 : w11.cell? ⟨gb293,11,none⟩ = some (.int .i64 a0_11):=(bc BK293.out 11).trans rfl;have hcz17_12 : w11.cell? ⟨gb293,12,none⟩ = some (.slice A0_12 l0_12.length c0_12):=(bc BK293.out 12).trans rfl;have hcz17_13 : w11.cell? ⟨gb293,13,none⟩ = some (.int .i64 a0_13):=(bc BK293.out 13).trans rfl;have hfz17_0:=bz BK293.out 0;have hfz17_1:=bz BK293.out 1;have hfz17_2:=bz BK293.out 2;have hfz17_3:=bz BK293.out 3;have hfz17_4:=bz BK293.out 4;have hfz17_5:=bz BK293.out 5;have hfz17_6:=bz BK293.out 6;have hfz17_7:=bz BK293.out 7;have hfz17_8:=bz BK293.out 8;have hfz17_9:=bz BK293.out 9;have hfz17_10:=bz BK293.out 10;have hfz17_11:=bz BK293.out 11;have hfz17_12:=bz BK293.out 12;have hfz17_13:=bz BK293.out 13
        go_wp2_with (first|((with_reducible refine gate_callee (f:=28) rfl ?_);refine goesL_ (some 10) rfl rfl Try.func28 (by kernel_rfl) rfl #[.agg #[.int .i64 a0_0,.int .i64 a0_1,.int .i64 a0_2,.int .i64 a0_3,.int .i64 a0_4,.int .i64 a0_5,.int .i64 a0_6,.int .i64 a0_7,.int .i64 a0_8,.int .i64 a0_9,.int .i64 a0_10,.int .i64 a0_11,.slice A0_12 l0_12.length c0_12,.int .i64 a0_13]] rfl (by (try simp only [List.map_toArray,List.map_cons,List.map_nil]);first|done|rfl|(simp only [List.length_drop,List.length_take];rfl)) ?_;(with_reducible refine (style_RightFill.calls k a0_0 a0_1 a0_2 a0_3 a0_4 a0_5 a0_6 a0_7 a0_8 a0_9 a0_10 a0_11 _ _ l0_12 a0_13 true _ ?side1 ?side2 A12.out).mono ?_);(case side1 => repeat (first|exact (Kd.C_below HR0_12.out HB.out)|(with_reducible refine Kd.C_alloc ?_ _)|(with_reducible refine Kd.C_drewN ?_ _)|(with_reducible refine Kd.C_drew ?_)));(case side2 => exact HC0_12.out);rintro e w18 ⟨rfl,hb⟩;refine ⟨_,rfl,?_⟩;replace BK293:=am (bw (by exact BK293.out) hb);replace BK294:=am (bw (by exact BK294.out) hb);replace BK295:=am (bw (by exact BK295.out) hb);replace HB:=am (ss (by repeat (first|(with_reducible first|exact HB.out|apply sa|apply sn|apply sd|refine sy ?_ (by assumption))|exact HB.out)) hb);(try clear hb);(try clear hb2);(try clear hk);(try clear hi);obtain ⟨hcz19_0,hcz19_1,hcz19_2,hcz19_3,hcz19_4,hcz19_5,hcz19_6,hcz19_7,hcz19_8,hcz19_9,hcz19_10,hcz19_11,hcz19_12,hcz19_13⟩:=cq14 BK293.out;obtain ⟨hfz19_0,hfz19_1,hfz19_2,hfz19_3,hfz19_4,hfz19_5,hfz19_6,hfz19_7,hfz19_8,hfz19_9,hfz19_10,hfz19_11,hfz19_12,hfz19_13⟩:=fq14 BK293.out))
        go_meet
        case rel => exact ⟨_,(false),(by first|rfl|(simp;done)|(simp [*];done)),H',⟨by first|omega|exact Nat.le_refl _⟩,⟨by exact BK293.out⟩,⟨by exact BK294.out⟩,⟨by exact BK295.out⟩,⟨by repeat (first|(with_reducible first|exact HB.out|apply sa|apply sn|apply sd|refine sy ?_ (by assumption))|exact HB.out)⟩⟩
      · rw [if_neg c14] at H
        have c14b0 : (a0_0 == 16) = false:=beq_eq_false_iff_ne.mpr c14;have c14b1 : (a0_0 != 16) = true:=bne_iff_ne.mpr c14
        (first|rw [c14b0]|(simp only [i64_w,i32_w];rw [c14b0])|skip)
        have H':=am H;clear H;have hnb20:=NB293_294.out;have hnc20:=NB294_293.out;have hnb21:=NB293_295.out;have hnc21:=NB295_293.out;have hcz22_0 : w11.cell? ⟨gb293,0,none⟩ = some (.int .i64 a0_0):=(bc BK293.out 0).trans rfl;have hcz22_1 : w11.cell? ⟨gb293,1,none⟩ = some (.int .i64 a0_1):=(bc BK293.out 1).trans rfl;have hcz22_2 : w11.cell? ⟨gb293,2,none⟩ = some (.int .i64 a0_2):=(bc BK293.out 2).trans rfl;have hcz22_3 : w11.cell? ⟨gb293,3,none⟩ = some (.int .i64 a0_3):=(bc BK293.out 3).trans rfl;have hcz22_4 : w11.cell? ⟨gb293,4,none⟩ = some (.int .i64 a0_4):=(bc BK293.out 4).trans rfl;have hcz22_5 : w11.cell? ⟨gb293,5,none⟩ = some (.int .i64 a0_5):=(bc BK293.out 5).trans rfl;have hcz22_6 : w11.cell? ⟨gb293,6,none⟩ = some (.int .i64 a0_6):=(bc BK293.out 6).trans rfl;have hcz22_7 : w11.cell? ⟨gb293,7,none⟩ = some (.int .i64 a0_7):=(bc BK293.out 7).trans rfl;have hcz22_8 : w11.cell? ⟨gb293,8,none⟩ = some (.int .i64 a0_8):=(bc BK293.out 8).trans rfl;have hcz22_9 : w11.cell? ⟨gb293,9,none⟩ = some (.int .i64 a0_9):=(bc BK293.out 9).trans rfl;have hcz22_10 : w11.cell? ⟨gb293,10,none⟩ = some (.int .i64 a0_10):=(bc BK293.out 10).trans rfl;have hcz22_11 : w11.cell? ⟨gb293,11,none⟩ = some (.int .i64 a0_11):=(bc BK293.out 11).trans rfl;have hcz22_12 : w11.cell? ⟨gb293,12,none⟩ = some (.slice A0_12 l0_12.length c0_12):=(bc BK293.out 12).trans rfl;have hcz22_13 : w11.cell? ⟨gb293,13,none⟩ = some (.int .i64 a0_13):=(bc BK293.out 13).trans rfl;have hfz22_0:=bz BK293.out 0;have hfz22_1:=bz BK293.out 1;have hfz22_2:=bz BK293.out 2;have hfz22_3:=bz BK293.out 3;have hfz22_4:=bz BK293.out 4;have hfz22_5:=bz BK293.out 5;have hfz22_6:=bz BK293.out 6;have hfz22_7:=bz BK293.out 7;have hfz22_8:=bz BK293.out 8;have hfz22_9:=bz BK293.out 9;have hfz22_10:=bz BK293.out 10;have hfz22_11:=bz BK293.out 11;have hfz22_12:=bz BK293.out 12;have hfz22_13:=bz BK293.out 13
        go_wp2_with (first|((with_reducible refine gate_callee (f:=28) rfl ?_);refine goesL_ (some 10) rfl rfl Try.func28 (by kernel_rfl) rfl #[.agg #[.int .i64 a0_0,.int .i64 a0_1,.int .i64 a0_2,.int .i64 a0_3,.int .i64 a0_4,.int .i64 a0_5,.int .i64 a0_6,.int .i64 a0_7,.int .i64 a0_8,.int .i64 a0_9,.int .i64 a0_10,.int .i64 a0_11,.slice A0_12 l0_12.length c0_12,.int .i64 a0_13]] rfl (by (try simp only [List.map_toArray,List.map_cons,List.map_nil]);first|done|rfl|(simp only [List.length_drop,List.length_take];rfl)) ?_;(with_reducible refine (style_RightFill.calls k a0_0 a0_1 a0_2 a0_3 a0_4 a0_5 a0_6 a0_7 a0_8 a0_9 a0_10 a0_11 _ _ l0_12 a0_13 true _ ?side1 ?side2 A12.out).mono ?_);(case side1 => repeat (first|exact (Kd.C_below HR0_12.out HB.out)|(with_reducible refine Kd.C_alloc ?_ _)|(with_reducible refine Kd.C_drewN ?_ _)|(with_reducible refine Kd.C_drew ?_)));(case side2 => exact HC0_12.out);rintro e w23 ⟨rfl,hb⟩;refine ⟨_,rfl,?_⟩;replace BK293:=am (bw (by exact BK293.out) hb);replace BK294:=am (bw (by exact BK294.out) hb);replace BK295:=am (bw (by exact BK295.out) hb);replace HB:=am (ss (by repeat (first|(with_reducible first|exact HB.out|apply sa|apply sn|apply sd|refine sy ?_ (by assumption))|exact HB.out)) hb);(try clear hb);(try clear hb2);(try clear hk);(try clear hi);obtain ⟨hcz24_0,hcz24_1,hcz24_2,hcz24_3,hcz24_4,hcz24_5,hcz24_6,hcz24_7,hcz24_8,hcz24_9,hcz24_10,hcz24_11,hcz24_12,hcz24_13⟩:=cq14 BK293.out;obtain ⟨hfz24_0,hfz24_1,hfz24_2,hfz24_3,hfz24_4,hfz24_5,hfz24_6,hfz24_7,hfz24_8,hfz24_9,hfz24_10,hfz24_11,hfz24_12,hfz24_13⟩:=fq14 BK293.out))
        go_meet
        case rel => exact ⟨_,((a0_0 != 18)),(by first|rfl|(simp;done)|(simp [*];done)),H',⟨by first|omega|exact Nat.le_refl _⟩,⟨by exact BK293.out⟩,⟨by exact BK294.out⟩,⟨by exact BK295.out⟩,⟨by repeat (first|(with_reducible first|exact HB.out|apply sa|apply sn|apply sd|refine sy ?_ (by assumption))|exact HB.out)⟩⟩
    · replace c13:=Bool.eq_false_iff.mpr c13
      subst c13
      have H1 : (ramp_At.j0 k t296 true a0_0 a0_1 a0_2 a0_3 a0_4 a0_5 a0_6 a0_7 a0_8 a0_9 a0_10 a0_11 l0_12 a0_13 a1_0 a1_1) = some (r1,r2,r3,r4):=by rw [if_neg (show ¬ (false = true) by decide)] at H;exact H
      clear H;have H:=H1;clear H1;have H':=am H;clear H;have hnb25:=NB293_294.out;have hnc25:=NB294_293.out;have hnb26:=NB293_295.out;have hnc26:=NB295_293.out;have hcz27_0 : w11.cell? ⟨gb293,0,none⟩ = some (.int .i64 a0_0):=(bc BK293.out 0).trans rfl;have hcz27_1 : w11.cell? ⟨gb293,1,none⟩ = some (.int .i64 a0_1):=(bc BK293.out 1).trans rfl;have hcz27_2 : w11.cell? ⟨gb293,2,none⟩ = some (.int .i64 a0_2):=(bc BK293.out 2).trans rfl;have hcz27_3 : w11.cell? ⟨gb293,3,none⟩ = some (.int .i64 a0_3):=(bc BK293.out 3).trans rfl;have hcz27_4 : w11.cell? ⟨gb293,4,none⟩ = some (.int .i64 a0_4):=(bc BK293.out 4).trans rfl;have hcz27_5 : w11.cell? ⟨gb293,5,none⟩ = some (.int .i64 a0_5):=(bc BK293.out 5).trans rfl;have hcz27_6 : w11.cell? ⟨gb293,6,none⟩ = some (.int .i64 a0_6):=(bc BK293.out 6).trans rfl;have hcz27_7 : w11.cell? ⟨gb293,7,none⟩ = some (.int .i64 a0_7):=(bc BK293.out 7).trans rfl;have hcz27_8 : w11.cell? ⟨gb293,8,none⟩ = some (.int .i64 a0_8):=(bc BK293.out 8).trans rfl;have hcz27_9 : w11.cell? ⟨gb293,9,none⟩ = some (.int .i64 a0_9):=(bc BK293.out 9).trans rfl;have hcz27_10 : w11.cell? ⟨gb293,10,none⟩ = some (.int .i64 a0_10):=(bc BK293.out 10).trans rfl;have hcz27_11 : w11.cell? ⟨gb293,11,none⟩ = some (.int .i64 a0_11):=(bc BK293.out 11).trans rfl;have hcz27_12 : w11.cell? ⟨gb293,12,none⟩ = some (.slice A0_12 l0_12.length c0_12):=(bc BK293.out 12).trans rfl;have hcz27_13 : w11.cell? ⟨gb293,13,none⟩ = some (.int .i64 a0_13):=(bc BK293.out 13).trans rfl;have hfz27_0:=bz BK293.out 0;have hfz27_1:=bz BK293.out 1;have hfz27_2:=bz BK293.out 2;have hfz27_3:=bz BK293.out 3;have hfz27_4:=bz BK293.out 4;have hfz27_5:=bz BK293.out 5;have hfz27_6:=bz BK293.out 6;have hfz27_7:=bz BK293.out 7;have hfz27_8:=bz BK293.out 8;have hfz27_9:=bz BK293.out 9;have hfz27_10:=bz BK293.out 10;have hfz27_11:=bz BK293.out 11;have hfz27_12:=bz BK293.out 12;have hfz27_13:=bz BK293.out 13
      go_wp2_with (first|((with_reducible refine gate_callee (f:=28) rfl ?_);refine goesL_ (some 10) rfl rfl Try.func28 (by kernel_rfl) rfl #[.agg #[.int .i64 a0_0,.int .i64 a0_1,.int .i64 a0_2,.int .i64 a0_3,.int .i64 a0_4,.int .i64 a0_5,.int .i64 a0_6,.int .i64 a0_7,.int .i64 a0_8,.int .i64 a0_9,.int .i64 a0_10,.int .i64 a0_11,.slice A0_12 l0_12.length c0_12,.int .i64 a0_13]] rfl (by (try simp only [List.map_toArray,List.map_cons,List.map_nil]);first|done|rfl|(simp only [List.length_drop,List.length_take];rfl)) ?_;(with_reducible refine (style_RightFill.calls k a0_0 a0_1 a0_2 a0_3 a0_4 a0_5 a0_6 a0_7 a0_8 a0_9 a0_10 a0_11 _ _ l0_12 a0_13 false _ ?side1 ?side2 A12.out).mono ?_);(case side1 => repeat (first|exact (Kd.C_below HR0_12.out HB.out)|(with_reducible refine Kd.C_alloc ?_ _)|(with_reducible refine Kd.C_drewN ?_ _)|(with_reducible refine Kd.C_drew ?_)));(case side2 => exact HC0_12.out);rintro e w28 ⟨rfl,hb⟩;refine ⟨_,rfl,?_⟩;replace BK293:=am (bw (by exact BK293.out) hb);replace BK294:=am (bw (by exact BK294.out) hb);replace BK295:=am (bw (by exact BK295.out) hb);replace HB:=am (ss (by repeat (first|(with_reducible first|exact HB.out|apply sa|apply sn|apply sd|refine sy ?_ (by assumption))|exact HB.out)) hb);(try clear hb);(try clear hb2);(try clear hk);(try clear hi)))
      go_meet
      case rel => exact ⟨_,(true),(by first|rfl|(simp;done)|(simp [*];done)),H',⟨by first|omega|exact Nat.le_refl _⟩,⟨by exact BK293.out⟩,⟨by exact BK294.out⟩,⟨by exact BK295.out⟩,⟨by repeat (first|(with_reducible first|exact HB.out|apply sa|apply sn|apply sd|refine sy ?_ (by assumption))|exact HB.out)⟩⟩
  case rest =>
    clear HC4
    try clear c1
    try clear c2
    try clear p2
    try clear c3
    try clear c5
    try clear c8
    try clear c9
    try clear c13
    try clear c14
    try clear c14b0
    try clear c14b1
    try clear c15
    try clear c16
    try clear c20
    try clear c21
    try clear c25
    try clear c26
    try clear c28
    try clear hcz10_0
    try clear hcz10_1
    try clear hcz17_0
    try clear hcz17_1
    try clear hcz17_10
    try clear hcz17_11
    try clear hcz17_12
    try clear hcz17_13
    try clear hcz17_2
    try clear hcz17_3
    try clear hcz17_4
    try clear hcz17_5
    try clear hcz17_6
    try clear hcz17_7
    try clear hcz17_8
    try clear hcz17_9
    try clear hcz19_0
    try clear hcz19_1
    try clear hcz19_10
    try clear hcz19_11
    try clear hcz19_12
    try clear hcz19_13
    try clear hcz19_2
    try clear hcz19_3
    try clear hcz19_4
    try clear hcz19_5
    try clear hcz19_6
    try clear hcz19_7
    try clear hcz19_8
    try clear hcz19_9
    try clear hcz22_0
    try clear hcz22_1
    try clear hcz22_10
    try clear hcz22_11
    try clear hcz22_12
    try clear hcz22_13
    try clear hcz22_2
    try clear hcz22_3
    try clear hcz22_4
    try clear hcz22_5
    try clear hcz22_6
    try clear hcz22_7
    try clear hcz22_8
    try clear hcz22_9
    try clear hcz24_0
    try clear hcz24_1
    try clear hcz24_10
    try clear hcz24_11
    try clear hcz24_12
    try clear hcz24_13
    try clear hcz24_2
    try clear hcz24_3
    try clear hcz24_4
    try clear hcz24_5
    try clear hcz24_6
    try clear hcz24_7
    try clear hcz24_8
    try clear hcz24_9
    try clear hcz27_0
    try clear hcz27_1
    try clear hcz27_10
    try clear hcz27_11
    try clear hcz27_12
    try clear hcz27_13
    try clear hcz27_2
    try clear hcz27_3
    try clear hcz27_4
    try clear hcz27_5
    try clear hcz27_6
    try clear hcz27_7
    try clear hcz27_8
    try clear hcz27_9
    try clear hfz10_0
    try clear hfz10_1
    try clear hfz17_0
    try clear hfz17_1
    try clear hfz17_10
    try clear hfz17_11
    try clear hfz17_12
    try clear hfz17_13
    try clear hfz17_2
    try clear hfz17_3
    try clear hfz17_4
    try clear hfz17_5
    try clear hfz17_6
    try clear hfz17_7
    try clear hfz17_8
    try clear hfz17_9
    try clear hfz19_0
    try clear hfz19_1
    try clear hfz19_10
    try clear hfz19_11
    try clear hfz19_12
    try clear hfz19_13
    try clear hfz19_2
    try clear hfz19_3
    try clear hfz19_4
    try clear hfz19_5
    try clear hfz19_6
    try clear hfz19_7
    try clear hfz19_8
    try clear hfz19_9
    try clear hfz22_0
    try clear hfz22_1
    try clear hfz22_10
    try clear hfz22_11
    try clear hfz22_12
    try clear hfz22_13
    try clear hfz22_2
    try clear hfz22_3
    try clear hfz22_4
    try clear hfz22_5
    try clear hfz22_6
    try clear hfz22_7
    try clear hfz22_8
    try clear hfz22_9
    try clear hfz24_0
    try clear hfz24_1
    try clear hfz24_10
    try clear hfz24_11
    try clear hfz24_12
    try clear hfz24_13
    try clear hfz24_2
    try clear hfz24_3
    try clear hfz24_4
    try clear hfz24_5
    try clear hfz24_6
    try clear hfz24_7
    try clear hfz24_8
    try clear hfz24_9
    try clear hfz27_0
    try clear hfz27_1
    try clear hfz27_10
    try clear hfz27_11
    try clear hfz27_12
    try clear hfz27_13
    try clear hfz27_2
    try clear hfz27_3
    try clear hfz27_4
    try clear hfz27_5
    try clear hfz27_6
    try clear hfz27_7
    try clear hfz27_8
    try clear hfz27_9
    obtain ⟨kq,x8_3,rfl,HA,HJ3,BK293,BK294,BK295,HB⟩:=hcut
    cases kq with
    | zero => exact absurd HA.out (by simp [ramp_At.j0])
    | succ kj3 =>
      have H:=HA.out;clear HA;simp only [ramp_At.j0] at H
      by_cases c29 : x8_3 = true
      · subst c29
        have H1 : (some (0,0,0,0)) = some (r1,r2,r3,r4):=by rw [if_pos rfl] at H;exact H
        clear H;have H:=H1;clear H1;simp only [Option.some.injEq,Prod.mk.injEq] at H;obtain ⟨rfl,rfl,rfl,rfl⟩:=H;have hnb30:=NB295_293.out;have hnc30:=NB293_295.out;have hnb31:=NB295_294.out;have hnc31:=NB294_295.out;have hcz32_0 : wc.cell? ⟨gb295,0,none⟩ = some (.int .i64 0):=(bc BK295.out 0).trans rfl;have hcz32_1 : wc.cell? ⟨gb295,1,none⟩ = some (.int .i64 0):=(bc BK295.out 1).trans rfl;have hcz32_2 : wc.cell? ⟨gb295,2,none⟩ = some (.int .i64 0):=(bc BK295.out 2).trans rfl;have hcz32_3 : wc.cell? ⟨gb295,3,none⟩ = some (.int .i64 0):=(bc BK295.out 3).trans rfl;have hfz32_0:=bz BK295.out 0;have hfz32_1:=bz BK295.out 1;have hfz32_2:=bz BK295.out 2;have hfz32_3:=bz BK295.out 3
        go_wp2
        refine bodyPost_ret (results_cell_row rfl _ _ gb295 23 #[.int .i64 0,.int .i64 0,.int .i64 0,.int .i64 0] (0,0) _ rfl (bp (bp (bp (bp BK295.out 0 _ rfl) 1 _ rfl) 2 _ rfl) 3 _ rfl) Try.underlying23 rfl (by kernel_rfl)) rfl ?_
        exact ⟨by first|rfl|(simp [errW_none,errW_some] <;> rfl)|(simp [*,errW_none,errW_some] <;> rfl),by repeat (first|(with_reducible first|exact HB.out|apply sa|apply sn|apply sd|refine sy ?_ (by assumption))|exact HB.out)⟩
      · replace c29:=Bool.eq_false_iff.mpr c29
        subst c29
        have H1 : (if a0_0 = 18 then ((ramp_Circle.f kj3 a1_0 a1_1).bind fun t298 => ((ramp_Fold.f t298 a0_11).bind fun t299 => ((ramp_Color.f kj3 l0_12 t299).bind fun bt300 => (some (bt300.1,bt300.2.1,bt300.2.2.1,bt300.2.2.2))))) else ((ramp_Fold.f t296 a0_11).bind fun t304 => ((ramp_Color.f kj3 l0_12 t304).bind fun bt305 => (some (bt305.1,bt305.2.1,bt305.2.2.1,bt305.2.2.2))))) = some (r1,r2,r3,r4):=by rw [if_neg (show ¬ (false = true) by decide)] at H;exact H
        clear H;have H:=H1;clear H1
        by_cases c33 : a0_0 = 18
        · rw [if_pos c33] at H
          have c33b0 : (a0_0 == 18) = true:=beq_iff_eq.mpr c33;have c33b1 : (a0_0 != 18) = false:=bne_eq_false_iff_eq.mpr c33;clear c33;replace H:=Option.bind_eq_some_iff.mp H;obtain ⟨t298,A340,H⟩:=H;replace H : ((ramp_Fold.f t298 a0_11).bind fun t299 => ((ramp_Color.f kj3 l0_12 t299).bind fun bt300 => (some (bt300.1,bt300.2.1,bt300.2.2.1,bt300.2.2.2)))) = some (r1,r2,r3,r4):=H;have A34:=am A340;clear A340;replace H:=Option.bind_eq_some_iff.mp H;obtain ⟨t299,A350,H⟩:=H;replace H : ((ramp_Color.f kj3 l0_12 t299).bind fun bt300 => (some (bt300.1,bt300.2.1,bt300.2.2.1,bt300.2.2.2))) = some (r1,r2,r3,r4):=H;have A35:=am A350;clear A350;replace H:=Option.bind_eq_some_iff.mp H;obtain ⟨⟨t300,t301,t302,t303⟩,A360,H⟩:=H;replace H : (some (t300,t301,t302,t303)) = some (r1,r2,r3,r4):=H;have A36:=am A360;clear A360;simp only [Option.some.injEq,Prod.mk.injEq] at H;obtain ⟨rfl,rfl,rfl,rfl⟩:=H;have hnb37:=NB293_294.out;have hnc37:=NB294_293.out;have hnb38:=NB293_295.out;have hnc38:=NB295_293.out;have hcz39_0 : wc.cell? ⟨gb293,0,none⟩ = some (.int .i64 a0_0):=(bc BK293.out 0).trans rfl;have hcz39_1 : wc.cell? ⟨gb293,1,none⟩ = some (.int .i64 a0_1):=(bc BK293.out 1).trans rfl;have hcz39_2 : wc.cell? ⟨gb293,2,none⟩ = some (.int .i64 a0_2):=(bc BK293.out 2).trans rfl;have hcz39_3 : wc.cell? ⟨gb293,3,none⟩ = some (.int .i64 a0_3):=(bc BK293.out 3).trans rfl;have hcz39_4 : wc.cell? ⟨gb293,4,none⟩ = some (.int .i64 a0_4):=(bc BK293.out 4).trans rfl;have hcz39_5 : wc.cell? ⟨gb293,5,none⟩ = some (.int .i64 a0_5):=(bc BK293.out 5).trans rfl;have hcz39_6 : wc.cell? ⟨gb293,6,none⟩ = some (.int .i64 a0_6):=(bc BK293.out 6).trans rfl;have hcz39_7 : wc.cell? ⟨gb293,7,none⟩ = some (.int .i64 a0_7):=(bc BK293.out 7).trans rfl;have hcz39_8 : wc.cell? ⟨gb293,8,none⟩ = some (.int .i64 a0_8):=(bc BK293.out 8).trans rfl;have hcz39_9 : wc.cell? ⟨gb293,9,none⟩ = some (.int .i64 a0_9):=(bc BK293.out 9).trans rfl;have hcz39_10 : wc.cell? ⟨gb293,10,none⟩ = some (.int .i64 a0_10):=(bc BK293.out 10).trans rfl;have hcz39_11 : wc.cell? ⟨gb293,11,none⟩ = some (.int .i64 a0_11):=(bc BK293.out 11).trans rfl;have hcz39_12 : wc.cell? ⟨gb293,12,none⟩ = some (.slice A0_12 l0_12.length c0_12):=(bc BK293.out 12).trans rfl;have hcz39_13 : wc.cell? ⟨gb293,13,none⟩ = some (.int .i64 a0_13):=(bc BK293.out 13).trans rfl;have hfz39_0:=bz BK293.out 0;have hfz39_1:=bz BK293.out 1;have hfz39_2:=bz BK293.out 2;have hfz39_3:=bz BK293.out 3;have hfz39_4:=bz BK293.out 4;have hfz39_5:=bz BK293.out 5;have hfz39_6:=bz BK293.out 6;have hfz39_7:=bz BK293.out 7;have hfz39_8:=bz BK293.out 8;have hfz39_9:=bz BK293.out 9;have hfz39_10:=bz BK293.out 10;have hfz39_11:=bz BK293.out 11;have hfz39_12:=bz BK293.out 12;have hfz39_13:=bz BK293.out 13;have hnb40:=NB294_295.out;have hnc40:=NB295_294.out;have hcz41_0 : wc.cell? ⟨gb294,0,none⟩ = some (.int .i64 a1_0):=(bc BK294.out 0).trans rfl;have hcz41_1 : wc.cell? ⟨gb294,1,none⟩ = some (.int .i64 a1_1):=(bc BK294.out 1).trans rfl;have hfz41_0:=bz BK294.out 0;have hfz41_1:=bz BK294.out 1
          try go_wp2_with (first|((with_reducible refine gate_callee (f:=55) rfl ?_);refine goesL_ (some 28) rfl rfl Try.func55 (by kernel_rfl) rfl #[.agg #[.int .i64 a1_0,.int .i64 a1_1]] rfl (by (try simp only [List.map_toArray,List.map_cons,List.map_nil]);first|done|rfl|(simp only [List.length_drop,List.length_take];rfl)) ?_;(with_reducible refine (ramp_Circle.calls kj3 a1_0 a1_1 t298 _ A34.out).mono ?_);rintro e w42 ⟨rfl,hb⟩;refine ⟨_,rfl,?_⟩;replace BK293:=am (bw (by exact BK293.out) hb);replace BK294:=am (bw (by exact BK294.out) hb);replace BK295:=am (bw (by exact BK295.out) hb);replace HB:=am (ss (by repeat (first|(with_reducible first|exact HB.out|apply sa|apply sn|apply sd|refine sy ?_ (by assumption))|exact HB.out)) hb);(try clear hb);(try clear hb2);(try clear hk);(try clear hi)))
          replace BK293:=am (bd BK293.out);replace BK294:=am (bd BK294.out);replace BK295:=am (bd BK295.out);replace HB:=am (sd HB.out);refine start_ (n:=8) (S:=fun w' => w'.cell? ⟨gb293,0,none⟩ = some (.int .i64 a0_0) ∧ w'.cell? ⟨gb293,1,none⟩ = some (.int .i64 a0_1) ∧ w'.cell? ⟨gb293,2,none⟩ = some (.int .i64 a0_2) ∧ w'.cell? ⟨gb293,3,none⟩ = some (.int .i64 a0_3) ∧ w'.cell? ⟨gb293,4,none⟩ = some (.int .i64 a0_4) ∧ w'.cell? ⟨gb293,5,none⟩ = some (.int .i64 a0_5) ∧ w'.cell? ⟨gb293,6,none⟩ = some (.int .i64 a0_6) ∧ w'.cell? ⟨gb293,7,none⟩ = some (.int .i64 a0_7) ∧ w'.cell? ⟨gb293,8,none⟩ = some (.int .i64 a0_8) ∧ w'.cell? ⟨gb293,9,none⟩ = some (.int .i64 a0_9) ∧ w'.cell? ⟨gb293,10,none⟩ = some (.int .i64 a0_10) ∧ w'.cell? ⟨gb293,11,none⟩ = some (.int .i64 a0_11) ∧ w'.cell? ⟨gb293,12,none⟩ = some (.slice A0_12 l0_12.length c0_12) ∧ w'.cell? ⟨gb293,13,none⟩ = some (.int .i64 a0_13)) (ds:=[]) #[false,false,false,false,false,false,false,false] (by kernel_rfl) rfl rfl ⟨(bc BK293.out 0).trans rfl,(bc BK293.out 1).trans rfl,(bc BK293.out 2).trans rfl,(bc BK293.out 3).trans rfl,(bc BK293.out 4).trans rfl,(bc BK293.out 5).trans rfl,(bc BK293.out 6).trans rfl,(bc BK293.out 7).trans rfl,(bc BK293.out 8).trans rfl,(bc BK293.out 9).trans rfl,(bc BK293.out 10).trans rfl,(bc BK293.out 11).trans rfl,(bc BK293.out 12).trans rfl,(bc BK293.out 13).trans rfl⟩ (fun hHeld => ?_);refine with_tabW ramp_At.tab6 ramp_At.bits6 (fun HT_ HW_ => ?_);generalize w42.drew = w43 at BK293 BK294 BK295 HB hHeld ⊢;refine pure_ (i:=0) (N:=some 29) (v:=?_) (a':=?_) #[true,false,false,false,false,false,false,false] rfl rfl (any_of HT_.out (by kernel_rfl)) (fun _ _ _ h => h) (Or.inl ⟨by rfl,?_⟩) ?_ ?_
          rotate_left
          · intro w'
            go_simp
            with_reducible rfl
          rotate_left
          · simp only [Act.put,q1,q2,q3,i64_w,i32_w]
            rfl
          refine pure_ (i:=2) (N:=some 31) (v:=?_) (a':=?_) #[true,false,true,false,false,false,false,false] rfl rfl (any_of HT_.out (by kernel_rfl)) (fun _ _ _ h => h) (Or.inl ⟨by rfl,?_⟩) ?_ ?_
          rotate_left
          · intro w'
            go_simp
            with_reducible rfl
          rotate_left
          · simp only [Act.put,q1,q2,q3,i64_w,i32_w]
            rfl
          refine pure_ (i:=3) (N:=some 32) (v:=?_) (a':=?_) #[true,false,true,true,false,false,false,false] rfl rfl (any_of HT_.out (by kernel_rfl)) (fun _ _ _ h => h) (Or.inl ⟨by rfl,?_⟩) ?_ ?_
          rotate_left
          · intro w'
            go_simp
            with_reducible rfl
          rotate_left
          · simp only [Act.put,q1,q2,q3,i64_w,i32_w]
            rfl
          refine take_ (i:=1) (N:=some 30) (v:=?_) (a':=?_) #[true,true,true,true,false,false,false,false] rfl rfl (take_ofW HT_.out HW_.out (by kernel_rfl)) (fun _ _ _ h => h) (Or.inl ⟨by rfl,?_⟩) hHeld ?_ ?_
          rotate_left
          · rintro w' ⟨s0,s1,s2,s3,s4,s5,s6,s7,s8,s9,s10,s11,s12,s13⟩
            go_simp
            with_reducible rfl
          rotate_left
          · simp only [Act.put,q1,q2,q3,i64_w,i32_w]
            rfl
          refine take_ (i:=4) (N:=some 33) (v:=?_) (a':=?_) #[true,true,true,true,true,false,false,false] rfl rfl (take_ofW HT_.out HW_.out (by kernel_rfl)) (fun _ _ _ h => h) (Or.inl ⟨by rfl,?_⟩) hHeld ?_ ?_
          rotate_left
          · rintro w' ⟨s0,s1,s2,s3,s4,s5,s6,s7,s8,s9,s10,s11,s12,s13⟩
            go_simp
            with_reducible rfl
          rotate_left
          · simp only [Act.put,q1,q2,q3,i64_w,i32_w]
            rfl
          refine one_ (i:=5) (N:=some 34) #[true,true,true,true,true,true,false,false] rfl rfl (one_of HT_.out (by kernel_rfl)) (by decide) (fun K hK => ?_);refine goes_ Try.func57 (by kernel_rfl) rfl #[.int .i64 t298,.int .i64 a0_11] (by rfl) rfl rfl (by (try simp only [List.map_toArray,List.map_cons,List.map_nil]);first|done|rfl|(simp only [List.length_drop,List.length_take];rfl)) ?_
          with_reducible refine (ramp_Fold.calls t298 a0_11 t299 _ A35.out).mono ?_
          rintro e w44 ⟨rfl,hb⟩
          refine ⟨_,rfl,?_⟩;replace BK293:=am (bw (by exact BK293.out) hb);replace BK294:=am (bw (by exact BK294.out) hb);replace BK295:=am (bw (by exact BK295.out) hb);replace HB:=am (ss (by repeat (first|(with_reducible first|exact HB.out|apply sa|apply sn|apply sd|refine sy ?_ (by assumption))|exact HB.out)) hb);(try clear hb);(try clear hb2);(try clear hk);(try clear hi);refine hK.out _ _ ⟨(bc BK293.out 0).trans rfl,(bc BK293.out 1).trans rfl,(bc BK293.out 2).trans rfl,(bc BK293.out 3).trans rfl,(bc BK293.out 4).trans rfl,(bc BK293.out 5).trans rfl,(bc BK293.out 6).trans rfl,(bc BK293.out 7).trans rfl,(bc BK293.out 8).trans rfl,(bc BK293.out 9).trans rfl,(bc BK293.out 10).trans rfl,(bc BK293.out 11).trans rfl,(bc BK293.out 12).trans rfl,(bc BK293.out 13).trans rfl⟩ (fun hHeld => ?_);clear hK K;refine norm_ (a':=?_) ?_ ?_
          rotate_left
          · show Act.put _ (some 34) _ = _
            simp only [Act.put,q1,q2,q3,i64_w,i32_w]
            rfl
          refine one_ (i:=6) (N:=some 35) #[true,true,true,true,true,true,true,false] rfl rfl (one_of HT_.out (by kernel_rfl)) (by decide) (fun K hK => ?_);refine goes_ Try.func56 (by kernel_rfl) rfl #[.slice A0_12 l0_12.length c0_12,.int .i64 t299] (by rfl) rfl rfl (by (try simp only [List.map_toArray,List.map_cons,List.map_nil]);first|done|rfl|(simp only [List.length_drop,List.length_take];rfl)) ?_
          with_reducible refine (ramp_Color.calls kj3 _ _ l0_12 t299 t300 t301 t302 t303 _ ?side1 ?side2 A36.out).mono ?_
          (case side1 => repeat (first|exact (Kd.C_below HR0_12.out HB.out)|(with_reducible refine Kd.C_alloc ?_ _)|(with_reducible refine Kd.C_drewN ?_ _)|(with_reducible refine Kd.C_drew ?_)))
          (case side2 => exact HC0_12.out)
          rintro e w45 ⟨rfl,hb⟩
          refine ⟨_,rfl,?_⟩;replace BK293:=am (bw (by exact BK293.out) hb);replace BK294:=am (bw (by exact BK294.out) hb);replace BK295:=am (bw (by exact BK295.out) hb);replace HB:=am (ss (by repeat (first|(with_reducible first|exact HB.out|apply sa|apply sn|apply sd|refine sy ?_ (by assumption))|exact HB.out)) hb);(try clear hb);(try clear hb2);(try clear hk);(try clear hi);refine hK.out _ _ ⟨(bc BK293.out 0).trans rfl,(bc BK293.out 1).trans rfl,(bc BK293.out 2).trans rfl,(bc BK293.out 3).trans rfl,(bc BK293.out 4).trans rfl,(bc BK293.out 5).trans rfl,(bc BK293.out 6).trans rfl,(bc BK293.out 7).trans rfl,(bc BK293.out 8).trans rfl,(bc BK293.out 9).trans rfl,(bc BK293.out 10).trans rfl,(bc BK293.out 11).trans rfl,(bc BK293.out 12).trans rfl,(bc BK293.out 13).trans rfl⟩ (fun hHeld => ?_);clear hK K;refine norm_ (a':=?_) ?_ ?_
          rotate_left
          · show Act.put _ (some 35) _ = _
            simp only [Act.put,q1,q2,q3,i64_w,i32_w]
            rfl
          refine one_ (i:=7) (N:=none) #[true,true,true,true,true,true,true,true] rfl rfl (one_of HT_.out (by kernel_rfl)) (by decide) (fun K hK => ?_);have hs46 : w45.cell? ⟨gb295,0,none⟩ = some (.int .i64 0):=(bc BK295.out 0).trans rfl;have hfs46:=bz BK295.out 0;have hns46_0:=NB293_295.out;have hns46_1:=NB294_295.out;have hms46_0:=NB295_293.out;have hms46_1:=NB295_294.out;have hs47 : w45.cell? ⟨gb295,1,none⟩ = some (.int .i64 0):=(bc BK295.out 1).trans rfl;have hfs47:=bz BK295.out 1;have hns47_0:=NB293_295.out;have hns47_1:=NB294_295.out;have hms47_0:=NB295_293.out;have hms47_1:=NB295_294.out;have hs48 : w45.cell? ⟨gb295,2,none⟩ = some (.int .i64 0):=(bc BK295.out 2).trans rfl;have hfs48:=bz BK295.out 2;have hns48_0:=NB293_295.out;have hns48_1:=NB294_295.out;have hms48_0:=NB295_293.out;have hms48_1:=NB295_294.out;have hs49 : w45.cell? ⟨gb295,3,none⟩ = some (.int .i64 0):=(bc BK295.out 3).trans rfl;have hfs49:=bz BK295.out 3;have hns49_0:=NB293_295.out;have hns49_1:=NB294_295.out;have hms49_0:=NB295_293.out;have hms49_1:=NB295_294.out;refine skip_ (w1:=?_) (by rfl) rfl ?_ ?_
          rotate_left
          · go_simp
            rfl
          refine hK.out _ _ ⟨((cell_far (p:=⟨gb295,_,none⟩) NB293_295.out _).trans (((cell_far (p:=⟨gb295,_,none⟩) NB293_295.out _).trans (((cell_far (p:=⟨gb295,_,none⟩) NB293_295.out _).trans (((cell_far (p:=⟨gb295,_,none⟩) NB293_295.out _).trans (hHeld.1)))))))),((cell_far (p:=⟨gb295,_,none⟩) NB293_295.out _).trans (((cell_far (p:=⟨gb295,_,none⟩) NB293_295.out _).trans (((cell_far (p:=⟨gb295,_,none⟩) NB293_295.out _).trans (((cell_far (p:=⟨gb295,_,none⟩) NB293_295.out _).trans (hHeld.2.1)))))))),((cell_far (p:=⟨gb295,_,none⟩) NB293_295.out _).trans (((cell_far (p:=⟨gb295,_,none⟩) NB293_295.out _).trans (((cell_far (p:=⟨gb295,_,none⟩) NB293_295.out _).trans (((cell_far (p:=⟨gb295,_,none⟩) NB293_295.out _).trans (hHeld.2.2.1)))))))),((cell_far (p:=⟨gb295,_,none⟩) NB293_295.out _).trans (((cell_far (p:=⟨gb295,_,none⟩) NB293_295.out _).trans (((cell_far (p:=⟨gb295,_,none⟩) NB293_295.out _).trans (((cell_far (p:=⟨gb295,_,none⟩) NB293_295.out _).trans (hHeld.2.2.2.1)))))))),((cell_far (p:=⟨gb295,_,none⟩) NB293_295.out _).trans (((cell_far (p:=⟨gb295,_,none⟩) NB293_295.out _).trans (((cell_far (p:=⟨gb295,_,none⟩) NB293_295.out _).trans (((cell_far (p:=⟨gb295,_,none⟩) NB293_295.out _).trans (hHeld.2.2.2.2.1)))))))),((cell_far (p:=⟨gb295,_,none⟩) NB293_295.out _).trans (((cell_far (p:=⟨gb295,_,none⟩) NB293_295.out _).trans (((cell_far (p:=⟨gb295,_,none⟩) NB293_295.out _).trans (((cell_far (p:=⟨gb295,_,none⟩) NB293_295.out _).trans (hHeld.2.2.2.2.2.1)))))))),((cell_far (p:=⟨gb295,_,none⟩) NB293_295.out _).trans (((cell_far (p:=⟨gb295,_,none⟩) NB293_295.out _).trans (((cell_far (p:=⟨gb295,_,none⟩) NB293_295.out _).trans (((cell_far (p:=⟨gb295,_,none⟩) NB293_295.out _).trans (hHeld.2.2.2.2.2.2.1)))))))),((cell_far (p:=⟨gb295,_,none⟩) NB293_295.out _).trans (((cell_far (p:=⟨gb295,_,none⟩) NB293_295.out _).trans (((cell_far (p:=⟨gb295,_,none⟩) NB293_295.out _).trans (((cell_far (p:=⟨gb295,_,none⟩) NB293_295.out _).trans (hHeld.2.2.2.2.2.2.2.1)))))))),((cell_far (p:=⟨gb295,_,none⟩) NB293_295.out _).trans (((cell_far (p:=⟨gb295,_,none⟩) NB293_295.out _).trans (((cell_far (p:=⟨gb295,_,none⟩) NB293_295.out _).trans (((cell_far (p:=⟨gb295,_,none⟩) NB293_295.out _).trans (hHeld.2.2.2.2.2.2.2.2.1)))))))),((cell_far (p:=⟨gb295,_,none⟩) NB293_295.out _).trans (((cell_far (p:=⟨gb295,_,none⟩) NB293_295.out _).trans (((cell_far (p:=⟨gb295,_,none⟩) NB293_295.out _).trans (((cell_far (p:=⟨gb295,_,none⟩) NB293_295.out _).trans (hHeld.2.2.2.2.2.2.2.2.2.1)))))))),((cell_far (p:=⟨gb295,_,none⟩) NB293_295.out _).trans (((cell_far (p:=⟨gb295,_,none⟩) NB293_295.out _).trans (((cell_far (p:=⟨gb295,_,none⟩) NB293_295.out _).trans (((cell_far (p:=⟨gb295,_,none⟩) NB293_295.out _).trans (hHeld.2.2.2.2.2.2.2.2.2.2.1)))))))),((cell_far (p:=⟨gb295,_,none⟩) NB293_295.out _).trans (((cell_far (p:=⟨gb295,_,none⟩) NB293_295.out _).trans (((cell_far (p:=⟨gb295,_,none⟩) NB293_295.out _).trans (((cell_far (p:=⟨gb295,_,none⟩) NB293_295.out _).trans (hHeld.2.2.2.2.2.2.2.2.2.2.2.1)))))))),((cell_far (p:=⟨gb295,_,none⟩) NB293_295.out _).trans (((cell_far (p:=⟨gb295,_,none⟩) NB293_295.out _).trans (((cell_far (p:=⟨gb295,_,none⟩) NB293_295.out _).trans (((cell_far (p:=⟨gb295,_,none⟩) NB293_295.out _).trans (hHeld.2.2.2.2.2.2.2.2.2.2.2.2.1)))))))),((cell_far (p:=⟨gb295,_,none⟩) NB293_295.out _).trans (((cell_far (p:=⟨gb295,_,none⟩) NB293_295.out _).trans (((cell_far (p:=⟨gb295,_,none⟩) NB293_295.out _).trans (((cell_far (p:=⟨gb295,_,none⟩) NB293_295.out _).trans (hHeld.2.2.2.2.2.2.2.2.2.2.2.2.2))))))))⟩ (fun hHeld => ?_);clear hK K;refine done_ (done_of HT_.out (by kernel_rfl)) ?_
          try go_wp2
          refine bodyPost_ret (results_cell_row rfl _ _ gb295 23 #[.int .i64 t300,.int .i64 t301,.int .i64 t302,.int .i64 t303] (0,0) _ rfl (bp (bp (bp (bp BK295.out 0 _ rfl) 1 _ rfl) 2 _ rfl) 3 _ rfl) Try.underlying23 rfl (by kernel_rfl)) rfl ?_
          exact ⟨by first|rfl|(simp [errW_none,errW_some] <;> rfl)|(simp [*,errW_none,errW_some] <;> rfl),by repeat (first|(with_reducible first|exact HB.out|apply sa|apply sn|apply sd|refine sy ?_ (by assumption))|exact HB.out)⟩
        · rw [if_neg c33] at H
          have c33b0 : (a0_0 == 18) = false:=beq_eq_false_iff_ne.mpr c33;have c33b1 : (a0_0 != 18) = true:=bne_iff_ne.mpr c33;replace H:=Option.bind_eq_some_iff.mp H;obtain ⟨t304,A500,H⟩:=H;replace H : ((ramp_Color.f kj3 l0_12 t304).bind fun bt305 => (some (bt305.1,bt305.2.1,bt305.2.2.1,bt305.2.2.2))) = some (r1,r2,r3,r4):=H;have A50:=am A500;clear A500;replace H:=Option.bind_eq_some_iff.mp H;obtain ⟨⟨t305,t306,t307,t308⟩,A510,H⟩:=H;replace H : (some (t305,t306,t307,t308)) = some (r1,r2,r3,r4):=H;have A51:=am A510;clear A510;simp only [Option.some.injEq,Prod.mk.injEq] at H;obtain ⟨rfl,rfl,rfl,rfl⟩:=H;have hnb52:=NB293_294.out;have hnc52:=NB294_293.out;have hnb53:=NB293_295.out;have hnc53:=NB295_293.out;have hcz54_0 : wc.cell? ⟨gb293,0,none⟩ = some (.int .i64 a0_0):=(bc BK293.out 0).trans rfl;have hcz54_1 : wc.cell? ⟨gb293,1,none⟩ = some (.int .i64 a0_1):=(bc BK293.out 1).trans rfl;have hcz54_2 : wc.cell? ⟨gb293,2,none⟩ = some (.int .i64 a0_2):=(bc BK293.out 2).trans rfl;have hcz54_3 : wc.cell? ⟨gb293,3,none⟩ = some (.int .i64 a0_3):=(bc BK293.out 3).trans rfl;have hcz54_4 : wc.cell? ⟨gb293,4,none⟩ = some (.int .i64 a0_4):=(bc BK293.out 4).trans rfl;have hcz54_5 : wc.cell? ⟨gb293,5,none⟩ = some (.int .i64 a0_5):=(bc BK293.out 5).trans rfl;have hcz54_6 : wc.cell? ⟨gb293,6,none⟩ = some (.int .i64 a0_6):=(bc BK293.out 6).trans rfl;have hcz54_7 : wc.cell? ⟨gb293,7,none⟩ = some (.int .i64 a0_7):=(bc BK293.out 7).trans rfl;have hcz54_8 : wc.cell? ⟨gb293,8,none⟩ = some (.int .i64 a0_8):=(bc BK293.out 8).trans rfl;have hcz54_9 : wc.cell? ⟨gb293,9,none⟩ = some (.int .i64 a0_9):=(bc BK293.out 9).trans rfl;have hcz54_10 : wc.cell? ⟨gb293,10,none⟩ = some (.int .i64 a0_10):=(bc BK293.out 10).trans rfl;have hcz54_11 : wc.cell? ⟨gb293,11,none⟩ = some (.int .i64 a0_11):=(bc BK293.out 11).trans rfl;have hcz54_12 : wc.cell? ⟨gb293,12,none⟩ = some (.slice A0_12 l0_12.length c0_12):=(bc BK293.out 12).trans rfl;have hcz54_13 : wc.cell? ⟨gb293,13,none⟩ = some (.int .i64 a0_13):=(bc BK293.out 13).trans rfl;have hfz54_0:=bz BK293.out 0;have hfz54_1:=bz BK293.out 1;have hfz54_2:=bz BK293.out 2;have hfz54_3:=bz BK293.out 3;have hfz54_4:=bz BK293.out 4;have hfz54_5:=bz BK293.out 5;have hfz54_6:=bz BK293.out 6;have hfz54_7:=bz BK293.out 7;have hfz54_8:=bz BK293.out 8;have hfz54_9:=bz BK293.out 9;have hfz54_10:=bz BK293.out 10;have hfz54_11:=bz BK293.out 11;have hfz54_12:=bz BK293.out 12;have hfz54_13:=bz BK293.out 13
          try go_wp2
          replace BK293:=am (bd BK293.out);replace BK294:=am (bd BK294.out);replace BK295:=am (bd BK295.out);replace HB:=am (sd HB.out);refine start_ (n:=8) (S:=fun w' => w'.cell? ⟨gb293,0,none⟩ = some (.int .i64 a0_0) ∧ w'.cell? ⟨gb293,1,none⟩ = some (.int .i64 a0_1) ∧ w'.cell? ⟨gb293,2,none⟩ = some (.int .i64 a0_2) ∧ w'.cell? ⟨gb293,3,none⟩ = some (.int .i64 a0_3) ∧ w'.cell? ⟨gb293,4,none⟩ = some (.int .i64 a0_4) ∧ w'.cell? ⟨gb293,5,none⟩ = some (.int .i64 a0_5) ∧ w'.cell? ⟨gb293,6,none⟩ = some (.int .i64 a0_6) ∧ w'.cell? ⟨gb293,7,none⟩ = some (.int .i64 a0_7) ∧ w'.cell? ⟨gb293,8,none⟩ = some (.int .i64 a0_8) ∧ w'.cell? ⟨gb293,9,none⟩ = some (.int .i64 a0_9) ∧ w'.cell? ⟨gb293,10,none⟩ = some (.int .i64 a0_10) ∧ w'.cell? ⟨gb293,11,none⟩ = some (.int .i64 a0_11) ∧ w'.cell? ⟨gb293,12,none⟩ = some (.slice A0_12 l0_12.length c0_12) ∧ w'.cell? ⟨gb293,13,none⟩ = some (.int .i64 a0_13)) (ds:=[]) #[false,false,false,false,false,false,false,false] (by kernel_rfl) rfl rfl ⟨(bc BK293.out 0).trans rfl,(bc BK293.out 1).trans rfl,(bc BK293.out 2).trans rfl,(bc BK293.out 3).trans rfl,(bc BK293.out 4).trans rfl,(bc BK293.out 5).trans rfl,(bc BK293.out 6).trans rfl,(bc BK293.out 7).trans rfl,(bc BK293.out 8).trans rfl,(bc BK293.out 9).trans rfl,(bc BK293.out 10).trans rfl,(bc BK293.out 11).trans rfl,(bc BK293.out 12).trans rfl,(bc BK293.out 13).trans rfl⟩ (fun hHeld => ?_);refine with_tabW ramp_At.tab6 ramp_At.bits6 (fun HT_ HW_ => ?_);generalize wc.drew = w55 at BK293 BK294 BK295 HB hHeld ⊢;refine pure_ (i:=0) (N:=some 29) (v:=?_) (a':=?_) #[true,false,false,false,false,false,false,false] rfl rfl (any_of HT_.out (by kernel_rfl)) (fun _ _ _ h => h) (Or.inl ⟨by rfl,?_⟩) ?_ ?_
          rotate_left
          · intro w'
            go_simp
            with_reducible rfl
          rotate_left
          · simp only [Act.put,q1,q2,q3,i64_w,i32_w]
            rfl
          refine pure_ (i:=2) (N:=some 31) (v:=?_) (a':=?_) #[true,false,true,false,false,false,false,false] rfl rfl (any_of HT_.out (by kernel_rfl)) (fun _ _ _ h => h) (Or.inl ⟨by rfl,?_⟩) ?_ ?_
          rotate_left
          · intro w'
            go_simp
            with_reducible rfl
          rotate_left
          · simp only [Act.put,q1,q2,q3,i64_w,i32_w]
            rfl
          refine pure_ (i:=3) (N:=some 32) (v:=?_) (a':=?_) #[true,false,true,true,false,false,false,false] rfl rfl (any_of HT_.out (by kernel_rfl)) (fun _ _ _ h => h) (Or.inl ⟨by rfl,?_⟩) ?_ ?_
          rotate_left
          · intro w'
            go_simp
            with_reducible rfl
          rotate_left
          · simp only [Act.put,q1,q2,q3,i64_w,i32_w]
            rfl
          refine take_ (i:=1) (N:=some 30) (v:=?_) (a':=?_) #[true,true,true,true,false,false,false,false] rfl rfl (take_ofW HT_.out HW_.out (by kernel_rfl)) (fun _ _ _ h => h) (Or.inl ⟨by rfl,?_⟩) hHeld ?_ ?_
          rotate_left
          · rintro w' ⟨s0,s1,s2,s3,s4,s5,s6,s7,s8,s9,s10,s11,s12,s13⟩
            go_simp
            with_reducible rfl
          rotate_left
          · simp only [Act.put,q1,q2,q3,i64_w,i32_w]
            rfl
          refine take_ (i:=4) (N:=some 33) (v:=?_) (a':=?_) #[true,true,true,true,true,false,false,false] rfl rfl (take_ofW HT_.out HW_.out (by kernel_rfl)) (fun _ _ _ h => h) (Or.inl ⟨by rfl,?_⟩) hHeld ?_ ?_
          rotate_left
          · rintro w' ⟨s0,s1,s2,s3,s4,s5,s6,s7,s8,s9,s10,s11,s12,s13⟩
            go_simp
            with_reducible rfl
          rotate_left
          · simp only [Act.put,q1,q2,q3,i64_w,i32_w]
            rfl
          refine one_ (i:=5) (N:=some 34) #[true,true,true,true,true,true,false,false] rfl rfl (one_of HT_.out (by kernel_rfl)) (by decide) (fun K hK => ?_);refine goes_ Try.func57 (by kernel_rfl) rfl #[.int .i64 t296,.int .i64 a0_11] (by rfl) rfl rfl (by (try simp only [List.map_toArray,List.map_cons,List.map_nil]);first|done|rfl|(simp only [List.length_drop,List.length_take];rfl)) ?_
          with_reducible refine (ramp_Fold.calls t296 a0_11 t304 _ A50.out).mono ?_
          rintro e w56 ⟨rfl,hb⟩
          refine ⟨_,rfl,?_⟩;replace BK293:=am (bw (by exact BK293.out) hb);replace BK294:=am (bw (by exact BK294.out) hb);replace BK295:=am (bw (by exact BK295.out) hb);replace HB:=am (ss (by repeat (first|(with_reducible first|exact HB.out|apply sa|apply sn|apply sd|refine sy ?_ (by assumption))|exact HB.out)) hb);(try clear hb);(try clear hb2);(try clear hk);(try clear hi);refine hK.out _ _ ⟨(bc BK293.out 0).trans rfl,(bc BK293.out 1).trans rfl,(bc BK293.out 2).trans rfl,(bc BK293.out 3).trans rfl,(bc BK293.out 4).trans rfl,(bc BK293.out 5).trans rfl,(bc BK293.out 6).trans rfl,(bc BK293.out 7).trans rfl,(bc BK293.out 8).trans rfl,(bc BK293.out 9).trans rfl,(bc BK293.out 10).trans rfl,(bc BK293.out 11).trans rfl,(bc BK293.out 12).trans rfl,(bc BK293.out 13).trans rfl⟩ (fun hHeld => ?_);clear hK K;refine norm_ (a':=?_) ?_ ?_
          rotate_left
          · show Act.put _ (some 34) _ = _
            simp only [Act.put,q1,q2,q3,i64_w,i32_w]
            rfl
          refine one_ (i:=6) (N:=some 35) #[true,true,true,true,true,true,true,false] rfl rfl (one_of HT_.out (by kernel_rfl)) (by decide) (fun K hK => ?_);refine goes_ Try.func56 (by kernel_rfl) rfl #[.slice A0_12 l0_12.length c0_12,.int .i64 t304] (by rfl) rfl rfl (by (try simp only [List.map_toArray,List.map_cons,List.map_nil]);first|done|rfl|(simp only [List.length_drop,List.length_take];rfl)) ?_
          with_reducible refine (ramp_Color.calls kj3 _ _ l0_12 t304 t305 t306 t307 t308 _ ?side1 ?side2 A51.out).mono ?_
          (case side1 => repeat (first|exact (Kd.C_below HR0_12.out HB.out)|(with_reducible refine Kd.C_alloc ?_ _)|(with_reducible refine Kd.C_drewN ?_ _)|(with_reducible refine Kd.C_drew ?_)))
          (case side2 => exact HC0_12.out)
          rintro e w57 ⟨rfl,hb⟩
          refine ⟨_,rfl,?_⟩;replace BK293:=am (bw (by exact BK293.out) hb);replace BK294:=am (bw (by exact BK294.out) hb);replace BK295:=am (bw (by exact BK295.out) hb);replace HB:=am (ss (by repeat (first|(with_reducible first|exact HB.out|apply sa|apply sn|apply sd|refine sy ?_ (by assumption))|exact HB.out)) hb);(try clear hb);(try clear hb2);(try clear hk);(try clear hi);refine hK.out _ _ ⟨(bc BK293.out 0).trans rfl,(bc BK293.out 1).trans rfl,(bc BK293.out 2).trans rfl,(bc BK293.out 3).trans rfl,(bc BK293.out 4).trans rfl,(bc BK293.out 5).trans rfl,(bc BK293.out 6).trans rfl,(bc BK293.out 7).trans rfl,(bc BK293.out 8).trans rfl,(bc BK293.out 9).trans rfl,(bc BK293.out 10).trans rfl,(bc BK293.out 11).trans rfl,(bc BK293.out 12).trans rfl,(bc BK293.out 13).trans rfl⟩ (fun hHeld => ?_);clear hK K;refine norm_ (a':=?_) ?_ ?_
          rotate_left
          · show Act.put _ (some 35) _ = _
            simp only [Act.put,q1,q2,q3,i64_w,i32_w]
            rfl
          refine one_ (i:=7) (N:=none) #[true,true,true,true,true,true,true,true] rfl rfl (one_of HT_.out (by kernel_rfl)) (by decide) (fun K hK => ?_);have hs58 : w57.cell? ⟨gb295,0,none⟩ = some (.int .i64 0):=(bc BK295.out 0).trans rfl;have hfs58:=bz BK295.out 0;have hns58_0:=NB293_295.out;have hns58_1:=NB294_295.out;have hms58_0:=NB295_293.out;have hms58_1:=NB295_294.out;have hs59 : w57.cell? ⟨gb295,1,none⟩ = some (.int .i64 0):=(bc BK295.out 1).trans rfl;have hfs59:=bz BK295.out 1;have hns59_0:=NB293_295.out;have hns59_1:=NB294_295.out;have hms59_0:=NB295_293.out;have hms59_1:=NB295_294.out;have hs60 : w57.cell? ⟨gb295,2,none⟩ = some (.int .i64 0):=(bc BK295.out 2).trans rfl;have hfs60:=bz BK295.out 2;have hns60_0:=NB293_295.out;have hns60_1:=NB294_295.out;have hms60_0:=NB295_293.out;have hms60_1:=NB295_294.out;have hs61 : w57.cell? ⟨gb295,3,none⟩ = some (.int .i64 0):=(bc BK295.out 3).trans rfl;have hfs61:=bz BK295.out 3;have hns61_0:=NB293_295.out;have hns61_1:=NB294_295.out;have hms61_0:=NB295_293.out;have hms61_1:=NB295_294.out;refine skip_ (w1:=?_) (by rfl) rfl ?_ ?_
          rotate_left
          · go_simp
            rfl
          refine hK.out _ _ ⟨((cell_far (p:=⟨gb295,_,none⟩) NB293_295.out _).trans (((cell_far (p:=⟨gb295,_,none⟩) NB293_295.out _).trans (((cell_far (p:=⟨gb295,_,none⟩) NB293_295.out _).trans (((cell_far (p:=⟨gb295,_,none⟩) NB293_295.out _).trans (hHeld.1)))))))),((cell_far (p:=⟨gb295,_,none⟩) NB293_295.out _).trans (((cell_far (p:=⟨gb295,_,none⟩) NB293_295.out _).trans (((cell_far (p:=⟨gb295,_,none⟩) NB293_295.out _).trans (((cell_far (p:=⟨gb295,_,none⟩) NB293_295.out _).trans (hHeld.2.1)))))))),((cell_far (p:=⟨gb295,_,none⟩) NB293_295.out _).trans (((cell_far (p:=⟨gb295,_,none⟩) NB293_295.out _).trans (((cell_far (p:=⟨gb295,_,none⟩) NB293_295.out _).trans (((cell_far (p:=⟨gb295,_,none⟩) NB293_295.out _).trans (hHeld.2.2.1)))))))),((cell_far (p:=⟨gb295,_,none⟩) NB293_295.out _).trans (((cell_far (p:=⟨gb295,_,none⟩) NB293_295.out _).trans (((cell_far (p:=⟨gb295,_,none⟩) NB293_295.out _).trans (((cell_far (p:=⟨gb295,_,none⟩) NB293_295.out _).trans (hHeld.2.2.2.1)))))))),((cell_far (p:=⟨gb295,_,none⟩) NB293_295.out _).trans (((cell_far (p:=⟨gb295,_,none⟩) NB293_295.out _).trans (((cell_far (p:=⟨gb295,_,none⟩) NB293_295.out _).trans (((cell_far (p:=⟨gb295,_,none⟩) NB293_295.out _).trans (hHeld.2.2.2.2.1)))))))),((cell_far (p:=⟨gb295,_,none⟩) NB293_295.out _).trans (((cell_far (p:=⟨gb295,_,none⟩) NB293_295.out _).trans (((cell_far (p:=⟨gb295,_,none⟩) NB293_295.out _).trans (((cell_far (p:=⟨gb295,_,none⟩) NB293_295.out _).trans (hHeld.2.2.2.2.2.1)))))))),((cell_far (p:=⟨gb295,_,none⟩) NB293_295.out _).trans (((cell_far (p:=⟨gb295,_,none⟩) NB293_295.out _).trans (((cell_far (p:=⟨gb295,_,none⟩) NB293_295.out _).trans (((cell_far (p:=⟨gb295,_,none⟩) NB293_295.out _).trans (hHeld.2.2.2.2.2.2.1)))))))),((cell_far (p:=⟨gb295,_,none⟩) NB293_295.out _).trans (((cell_far (p:=⟨gb295,_,none⟩) NB293_295.out _).trans (((cell_far (p:=⟨gb295,_,none⟩) NB293_295.out _).trans (((cell_far (p:=⟨gb295,_,none⟩) NB293_295.out _).trans (hHeld.2.2.2.2.2.2.2.1)))))))),((cell_far (p:=⟨gb295,_,none⟩) NB293_295.out _).trans (((cell_far (p:=⟨gb295,_,none⟩) NB293_295.out _).trans (((cell_far (p:=⟨gb295,_,none⟩) NB293_295.out _).trans (((cell_far (p:=⟨gb295,_,none⟩) NB293_295.out _).trans (hHeld.2.2.2.2.2.2.2.2.1)))))))),((cell_far (p:=⟨gb295,_,none⟩) NB293_295.out _).trans (((cell_far (p:=⟨gb295,_,none⟩) NB293_295.out _).trans (((cell_far (p:=⟨gb295,_,none⟩) NB293_295.out _).trans (((cell_far (p:=⟨gb295,_,none⟩) NB293_295.out _).trans (hHeld.2.2.2.2.2.2.2.2.2.1)))))))),((cell_far (p:=⟨gb295,_,none⟩) NB293_295.out _).trans (((cell_far (p:=⟨gb295,_,none⟩) NB293_295.out _).trans (((cell_far (p:=⟨gb295,_,none⟩) NB293_295.out _).trans (((cell_far (p:=⟨gb295,_,none⟩) NB293_295.out _).trans (hHeld.2.2.2.2.2.2.2.2.2.2.1)))))))),((cell_far (p:=⟨gb295,_,none⟩) NB293_295.out _).trans (((cell_far (p:=⟨gb295,_,none⟩) NB293_295.out _).trans (((cell_far (p:=⟨gb295,_,none⟩) NB293_295.out _).trans (((cell_far (p:=⟨gb295,_,none⟩) NB293_295.out _).trans (hHeld.2.2.2.2.2.2.2.2.2.2.2.1)))))))),((cell_far (p:=⟨gb295,_,none⟩) NB293_295.out _).trans (((cell_far (p:=⟨gb295,_,none⟩) NB293_295.out _).trans (((cell_far (p:=⟨gb295,_,none⟩) NB293_295.out _).trans (((cell_far (p:=⟨gb295,_,none⟩) NB293_295.out _).trans (hHeld.2.2.2.2.2.2.2.2.2.2.2.2.1)))))))),((cell_far (p:=⟨gb295,_,none⟩) NB293_295.out _).trans (((cell_far (p:=⟨gb295,_,none⟩) NB293_295.out _).trans (((cell_far (p:=⟨gb295,_,none⟩) NB293_295.out _).trans (((cell_far (p:=⟨gb295,_,none⟩) NB293_295.out _).trans (hHeld.2.2.2.2.2.2.2.2.2.2.2.2.2))))))))⟩ (fun hHeld => ?_);clear hK K;refine done_ (done_of HT_.out (by kernel_rfl)) ?_
          try go_wp2
          refine bodyPost_ret (results_cell_row rfl _ _ gb295 23 #[.int .i64 t305,.int .i64 t306,.int .i64 t307,.int .i64 t308] (0,0) _ rfl (bp (bp (bp (bp BK295.out 0 _ rfl) 1 _ rfl) 2 _ rfl) 3 _ rfl) Try.underlying23 rfl (by kernel_rfl)) rfl ?_
          exact ⟨by first|rfl|(simp [errW_none,errW_some] <;> rfl)|(simp [*,errW_none,errW_some] <;> rfl),by repeat (first|(with_reducible first|exact HB.out|apply sa|apply sn|apply sd|refine sy ?_ (by assumption))|exact HB.out)⟩
end Go.Proofs.Ytmdfcinjmlagcaa.P
