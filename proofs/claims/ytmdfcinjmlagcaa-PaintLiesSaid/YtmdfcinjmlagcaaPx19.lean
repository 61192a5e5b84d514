/- Printed by printx.py (wip/tool) out of the translation: plain functions that tell what the program answers,and the proofs that the program comes to these answers,for all arguments of their kinds. Lean checks it. -/
import Derived.Test.YtmdfcinjmlagcaaShort
import Derived.Test.YtmdfcinjmlagcaaPx0
import Derived.Test.YtmdfcinjmlagcaaPx4
import Derived.Test.YtmdfcinjmlagcaaPx6
import Derived.Test.YtmdfcinjmlagcaaPx8
import Derived.Test.YtmdfcinjmlagcaaPx9
import Derived.Test.YtmdfcinjmlagcaaPx11
import Derived.Test.YtmdfcinjmlagcaaPx12
import Derived.Test.YtmdfcinjmlagcaaPx14
import Derived.Test.YtmdfcinjmlagcaaPx17
import Derived.Test.YtmdfcinjmlagcaaPx18
namespace Go.Proofs.Ytmdfcinjmlagcaa.P
open Go.RowKit Go.Proofs.YtmdfcinjmlagcaaW.PrintWords Go.Proofs.YtmdfcinjmlagcaaW.PrintLast Go.Proofs.YtmdfcinjmlagcaaW.PrintMore
attribute [local go_sem] max2_int min2_int max_two min_two max_three min_three max_four min_four max_five min_five max_six min_six   -- for this text's walks alone
set_option linter.unusedVariables false
set_option linter.unusedSimpArgs false

/-! ### paint_At: function 20 -/
mutual
def paint_At.j0 : Nat → List (S43) → Bool → Int → Int → Int → Int → Int → Int → Int → Int → Int → Int → Int → Int → List (S80) → Int → Int → Int → Int → Int → Int → Int → Int → Int → Int → Int → Option (Int × Int × Int × Int)
  | 0,_,_,_,_,_,_,_,_,_,_,_,_,_,_,_,_,_,_,_,_,_,_,_,_,_,_ => none
  | k + 1,x3,x49,x335000,x335001,x335002,x335003,x335004,x335005,x335006,x335007,x335008,x335009,x335010,x335011,x335012,x335013,x337000,x337001,x337002,x337003,x337004,x337005,x337006,x337007,x360000,x360001 => if x49 = true then ((ramp_At.f k x335000 x335001 x335002 x335003 x335004 x335005 x335006 x335007 x335008 x335009 x335010 x335011 x335012 x335013 x360000 x360001).bind fun bt360 => ((affine_Color.f k x337000 x337001 x337002 x337003 x337004 x337005 x337006 x337007 bt360.1 bt360.2.1 bt360.2.2.1 bt360.2.2.2).bind fun bt364 => ((paint_Faint.f k bt364.1 bt364.2.1 bt364.2.2.1 bt364.2.2.2).bind fun bt368 => (some (bt368.1,bt368.2.1,bt368.2.2.1,bt368.2.2.2))))) else ((paint_Find.f k x3 x335013).bind fun bt372 => (if bt372.2.2.2.2 = true then ((pixel_Right.f k bt372.1 bt372.2.1 bt372.2.2.1 bt372.2.2.2.1).bind fun t380 => (paint_At.j1 k x3 (!t380) x335000 x335001 x335002 x335003 x335004 x335005 x335006 x335007 x335008 x335009 x335010 x335011 x335012 x335013 x337000 x337001 x337002 x337003 x337004 x337005 x337006 x337007 x360000 x360001)) else (paint_At.j1 k x3 true x335000 x335001 x335002 x335003 x335004 x335005 x335006 x335007 x335008 x335009 x335010 x335011 x335012 x335013 x337000 x337001 x337002 x337003 x337004 x337005 x337006 x337007 x360000 x360001)))
def paint_At.j1 : Nat → List (S43) → Bool → Int → Int → Int → Int → Int → Int → Int → Int → Int → Int → Int → Int → List (S80) → Int → Int → Int → Int → Int → Int → Int → Int → Int → Int → Int → Option (Int × Int × Int × Int)
  | 0,_,_,_,_,_,_,_,_,_,_,_,_,_,_,_,_,_,_,_,_,_,_,_,_,_,_ => none
  | k + 1,x3,x77,x335000,x335001,x335002,x335003,x335004,x335005,x335006,x335007,x335008,x335009,x335010,x335011,x335012,x335013,x337000,x337001,x337002,x337003,x337004,x337005,x337006,x337007,x360000,x360001 => if x77 = true then (some (0,0,0,0)) else ((paint_picture.f k x335000 x335001 x335002 x335003 x335004 x335005 x335006 x335007 x335008 x335009 x335010 x335011 x335012 x335013 x3 x360000 x360001).bind fun bt381 => ((paint_Clear.f k bt381.1 bt381.2.1 bt381.2.2.1 bt381.2.2.2).bind fun bt385 => ((affine_Color.f k x337000 x337001 x337002 x337003 x337004 x337005 x337006 x337007 bt385.1 bt385.2.1 bt385.2.2.1 bt385.2.2.2).bind fun bt389 => ((paint_Faint.f k bt389.1 bt389.2.1 bt389.2.2.1 bt389.2.2.2).bind fun bt393 => (some (bt393.1,bt393.2.1,bt393.2.2.1,bt393.2.2.2))))))
end
def paint_At.f (k : Nat) (a0_0 : Int) (a0_1 : Int) (a0_2 : Int) (a0_3 : Int) (a0_4 : Int) (a0_5 : Int) (a0_6 : Int) (a0_7 : Int) (a0_8 : Int) (a0_9 : Int) (a0_10 : Int) (a0_11 : Int) (l0_12 : List (S80)) (a0_13 : Int) (a1_0 : Int) (a1_1 : Int) (a1_2 : Int) (a1_3 : Int) (a1_4 : Int) (a1_5 : Int) (a2_0 : Int) (a2_1 : Int) (a2_2 : Int) (a2_3 : Int) (a2_4 : Int) (a2_5 : Int) (a2_6 : Int) (a2_7 : Int) (l3 : List (S43)) (a4_0 : Int) (a4_1 : Int) : Option (Int × Int × Int × Int):=(style_RightFill.f k a0_0 a0_1 a0_2 a0_3 a0_4 a0_5 a0_6 a0_7 a0_8 a0_9 a0_10 a0_11 l0_12 a0_13).bind fun t339 => (if t339 = true then (if a0_0 = 0 then ((affine_Color.f k a2_0 a2_1 a2_2 a2_3 a2_4 a2_5 a2_6 a2_7 a0_1 a0_2 a0_3 a0_4).bind fun bt340 => ((paint_Faint.f k bt340.1 bt340.2.1 bt340.2.2.1 bt340.2.2.2).bind fun bt344 => (some (bt344.1,bt344.2.1,bt344.2.2.1,bt344.2.2.2)))) else ((affine_Compose.f k a1_0 a1_1 a1_2 a1_3 a1_4 a1_5 a0_5 a0_6 a0_7 a0_8 a0_9 a0_10).bind fun bt348 => (if bt348.2.2.2.2.2.2 = 0 then ((affine_Back.f k bt348.1 bt348.2.1 bt348.2.2.1 bt348.2.2.2.1 bt348.2.2.2.2.1 bt348.2.2.2.2.2.1 a4_0 a4_1).bind fun bt356 => (if bt356.2.2 = true then (if a0_0 = 16 then (paint_At.j0 k l3 true a0_0 a0_1 a0_2 a0_3 a0_4 a0_5 a0_6 a0_7 a0_8 a0_9 a0_10 a0_11 l0_12 a0_13 a2_0 a2_1 a2_2 a2_3 a2_4 a2_5 a2_6 a2_7 bt356.1 bt356.2.1) else (paint_At.j0 k l3 (a0_0 == 18) a0_0 a0_1 a0_2 a0_3 a0_4 a0_5 a0_6 a0_7 a0_8 a0_9 a0_10 a0_11 l0_12 a0_13 a2_0 a2_1 a2_2 a2_3 a2_4 a2_5 a2_6 a2_7 bt356.1 bt356.2.1)) else (some (0,0,0,0)))) else (some (0,0,0,0))))) else (some (0,0,0,0)))
theorem paint_At.mono_l : ∀ k,(∀ y0 y1 y2 y3 y4 y5 y6 y7 y8 y9 y10 y11 y12 y13 y14 y15 y16 y17 y18 y19 y20 y21 y22 y23 y24 y25,LeO (paint_At.j0 k y0 y1 y2 y3 y4 y5 y6 y7 y8 y9 y10 y11 y12 y13 y14 y15 y16 y17 y18 y19 y20 y21 y22 y23 y24 y25) (paint_At.j0 (k + 1) y0 y1 y2 y3 y4 y5 y6 y7 y8 y9 y10 y11 y12 y13 y14 y15 y16 y17 y18 y19 y20 y21 y22 y23 y24 y25)) ∧ (∀ y0 y1 y2 y3 y4 y5 y6 y7 y8 y9 y10 y11 y12 y13 y14 y15 y16 y17 y18 y19 y20 y21 y22 y23 y24 y25,LeO (paint_At.j1 k y0 y1 y2 y3 y4 y5 y6 y7 y8 y9 y10 y11 y12 y13 y14 y15 y16 y17 y18 y19 y20 y21 y22 y23 y24 y25) (paint_At.j1 (k + 1) y0 y1 y2 y3 y4 y5 y6 y7 y8 y9 y10 y11 y12 y13 y14 y15 y16 y17 y18 y19 y20 y21 y22 y23 y24 y25))
  | 0 => ⟨fun _ _ _ _ _ _ _ _ _ _ _ _ _ _ _ _ _ _ _ _ _ _ _ _ _ _ r h => by simp [paint_At.j0] at h,fun _ _ _ _ _ _ _ _ _ _ _ _ _ _ _ _ _ _ _ _ _ _ _ _ _ _ r h => by simp [paint_At.j1] at h⟩
  | k + 1 => by
    obtain ⟨ih0,ih1⟩:=paint_At.mono_l k;refine ⟨?_,?_⟩
    · intro y0 y1 y2 y3 y4 y5 y6 y7 y8 y9 y10 y11 y12 y13 y14 y15 y16 y17 y18 y19 y20 y21 y22 y23 y24 y25
      unfold paint_At.j0
      repeat' first
      | (with_reducible exact ih0 _ _ _ _ _ _ _ _ _ _ _ _ _ _ _ _ _ _ _ _ _ _ _ _ _ _)
      | (with_reducible exact ih1 _ _ _ _ _ _ _ _ _ _ _ _ _ _ _ _ _ _ _ _ _ _ _ _ _ _)
      | (with_reducible exact affine_Back.mono _ _ _ _ _ _ _ _ _)
      | (with_reducible exact affine_Color.mono _ _ _ _ _ _ _ _ _ _ _ _ _)
      | (with_reducible exact affine_Compose.mono _ _ _ _ _ _ _ _ _ _ _ _ _)
      | (with_reducible exact paint_Clear.mono _ _ _ _ _)
      | (with_reducible exact paint_Faint.mono _ _ _ _ _)
      | (with_reducible exact paint_Find.mono _ _ _)
      | (with_reducible exact paint_picture.mono _ _ _ _ _ _ _ _ _ _ _ _ _ _ _ _ _ _)
      | (with_reducible exact pixel_Right.mono _ _ _ _ _)
      | (with_reducible exact ramp_At.mono _ _ _ _ _ _ _ _ _ _ _ _ _ _ _ _ _)
      | (with_reducible exact style_RightFill.mono _ _ _ _ _ _ _ _ _ _ _ _ _ _ _)
      | (with_reducible exact LeO.refl _)
      | (with_reducible exact LeO.none _)
      | (with_reducible refine LeO.ite ?_ ?_)
      | (with_reducible refine LeO.bind ?_ (fun _ => ?_))
      | exact ih0 _ _ _ _ _ _ _ _ _ _ _ _ _ _ _ _ _ _ _ _ _ _ _ _ _ _
      | exact ih1 _ _ _ _ _ _ _ _ _ _ _ _ _ _ _ _ _ _ _ _ _ _ _ _ _ _
      | exact affine_Back.mono _ _ _ _ _ _ _ _ _
      | exact affine_Color.mono _ _ _ _ _ _ _ _ _ _ _ _ _
      | exact affine_Compose.mono _ _ _ _ _ _ _ _ _ _ _ _ _
      | exact paint_Clear.mono _ _ _ _ _
      | exact paint_Faint.mono _ _ _ _ _
      | exact paint_Find.mono _ _ _
      | exact paint_picture.mono _ _ _ _ _ _ _ _ _ _ _ _ _ _ _ _ _ _
      | exact pixel_Right.mono _ _ _ _ _
      | exact ramp_At.mono _ _ _ _ _ _ _ _ _ _ _ _ _ _ _ _ _
      | exact style_RightFill.mono _ _ _ _ _ _ _ _ _ _ _ _ _ _ _
      | exact LeO.none _
      | refine LeO.ite ?_ ?_
      | refine LeO.bind ?_ (fun _ => ?_)
    · intro y0 y1 y2 y3 y4 y5 y6 y7 y8 y9 y10 y11 y12 y13 y14 y15 y16 y17 y18 y19 y20 y21 y22 y23 y24 y25
      unfold paint_At.j1
      repeat' first
      | (with_reducible exact ih0 _ _ _ _ _ _ _ _ _ _ _ _ _ _ _ _ _ _ _ _ _ _ _ _ _ _)
      | (with_reducible exact ih1 _ _ _ _ _ _ _ _ _ _ _ _ _ _ _ _ _ _ _ _ _ _ _ _ _ _)
      | (with_reducible exact affine_Back.mono _ _ _ _ _ _ _ _ _)
      | (with_reducible exact affine_Color.mono _ _ _ _ _ _ _ _ _ _ _ _ _)
      | (with_reducible exact affine_Compose.mono _ _ _ _ _ _ _ _ _ _ _ _ _)
      | (with_reducible exact paint_Clear.mono _ _ _ _ _)
      | (with_reducible exact paint_Faint.mono _ _ _ _ _)
      | (with_reducible exact paint_Find.mono _ _ _)
      | (with_reducible exact paint_picture.mono _ _ _ _ _ _ _ _ _ _ _ _ _ _ _ _ _ _)
      | (with_reducible exact pixel_Right.mono _ _ _ _ _)
      | (with_reducible exact ramp_At.mono _ _ _ _ _ _ _ _ _ _ _ _ _ _ _ _ _)
      | (with_reducible exact style_RightFill.mono _ _ _ _ _ _ _ _ _ _ _ _ _ _ _)
      | (with_reducible exact LeO.refl _)
      | (with_reducible exact LeO.none _)
      | (with_reducible refine LeO.ite ?_ ?_)
      | (with_reducible refine LeO.bind ?_ (fun _ => ?_))
      | exact ih0 _ _ _ _ _ _ _ _ _ _ _ _ _ _ _ _ _ _ _ _ _ _ _ _ _ _
      | exact ih1 _ _ _ _ _ _ _ _ _ _ _ _ _ _ _ _ _ _ _ _ _ _ _ _ _ _
      | exact affine_Back.mono _ _ _ _ _ _ _ _ _
      | exact affine_Color.mono _ _ _ _ _ _ _ _ _ _ _ _ _
      | exact affine_Compose.mono _ _ _ _ _ _ _ _ _ _ _ _ _
      | exact paint_Clear.mono _ _ _ _ _
      | exact paint_Faint.mono _ _ _ _ _
      | exact paint_Find.mono _ _ _
      | exact paint_picture.mono _ _ _ _ _ _ _ _ _ _ _ _ _ _ _ _ _ _
      | exact pixel_Right.mono _ _ _ _ _
      | exact ramp_At.mono _ _ _ _ _ _ _ _ _ _ _ _ _ _ _ _ _
      | exact style_RightFill.mono _ _ _ _ _ _ _ _ _ _ _ _ _ _ _
      | exact LeO.none _
      | refine LeO.ite ?_ ?_
      | refine LeO.bind ?_ (fun _ => ?_)
theorem paint_At.mono : ∀ a0 a1 a2 a3 a4 a5 a6 a7 a8 a9 a10 a11 a12 a13 a14 a15 a16 a17 a18 a19 a20 a21 a22 a23 a24 a25 a26 a27 a28 a29 a30 k,LeO (paint_At.f k a0 a1 a2 a3 a4 a5 a6 a7 a8 a9 a10 a11 a12 a13 a14 a15 a16 a17 a18 a19 a20 a21 a22 a23 a24 a25 a26 a27 a28 a29 a30) (paint_At.f (k + 1) a0 a1 a2 a3 a4 a5 a6 a7 a8 a9 a10 a11 a12 a13 a14 a15 a16 a17 a18 a19 a20 a21 a22 a23 a24 a25 a26 a27 a28 a29 a30):=by
  intro a0 a1 a2 a3 a4 a5 a6 a7 a8 a9 a10 a11 a12 a13 a14 a15 a16 a17 a18 a19 a20 a21 a22 a23 a24 a25 a26 a27 a28 a29 a30 k
  obtain ⟨ih0,ih1⟩:=paint_At.mono_l k
  unfold paint_At.f
  repeat' first
      | (with_reducible exact ih0 _ _ _ _ _ _ _ _ _ _ _ _ _ _ _ _ _ _ _ _ _ _ _ _ _ _)
      | (with_reducible exact ih1 _ _ _ _ _ _ _ _ _ _ _ _ _ _ _ _ _ _ _ _ _ _ _ _ _ _)
      | (with_reducible exact affine_Back.mono _ _ _ _ _ _ _ _ _)
      | (with_reducible exact affine_Color.mono _ _ _ _ _ _ _ _ _ _ _ _ _)
      | (with_reducible exact affine_Compose.mono _ _ _ _ _ _ _ _ _ _ _ _ _)
      | (with_reducible exact paint_Clear.mono _ _ _ _ _)
      | (with_reducible exact paint_Faint.mono _ _ _ _ _)
      | (with_reducible exact paint_Find.mono _ _ _)
      | (with_reducible exact paint_picture.mono _ _ _ _ _ _ _ _ _ _ _ _ _ _ _ _ _ _)
      | (with_reducible exact pixel_Right.mono _ _ _ _ _)
      | (with_reducible exact ramp_At.mono _ _ _ _ _ _ _ _ _ _ _ _ _ _ _ _ _)
      | (with_reducible exact style_RightFill.mono _ _ _ _ _ _ _ _ _ _ _ _ _ _ _)
      | (with_reducible exact LeO.refl _)
      | (with_reducible exact LeO.none _)
      | (with_reducible refine LeO.ite ?_ ?_)
      | (with_reducible refine LeO.bind ?_ (fun _ => ?_))
      | exact ih0 _ _ _ _ _ _ _ _ _ _ _ _ _ _ _ _ _ _ _ _ _ _ _ _ _ _
      | exact ih1 _ _ _ _ _ _ _ _ _ _ _ _ _ _ _ _ _ _ _ _ _ _ _ _ _ _
      | exact affine_Back.mono _ _ _ _ _ _ _ _ _
      | exact affine_Color.mono _ _ _ _ _ _ _ _ _ _ _ _ _
      | exact affine_Compose.mono _ _ _ _ _ _ _ _ _ _ _ _ _
      | exact paint_Clear.mono _ _ _ _ _
      | exact paint_Faint.mono _ _ _ _ _
      | exact paint_Find.mono _ _ _
      | exact paint_picture.mono _ _ _ _ _ _ _ _ _ _ _ _ _ _ _ _ _ _
      | exact pixel_Right.mono _ _ _ _ _
      | exact ramp_At.mono _ _ _ _ _ _ _ _ _ _ _ _ _ _ _ _ _
      | exact style_RightFill.mono _ _ _ _ _ _ _ _ _ _ _ _ _ _ _
      | exact LeO.none _
      | refine LeO.ite ?_ ?_
      | refine LeO.bind ?_ (fun _ => ?_)
def paint_At.T16 : Bool × List (List Nat × List Nat):=(true,[([],[]),([],[]),([],[]),([],[]),([1,2,3],[1,2,3]),([4,4],[4]),([0,5,5],[0,5]),([6,6],[6]),([7,7,0,1,2,3,4,5,6,7],[7])])
def paint_At.B16 : List Nat:=[0,0,0,0,14,30,63,127,255]
theorem paint_At.tab16 : rtab .any (opsOf Try.f20 16) = paint_At.T16:=by kernel_rfl
theorem paint_At.bits16 : waitsOk paint_At.T16.2 paint_At.B16 = true:=by kernel_rfl
set_option maxHeartbeats 8000000 in
set_option maxRecDepth 100000 in
theorem paint_At.calls (k : Nat) (a0_0 : Int) (a0_1 : Int) (a0_2 : Int) (a0_3 : Int) (a0_4 : Int) (a0_5 : Int) (a0_6 : Int) (a0_7 : Int) (a0_8 : Int) (a0_9 : Int) (a0_10 : Int) (a0_11 : Int) (A0_12 : Option Addr) (c0_12 : Nat) (l0_12 : List (S80)) (a0_13 : Int) (a1_0 : Int) (a1_1 : Int) (a1_2 : Int) (a1_3 : Int) (a1_4 : Int) (a1_5 : Int) (a2_0 : Int) (a2_1 : Int) (a2_2 : Int) (a2_3 : Int) (a2_4 : Int) (a2_5 : Int) (a2_6 : Int) (a2_7 : Int) (A3 : Option Addr) (c3 : Nat) (l3 : List (S43)) (a4_0 : Int) (a4_1 : Int) (r1 : Int) (r2 : Int) (r3 : Int) (r4 : Int) (w : World) (hr0_12 : Kd.C k80 w A0_12 l0_12.length l0_12) (hc0_12 : l0_12.length ≤ c0_12) (hr3 : Kd.C k43 w A3 l3.length l3) (hc3 : l3.length ≤ c3) (h : paint_At.f k a0_0 a0_1 a0_2 a0_3 a0_4 a0_5 a0_6 a0_7 a0_8 a0_9 a0_10 a0_11 l0_12 a0_13 a1_0 a1_1 a1_2 a1_3 a1_4 a1_5 a2_0 a2_1 a2_2 a2_3 a2_4 a2_5 a2_6 a2_7 l3 a4_0 a4_1 = some (r1,r2,r3,r4)) :
    Calls Try.prog 20 #[.agg #[.int .i64 a0_0,.int .i64 a0_1,.int .i64 a0_2,.int .i64 a0_3,.int .i64 a0_4,.int .i64 a0_5,.int .i64 a0_6,.int .i64 a0_7,.int .i64 a0_8,.int .i64 a0_9,.int .i64 a0_10,.int .i64 a0_11,.slice A0_12 l0_12.length c0_12,.int .i64 a0_13],.agg #[.int .i64 a1_0,.int .i64 a1_1,.int .i64 a1_2,.int .i64 a1_3,.int .i64 a1_4,.int .i64 a1_5],.agg #[.int .i64 a2_0,.int .i64 a2_1,.int .i64 a2_2,.int .i64 a2_3,.int .i64 a2_4,.int .i64 a2_5,.int .i64 a2_6,.int .i64 a2_7],.slice A3 l3.length c3,.agg #[.int .i64 a4_0,.int .i64 a4_1]] w fun e w' => e = .returned (.agg #[.int .i64 r1,.int .i64 r2,.int .i64 r3,.int .i64 r4]) ∧ Below w.heap.size w w':=by
  have hu31:=Try.underlying31;have hu28:=Try.underlying28;have hu34:=Try.underlying34;have hu37:=Try.underlying37;have hu23:=Try.underlying23;have hu43:=Try.underlying43;have HR0_12:=am hr0_12;have HC0_12:=am hc0_12;clear hr0_12 hc0_12;have HR3:=am hr3;have HC3:=am hc3;clear hr3 hc3;have HB:=am (Below.refl w.heap.size w);have H : ((style_RightFill.f k a0_0 a0_1 a0_2 a0_3 a0_4 a0_5 a0_6 a0_7 a0_8 a0_9 a0_10 a0_11 l0_12 a0_13).bind fun t339 => (if t339 = true then (if a0_0 = 0 then ((affine_Color.f k a2_0 a2_1 a2_2 a2_3 a2_4 a2_5 a2_6 a2_7 a0_1 a0_2 a0_3 a0_4).bind fun bt340 => ((paint_Faint.f k bt340.1 bt340.2.1 bt340.2.2.1 bt340.2.2.2).bind fun bt344 => (some (bt344.1,bt344.2.1,bt344.2.2.1,bt344.2.2.2)))) else ((affine_Compose.f k a1_0 a1_1 a1_2 a1_3 a1_4 a1_5 a0_5 a0_6 a0_7 a0_8 a0_9 a0_10).bind fun bt348 => (if bt348.2.2.2.2.2.2 = 0 then ((affine_Back.f k bt348.1 bt348.2.1 bt348.2.2.1 bt348.2.2.2.1 bt348.2.2.2.2.1 bt348.2.2.2.2.2.1 a4_0 a4_1).bind fun bt356 => (if bt356.2.2 = true then (if a0_0 = 16 then (paint_At.j0 k l3 true a0_0 a0_1 a0_2 a0_3 a0_4 a0_5 a0_6 a0_7 a0_8 a0_9 a0_10 a0_11 l0_12 a0_13 a2_0 a2_1 a2_2 a2_3 a2_4 a2_5 a2_6 a2_7 bt356.1 bt356.2.1) else (paint_At.j0 k l3 (a0_0 == 18) a0_0 a0_1 a0_2 a0_3 a0_4 a0_5 a0_6 a0_7 a0_8 a0_9 a0_10 a0_11 l0_12 a0_13 a2_0 a2_1 a2_2 a2_3 a2_4 a2_5 a2_6 a2_7 bt356.1 bt356.2.1)) else (some (0,0,0,0)))) else (some (0,0,0,0))))) else (some (0,0,0,0)))) = some (r1,r2,r3,r4):=h;clear h;replace H:=Option.bind_eq_some_iff.mp H;obtain ⟨t339,A60,H⟩:=H;replace H : (if t339 = true then (if a0_0 = 0 then ((affine_Color.f k a2_0 a2_1 a2_2 a2_3 a2_4 a2_5 a2_6 a2_7 a0_1 a0_2 a0_3 a0_4).bind fun bt340 => ((paint_Faint.f k bt340.1 bt340.2.1 bt340.2.2.1 bt340.2.2.2).bind fun bt344 => (some (bt344.1,bt344.2.1,bt344.2.2.1,bt344.2.2.2)))) else ((affine_Compose.f k a1_0 a1_1 a1_2 a1_3 a1_4 a1_5 a0_5 a0_6 a0_7 a0_8 a0_9 a0_10).bind fun bt348 => (if bt348.2.2.2.2.2.2 = 0 then ((affine_Back.f k bt348.1 bt348.2.1 bt348.2.2.1 bt348.2.2.2.1 bt348.2.2.2.2.1 bt348.2.2.2.2.2.1 a4_0 a4_1).bind fun bt356 => (if bt356.2.2 = true then (if a0_0 = 16 then (paint_At.j0 k l3 true a0_0 a0_1 a0_2 a0_3 a0_4 a0_5 a0_6 a0_7 a0_8 a0_9 a0_10 a0_11 l0_12 a0_13 a2_0 a2_1 a2_2 a2_3 a2_4 a2_5 a2_6 a2_7 bt356.1 bt356.2.1) else (paint_At.j0 k l3 (a0_0 == 18) a0_0 a0_1 a0_2 a0_3 a0_4 a0_5 a0_6 a0_7 a0_8 a0_9 a0_10 a0_11 l0_12 a0_13 a2_0 a2_1 a2_2 a2_3 a2_4 a2_5 a2_6 a2_7 bt356.1 bt356.2.1)) else (some (0,0,0,0)))) else (some (0,0,0,0))))) else (some (0,0,0,0))) = some (r1,r2,r3,r4):=H;have A6:=am A60;clear A60
  by_cases c7 : t339 = true
  · subst c7
    have H1 : (if a0_0 = 0 then ((affine_Color.f k a2_0 a2_1 a2_2 a2_3 a2_4 a2_5 a2_6 a2_7 a0_1 a0_2 a0_3 a0_4).bind fun bt340 => ((paint_Faint.f k bt340.1 bt340.2.1 bt340.2.2.1 bt340.2.2.2).bind fun bt344 => (some (bt344.1,bt344.2.1,bt344.2.2.1,bt344.2.2.2)))) else ((affine_Compose.f k a1_0 a1_1 a1_2 a1_3 a1_4 a1_5 a0_5 a0_6 a0_7 a0_8 a0_9 a0_10).bind fun bt348 => (if bt348.2.2.2.2.2.2 = 0 then ((affine_Back.f k bt348.1 bt348.2.1 bt348.2.2.1 bt348.2.2.2.1 bt348.2.2.2.2.1 bt348.2.2.2.2.2.1 a4_0 a4_1).bind fun bt356 => (if bt356.2.2 = true then (if a0_0 = 16 then (paint_At.j0 k l3 true a0_0 a0_1 a0_2 a0_3 a0_4 a0_5 a0_6 a0_7 a0_8 a0_9 a0_10 a0_11 l0_12 a0_13 a2_0 a2_1 a2_2 a2_3 a2_4 a2_5 a2_6 a2_7 bt356.1 bt356.2.1) else (paint_At.j0 k l3 (a0_0 == 18) a0_0 a0_1 a0_2 a0_3 a0_4 a0_5 a0_6 a0_7 a0_8 a0_9 a0_10 a0_11 l0_12 a0_13 a2_0 a2_1 a2_2 a2_3 a2_4 a2_5 a2_6 a2_7 bt356.1 bt356.2.1)) else (some (0,0,0,0)))) else (some (0,0,0,0))))) = some (r1,r2,r3,r4):=by rw [if_pos rfl] at H;exact H
    clear H;have H:=H1;clear H1
    by_cases c8 : a0_0 = 0
    · rw [if_pos c8] at H
      have c8b0 : (a0_0 == 0) = true:=beq_iff_eq.mpr c8;have c8b1 : (a0_0 != 0) = false:=bne_eq_false_iff_eq.mpr c8;clear c8;replace H:=Option.bind_eq_some_iff.mp H;obtain ⟨⟨t340,t341,t342,t343⟩,A90,H⟩:=H;replace H : ((paint_Faint.f k t340 t341 t342 t343).bind fun bt344 => (some (bt344.1,bt344.2.1,bt344.2.2.1,bt344.2.2.2))) = some (r1,r2,r3,r4):=H;have A9:=am A90;clear A90;replace H:=Option.bind_eq_some_iff.mp H;obtain ⟨⟨t344,t345,t346,t347⟩,A100,H⟩:=H;replace H : (some (t344,t345,t346,t347)) = some (r1,r2,r3,r4):=H;have A10:=am A100;clear A100;simp only [Option.some.injEq,Prod.mk.injEq] at H;obtain ⟨rfl,rfl,rfl,rfl⟩:=H
      go_enter Try.func20,Try.ntmps20
      go_wp2_with (first|((with_reducible refine gate_dst (N:=5) rfl ?_);refine box_event ?hg (N:=5) ?hd (cs:=#[.int .i64 a0_0,.int .i64 a0_1,.int .i64 a0_2,.int .i64 a0_3,.int .i64 a0_4,.int .i64 a0_5,.int .i64 a0_6,.int .i64 a0_7,.int .i64 a0_8,.int .i64 a0_9,.int .i64 a0_10,.int .i64 a0_11,.slice A0_12 l0_12.length c0_12,.int .i64 a0_13]) (t:=31) ?hr ?_;(case hd => rfl);(case hg => rfl);(case hr => first|(go_simp;done)|(go_simp;rfl));intro gb334 hg w11 hbox hb;have BK334:=am (hbox);have GW334:=am ((by rw [hg];exact (sz (by repeat (first|(with_reducible first|exact HB.out|apply sa|apply sn|apply sd)|exact HB.out))) : w.heap.size ≤ gb334));have GE334:=am ((by rw [hg];exact (sz (by repeat (first|(with_reducible first|exact HB.out|apply sa|apply sn|apply sd)|exact HB.out))) : w.heap.size ≤ gb334));replace HB:=am (ss (by repeat (first|(with_reducible first|exact HB.out|apply sa|apply sn|apply sd)|exact HB.out)) hb);clear hb hbox hg)|((with_reducible refine gate_dst (N:=6) rfl ?_);refine box_event ?hg (N:=6) ?hd (cs:=#[.int .i64 a1_0,.int .i64 a1_1,.int .i64 a1_2,.int .i64 a1_3,.int .i64 a1_4,.int .i64 a1_5]) (t:=28) ?hr ?_;(case hd => rfl);(case hg => rfl);(case hr => first|(go_simp;done)|(go_simp;rfl));intro gb335 hg w12 hbox hb;have BK335:=am (hbox);obtain ⟨h1_,GW335⟩:=sg (by repeat (first|(with_reducible first|exact HB.out|apply sa|apply sn|apply sd|refine sx ?_ GE334.out)|exact HB.out)) hb hg;replace HB:=h1_;clear h1_;have GE335:=GW335;have NB334_335:=nb (by exact BK334.out) hg;have NB335_334:=ng (by exact BK334.out) hg;replace BK334:=am (bw (by exact BK334.out) hb);clear hb hbox hg)|((with_reducible refine gate_dst (N:=7) rfl ?_);refine box_event ?hg (N:=7) ?hd (cs:=#[.int .i64 a2_0,.int .i64 a2_1,.int .i64 a2_2,.int .i64 a2_3,.int .i64 a2_4,.int .i64 a2_5,.int .i64 a2_6,.int .i64 a2_7]) (t:=34) ?hr ?_;(case hd => rfl);(case hg => rfl);(case hr => first|(go_simp;done)|(go_simp;rfl));intro gb336 hg w13 hbox hb;have BK336:=am (hbox);obtain ⟨h1_,GW336⟩:=sg (by repeat (first|(with_reducible first|exact HB.out|apply sa|apply sn|apply sd|refine sy ?_ (by assumption))|exact HB.out)) hb hg;replace HB:=h1_;clear h1_;have GE336:=GW336;have NB334_336:=nb (by exact BK334.out) hg;replace BK334:=am (bw (by exact BK334.out) hb);have NB336_334:=am (Ne.symm NB334_336.out);have NB335_336:=nb (by exact BK335.out) hg;have NB336_335:=ng (by exact BK335.out) hg;replace BK335:=am (bw (by exact BK335.out) hb);clear hb hbox hg)|((with_reducible refine gate_dst (N:=9) rfl ?_);refine box_event ?hg (N:=9) ?hd (cs:=#[.int .i64 a4_0,.int .i64 a4_1]) (t:=37) ?hr ?_;(case hd => rfl);(case hg => rfl);(case hr => first|(go_simp;done)|(go_simp;rfl));intro gb337 hg w14 hbox hb;have BK337:=am (hbox);obtain ⟨h1_,GW337⟩:=sg (by repeat (first|(with_reducible first|exact HB.out|apply sa|apply sn|apply sd|refine sy ?_ (by assumption))|exact HB.out)) hb hg;replace HB:=h1_;clear h1_;have GE337:=GW337;have NB334_337:=nb (by exact BK334.out) hg;replace BK334:=am (bw (by exact BK334.out) hb);have NB337_334:=am (Ne.symm NB334_337.out);have NB335_337:=nb (by exact BK335.out) hg;replace BK335:=am (bw (by exact BK335.out) hb);have NB337_335:=am (Ne.symm NB335_337.out);have NB336_337:=nb (by exact BK336.out) hg;have NB337_336:=ng (by exact BK336.out) hg;replace BK336:=am (bw (by exact BK336.out) hb);clear hb hbox hg)|((with_reducible refine gate_dst (N:=10) rfl ?_);refine box_event ?hg (N:=10) ?hd (cs:=#[.int .i64 0,.int .i64 0,.int .i64 0,.int .i64 0]) (t:=23) ?hr ?_;(case hd => rfl);(case hg => rfl);(case hr => first|(go_simp;done)|(go_simp;rfl));intro gb338 hg w15 hbox hb;have BK338:=am (hbox);obtain ⟨h1_,GW338⟩:=sg (by repeat (first|(with_reducible first|exact HB.out|apply sa|apply sn|apply sd|refine sy ?_ (by assumption))|exact HB.out)) hb hg;replace HB:=h1_;clear h1_;have GE338:=GW338;have NB334_338:=nb (by exact BK334.out) hg;replace BK334:=am (bw (by exact BK334.out) hb);have NB338_334:=am (Ne.symm NB334_338.out);have NB335_338:=nb (by exact BK335.out) hg;replace BK335:=am (bw (by exact BK335.out) hb);have NB338_335:=am (Ne.symm NB335_338.out);have NB336_338:=nb (by exact BK336.out) hg;replace BK336:=am (bw (by exact BK336.out) hb);have NB338_336:=am (Ne.symm NB336_338.out);have NB337_338:=nb (by exact BK337.out) hg;have NB338_337:=ng (by exact BK337.out) hg;replace BK337:=am (bw (by exact BK337.out) hb);clear hb hbox hg;have hnb16:=NB334_335.out;have hnc16:=NB335_334.out;have hnb17:=NB334_336.out;have hnc17:=NB336_334.out;have hnb18:=NB334_337.out;have hnc18:=NB337_334.out;have hnb19:=NB334_338.out;have hnc19:=NB338_334.out;obtain ⟨hcz20_0,hcz20_1,hcz20_2,hcz20_3,hcz20_4,hcz20_5,hcz20_6,hcz20_7,hcz20_8,hcz20_9,hcz20_10,hcz20_11,hcz20_12,hcz20_13⟩:=cq14 BK334.out;obtain ⟨hfz20_0,hfz20_1,hfz20_2,hfz20_3,hfz20_4,hfz20_5,hfz20_6,hfz20_7,hfz20_8,hfz20_9,hfz20_10,hfz20_11,hfz20_12,hfz20_13⟩:=fq14 BK334.out)|((with_reducible refine gate_callee (f:=28) rfl ?_);refine goesL_ (some 18) rfl rfl Try.func28 (by kernel_rfl) rfl #[.agg #[.int .i64 a0_0,.int .i64 a0_1,.int .i64 a0_2,.int .i64 a0_3,.int .i64 a0_4,.int .i64 a0_5,.int .i64 a0_6,.int .i64 a0_7,.int .i64 a0_8,.int .i64 a0_9,.int .i64 a0_10,.int .i64 a0_11,.slice A0_12 l0_12.length c0_12,.int .i64 a0_13]] rfl (by (try simp only [List.map_toArray,List.map_cons,List.map_nil]);first|done|rfl|(simp only [List.length_drop,List.length_take];rfl)) ?_;(with_reducible refine (style_RightFill.calls k a0_0 a0_1 a0_2 a0_3 a0_4 a0_5 a0_6 a0_7 a0_8 a0_9 a0_10 a0_11 _ _ l0_12 a0_13 true _ ?side1 ?side2 A6.out).mono ?_);(case side1 => repeat (first|exact (Kd.C_below HR0_12.out HB.out)|(with_reducible refine Kd.C_alloc ?_ _)|(with_reducible refine Kd.C_drewN ?_ _)|(with_reducible refine Kd.C_drew ?_)));(case side2 => exact HC0_12.out);rintro e w21 ⟨rfl,hb⟩;refine ⟨_,rfl,?_⟩;replace BK334:=am (bw (by exact BK334.out) hb);replace BK335:=am (bw (by exact BK335.out) hb);replace BK336:=am (bw (by exact BK336.out) hb);replace BK337:=am (bw (by exact BK337.out) hb);replace BK338:=am (bw (by exact BK338.out) hb);replace HB:=am (ss (by repeat (first|(with_reducible first|exact HB.out|apply sa|apply sn|apply sd|refine sy ?_ (by assumption))|exact HB.out)) hb);(try clear hb);(try clear hb2);(try clear hk);(try clear hi);obtain ⟨hcz22_0,hcz22_1,hcz22_2,hcz22_3,hcz22_4,hcz22_5,hcz22_6,hcz22_7,hcz22_8,hcz22_9,hcz22_10,hcz22_11,hcz22_12,hcz22_13⟩:=cq14 BK334.out;obtain ⟨hfz22_0,hfz22_1,hfz22_2,hfz22_3,hfz22_4,hfz22_5,hfz22_6,hfz22_7,hfz22_8,hfz22_9,hfz22_10,hfz22_11,hfz22_12,hfz22_13⟩:=fq14 BK334.out;have hnb23:=NB336_335.out;have hnc23:=NB335_336.out;have hnb24:=NB336_337.out;have hnc24:=NB337_336.out;have hnb25:=NB336_338.out;have hnc25:=NB338_336.out;obtain ⟨hcz26_0,hcz26_1,hcz26_2,hcz26_3,hcz26_4,hcz26_5,hcz26_6,hcz26_7⟩:=cq8 BK336.out;obtain ⟨hfz26_0,hfz26_1,hfz26_2,hfz26_3,hfz26_4,hfz26_5,hfz26_6,hfz26_7⟩:=fq8 BK336.out)|((with_reducible refine gate_callee (f:=29) rfl ?_);refine goesL_ (some 27) rfl rfl Try.func29 (by kernel_rfl) rfl #[.agg #[.int .i64 a2_0,.int .i64 a2_1,.int .i64 a2_2,.int .i64 a2_3,.int .i64 a2_4,.int .i64 a2_5,.int .i64 a2_6,.int .i64 a2_7],.agg #[.int .i64 a0_1,.int .i64 a0_2,.int .i64 a0_3,.int .i64 a0_4]] rfl (by (try simp only [List.map_toArray,List.map_cons,List.map_nil]);first|done|rfl|(simp only [List.length_drop,List.length_take];rfl)) ?_;(with_reducible refine (affine_Color.calls k a2_0 a2_1 a2_2 a2_3 a2_4 a2_5 a2_6 a2_7 a0_1 a0_2 a0_3 a0_4 t340 t341 t342 t343 _ A9.out).mono ?_);rintro e w27 ⟨rfl,hb⟩;refine ⟨_,rfl,?_⟩;replace BK334:=am (bw (by exact BK334.out) hb);replace BK335:=am (bw (by exact BK335.out) hb);replace BK336:=am (bw (by exact BK336.out) hb);replace BK337:=am (bw (by exact BK337.out) hb);replace BK338:=am (bw (by exact BK338.out) hb);replace HB:=am (ss (by repeat (first|(with_reducible first|exact HB.out|apply sa|apply sn|apply sd|refine sy ?_ (by assumption))|exact HB.out)) hb);(try clear hb);(try clear hb2);(try clear hk);(try clear hi))|((with_reducible refine gate_callee (f:=9) rfl ?_);refine goesL_ (some 28) rfl rfl Try.func9 (by kernel_rfl) rfl #[.agg #[.int .i64 t340,.int .i64 t341,.int .i64 t342,.int .i64 t343]] rfl (by (try simp only [List.map_toArray,List.map_cons,List.map_nil]);first|done|rfl|(simp only [List.length_drop,List.length_take];rfl)) ?_;(with_reducible refine (paint_Faint.calls k t340 t341 t342 t343 t344 t345 t346 t347 _ A10.out).mono ?_);rintro e w28 ⟨rfl,hb⟩;refine ⟨_,rfl,?_⟩;replace BK334:=am (bw (by exact BK334.out) hb);replace BK335:=am (bw (by exact BK335.out) hb);replace BK336:=am (bw (by exact BK336.out) hb);replace BK337:=am (bw (by exact BK337.out) hb);replace BK338:=am (bw (by exact BK338.out) hb);replace HB:=am (ss (by repeat (first|(with_reducible first|exact HB.out|apply sa|apply sn|apply sd|refine sy ?_ (by assumption))|exact HB.out)) hb);(try clear hb);(try clear hb2);(try clear hk);(try clear hi);have hnb29:=NB338_335.out;have hnc29:=NB335_338.out;have hnb30:=NB338_337.out;have hnc30:=NB337_338.out;obtain ⟨hcz31_0,hcz31_1,hcz31_2,hcz31_3⟩:=cq4 BK338.out;obtain ⟨hfz31_0,hfz31_1,hfz31_2,hfz31_3⟩:=fq4 BK338.out))
      refine bodyPost_ret (results_cell_row rfl _ _ gb338 23 #[.int .i64 t344,.int .i64 t345,.int .i64 t346,.int .i64 t347] (0,0) _ rfl (bp (bp (bp (bp BK338.out 0 _ rfl) 1 _ rfl) 2 _ rfl) 3 _ rfl) Try.underlying23 rfl (by kernel_rfl)) rfl ?_
      exact ⟨by first|rfl|(simp [errW_none,errW_some] <;> rfl)|(simp [*,errW_none,errW_some] <;> rfl),by repeat (first|(with_reducible first|exact HB.out|apply sa|apply sn|apply sd|refine sy ?_ (by assumption))|exact HB.out)⟩
    · rw [if_neg c8] at H
      have c8b0 : (a0_0 == 0) = false:=beq_eq_false_iff_ne.mpr c8;have c8b1 : (a0_0 != 0) = true:=bne_iff_ne.mpr c8;replace H:=Option.bind_eq_some_iff.mp H;obtain ⟨⟨t348,t349,t350,t351,t352,t353,t354⟩,A320,H⟩:=H;replace H : (if t354 = 0 then ((affine_Back.f k t348 t349 t350 t351 t352 t353 a4_0 a4_1).bind fun bt356 => (if bt356.2.2 = true then (if a0_0 = 16 then (paint_At.j0 k l3 true a0_0 a0_1 a0_2 a0_3 a0_4 a0_5 a0_6 a0_7 a0_8 a0_9 a0_10 a0_11 l0_12 a0_13 a2_0 a2_1 a2_2 a2_3 a2_4 a2_5 a2_6 a2_7 bt356.1 bt356.2.1) else (paint_At.j0 k l3 (a0_0 == 18) a0_0 a0_1 a0_2 a0_3 a0_4 a0_5 a0_6 a0_7 a0_8 a0_9 a0_10 a0_11 l0_12 a0_13 a2_0 a2_1 a2_2 a2_3 a2_4 a2_5 a2_6 a2_7 bt356.1 bt356.2.1)) else (some (0,0,0,0)))) else (some (0,0,0,0))) = some (r1,r2,r3,r4):=H;have A32:=am A320;clear A320
      by_cases c33 : t354 = 0
      · rw [if_pos c33] at H
        have c33b0 : (t354 == 0) = true:=beq_iff_eq.mpr c33;have c33b1 : (t354 != 0) = false:=bne_eq_false_iff_eq.mpr c33;clear c33;replace H:=Option.bind_eq_some_iff.mp H;obtain ⟨⟨t356,t357,t358⟩,A340,H⟩:=H;replace H : (if t358 = true then (if a0_0 = 16 then (paint_At.j0 k l3 true a0_0 a0_1 a0_2 a0_3 a0_4 a0_5 a0_6 a0_7 a0_8 a0_9 a0_10 a0_11 l0_12 a0_13 a2_0 a2_1 a2_2 a2_3 a2_4 a2_5 a2_6 a2_7 t356 t357) else (paint_At.j0 k l3 (a0_0 == 18) a0_0 a0_1 a0_2 a0_3 a0_4 a0_5 a0_6 a0_7 a0_8 a0_9 a0_10 a0_11 l0_12 a0_13 a2_0 a2_1 a2_2 a2_3 a2_4 a2_5 a2_6 a2_7 t356 t357)) else (some (0,0,0,0))) = some (r1,r2,r3,r4):=H;have A34:=am A340;clear A340
        by_cases c35 : t358 = true
        · subst c35
          have H1 : (if a0_0 = 16 then (paint_At.j0 k l3 true a0_0 a0_1 a0_2 a0_3 a0_4 a0_5 a0_6 a0_7 a0_8 a0_9 a0_10 a0_11 l0_12 a0_13 a2_0 a2_1 a2_2 a2_3 a2_4 a2_5 a2_6 a2_7 t356 t357) else (paint_At.j0 k l3 (a0_0 == 18) a0_0 a0_1 a0_2 a0_3 a0_4 a0_5 a0_6 a0_7 a0_8 a0_9 a0_10 a0_11 l0_12 a0_13 a2_0 a2_1 a2_2 a2_3 a2_4 a2_5 a2_6 a2_7 t356 t357)) = some (r1,r2,r3,r4):=by rw [if_pos rfl] at H;exact H
          clear H;have H:=H1;clear H1;have HC36:=am H;clear H
          go_enter Try.func20,Try.ntmps20
          go_upto_region 11 with (first|((with_reducible refine gate_dst (N:=5) rfl ?_);refine box_event ?hg (N:=5) ?hd (cs:=#[.int .i64 a0_0,.int .i64 a0_1,.int .i64 a0_2,.int .i64 a0_3,.int .i64 a0_4,.int .i64 a0_5,.int .i64 a0_6,.int .i64 a0_7,.int .i64 a0_8,.int .i64 a0_9,.int .i64 a0_10,.int .i64 a0_11,.slice A0_12 l0_12.length c0_12,.int .i64 a0_13]) (t:=31) ?hr ?_;(case hd => rfl);(case hg => rfl);(case hr => first|(go_simp;done)|(go_simp;rfl));intro gb334 hg w37 hbox hb;have n0_:=am (ss (by repeat (first|(with_reducible first|exact HB.out|apply sa|apply sn|apply sd)|exact HB.out)) hb);have n1_:=am (hbox);have n2_:=am ((by rw [hg];exact (sz (by repeat (first|(with_reducible first|exact HB.out|apply sa|apply sn|apply sd)|exact HB.out))) : w.heap.size ≤ gb334));have n3_:=am ((by rw [hg];exact (sz (by repeat (first|(with_reducible first|exact HB.out|apply sa|apply sn|apply sd)|exact HB.out))) : w.heap.size ≤ gb334));clear HB;have HB:=n0_;have BK334:=n1_;have GW334:=n2_;have GE334:=n3_;clear n0_ n1_ n2_ n3_;clear hb hbox hg)|((with_reducible refine gate_dst (N:=6) rfl ?_);refine box_event ?hg (N:=6) ?hd (cs:=#[.int .i64 a1_0,.int .i64 a1_1,.int .i64 a1_2,.int .i64 a1_3,.int .i64 a1_4,.int .i64 a1_5]) (t:=28) ?hr ?_;(case hd => rfl);(case hg => rfl);(case hr => first|(go_simp;done)|(go_simp;rfl));intro gb335 hg w38 hbox hb;have n0_:=am (bw (by exact BK334.out) hb);have n1_:=am (ss (by repeat (first|(with_reducible first|exact HB.out|apply sa|apply sn|apply sd|refine sx ?_ GE334.out)|exact HB.out)) hb);have n2_:=am (hbox);have n3_:=am ((by rw [hg];exact (sz (by repeat (first|(with_reducible first|exact HB.out|apply sa|apply sn|apply sd|refine sx ?_ GE334.out)|exact HB.out))) : w.heap.size ≤ gb335));have n4_:=n3_;have n5_:=nb (by exact BK334.out) hg;have n6_:=ng (by exact BK334.out) hg;clear BK334;clear HB;have BK334:=n0_;have HB:=n1_;have BK335:=n2_;have GW335:=n3_;have GE335:=n4_;have NB334_335:=n5_;have NB335_334:=n6_;clear n0_ n1_ n2_ n3_ n4_ n5_ n6_;clear hb hbox hg)|((with_reducible refine gate_dst (N:=7) rfl ?_);refine box_event ?hg (N:=7) ?hd (cs:=#[.int .i64 a2_0,.int .i64 a2_1,.int .i64 a2_2,.int .i64 a2_3,.int .i64 a2_4,.int .i64 a2_5,.int .i64 a2_6,.int .i64 a2_7]) (t:=34) ?hr ?_;(case hd => rfl);(case hg => rfl);(case hr => first|(go_simp;done)|(go_simp;rfl));intro gb336 hg w39 hbox hb;have n0_:=am (bw (by exact BK334.out) hb);have n1_:=am (bw (by exact BK335.out) hb);have n2_:=am (ss (by repeat (first|(with_reducible first|exact HB.out|apply sa|apply sn|apply sd|refine sy ?_ (by assumption))|exact HB.out)) hb);have n3_:=am (hbox);have n4_:=am ((by rw [hg];exact (sz (by repeat (first|(with_reducible first|exact HB.out|apply sa|apply sn|apply sd|refine sy ?_ (by assumption))|exact HB.out))) : w.heap.size ≤ gb336));have n5_:=n4_;have n6_:=nb (by exact BK334.out) hg;have n7_:=am (Ne.symm n6_.out);have n8_:=nb (by exact BK335.out) hg;have n9_:=ng (by exact BK335.out) hg;clear BK334;clear BK335;clear HB;have BK334:=n0_;have BK335:=n1_;have HB:=n2_;have BK336:=n3_;have GW336:=n4_;have GE336:=n5_;have NB334_336:=n6_;have NB336_334:=n7_;have NB335_336:=n8_;have NB336_335:=n9_;clear n0_ n1_ n2_ n3_ n4_ n5_ n6_ n7_ n8_ n9_;clear hb hbox hg)|((with_reducible refine gate_dst (N:=9) rfl ?_);refine box_event ?hg (N:=9) ?hd (cs:=#[.int .i64 a4_0,.int .i64 a4_1]) (t:=37) ?hr ?_;(case hd => rfl);(case hg => rfl);(case hr => first|(go_simp;done)|(go_simp;rfl));intro gb337 hg w40 hbox hb;have n0_:=am (bw (by exact BK334.out) hb);have n1_:=am (bw (by exact BK335.out) hb);have n2_:=am (bw (by exact BK336.out) hb);have n3_:=am (ss (by repeat (first|(with_reducible first|exact HB.out|apply sa|apply sn|apply sd|refine sy ?_ (by assumption))|exact HB.out)) hb);have n4_:=am (hbox);have n5_:=am ((by rw [hg];exact (sz (by repeat (first|(with_reducible first|exact HB.out|apply sa|apply sn|apply sd|refine sy ?_ (by assumption))|exact HB.out))) : w.heap.size ≤ gb337));have n6_:=n5_;have n7_:=nb (by exact BK334.out) hg;have n8_:=am (Ne.symm n7_.out);have n9_:=nb (by exact BK335.out) hg;have n10_:=am (Ne.symm n9_.out);have n11_:=nb (by exact BK336.out) hg;have n12_:=ng (by exact BK336.out) hg;clear BK334;clear BK335;clear BK336;clear HB;have BK334:=n0_;have BK335:=n1_;have BK336:=n2_;have HB:=n3_;have BK337:=n4_;have GW337:=n5_;have GE337:=n6_;have NB334_337:=n7_;have NB337_334:=n8_;have NB335_337:=n9_;have NB337_335:=n10_;have NB336_337:=n11_;have NB337_336:=n12_;clear n0_ n1_ n2_ n3_ n4_ n5_ n6_ n7_ n8_ n9_ n10_ n11_ n12_;clear hb hbox hg)|((with_reducible refine gate_dst (N:=10) rfl ?_);refine box_event ?hg (N:=10) ?hd (cs:=#[.int .i64 0,.int .i64 0,.int .i64 0,.int .i64 0]) (t:=23) ?hr ?_;(case hd => rfl);(case hg => rfl);(case hr => first|(go_simp;done)|(go_simp;rfl));intro gb338 hg w41 hbox hb;have n0_:=am (bw (by exact BK334.out) hb);have n1_:=am (bw (by exact BK335.out) hb);have n2_:=am (bw (by exact BK336.out) hb);have n3_:=am (bw (by exact BK337.out) hb);have n4_:=am (ss (by repeat (first|(with_reducible first|exact HB.out|apply sa|apply sn|apply sd|refine sy ?_ (by assumption))|exact HB.out)) hb);have n5_:=am (hbox);have n6_:=am ((by rw [hg];exact (sz (by repeat (first|(with_reducible first|exact HB.out|apply sa|apply sn|apply sd|refine sy ?_ (by assumption))|exact HB.out))) : w.heap.size ≤ gb338));have n7_:=n6_;have n8_:=nb (by exact BK334.out) hg;have n9_:=am (Ne.symm n8_.out);have n10_:=nb (by exact BK335.out) hg;have n11_:=am (Ne.symm n10_.out);have n12_:=nb (by exact BK336.out) hg;have n13_:=am (Ne.symm n12_.out);have n14_:=nb (by exact BK337.out) hg;have n15_:=ng (by exact BK337.out) hg;clear BK334;clear BK335;clear BK336;clear BK337;clear HB;have BK334:=n0_;have BK335:=n1_;have BK336:=n2_;have BK337:=n3_;have HB:=n4_;have BK338:=n5_;have GW338:=n6_;have GE338:=n7_;have NB334_338:=n8_;have NB338_334:=n9_;have NB335_338:=n10_;have NB338_335:=n11_;have NB336_338:=n12_;have NB338_336:=n13_;have NB337_338:=n14_;have NB338_337:=n15_;clear n0_ n1_ n2_ n3_ n4_ n5_ n6_ n7_ n8_ n9_ n10_ n11_ n12_ n13_ n14_ n15_;clear hb hbox hg;have hnb42:=NB334_335.out;have hnc42:=NB335_334.out;have hnb43:=NB334_336.out;have hnc43:=NB336_334.out;have hnb44:=NB334_337.out;have hnc44:=NB337_334.out;have hnb45:=NB334_338.out;have hnc45:=NB338_334.out;obtain ⟨hcz46_0,hcz46_1,hcz46_2,hcz46_3,hcz46_4,hcz46_5,hcz46_6,hcz46_7,hcz46_8,hcz46_9,hcz46_10,hcz46_11,hcz46_12,hcz46_13⟩:=cq14 BK334.out;obtain ⟨hfz46_0,hfz46_1,hfz46_2,hfz46_3,hfz46_4,hfz46_5,hfz46_6,hfz46_7,hfz46_8,hfz46_9,hfz46_10,hfz46_11,hfz46_12,hfz46_13⟩:=fq14 BK334.out)|((with_reducible refine gate_callee (f:=28) rfl ?_);refine goesL_ (some 18) rfl rfl Try.func28 (by kernel_rfl) rfl #[.agg #[.int .i64 a0_0,.int .i64 a0_1,.int .i64 a0_2,.int .i64 a0_3,.int .i64 a0_4,.int .i64 a0_5,.int .i64 a0_6,.int .i64 a0_7,.int .i64 a0_8,.int .i64 a0_9,.int .i64 a0_10,.int .i64 a0_11,.slice A0_12 l0_12.length c0_12,.int .i64 a0_13]] rfl (by (try simp only [List.map_toArray,List.map_cons,List.map_nil]);first|done|rfl|(simp only [List.length_drop,List.length_take];rfl)) ?_;(with_reducible refine (style_RightFill.calls k a0_0 a0_1 a0_2 a0_3 a0_4 a0_5 a0_6 a0_7 a0_8 a0_9 a0_10 a0_11 _ _ l0_12 a0_13 true _ ?side1 ?side2 A6.out).mono ?_);(case side1 => repeat (first|exact (Kd.C_below HR0_12.out HB.out)|(with_reducible refine Kd.C_alloc ?_ _)|(with_reducible refine Kd.C_drewN ?_ _)|(with_reducible refine Kd.C_drew ?_)));(case side2 => exact HC0_12.out);rintro e w47 ⟨rfl,hb⟩;refine ⟨_,rfl,?_⟩;have n0_:=am (bw (by exact BK334.out) hb);have n1_:=am (bw (by exact BK335.out) hb);have n2_:=am (bw (by exact BK336.out) hb);have n3_:=am (bw (by exact BK337.out) hb);have n4_:=am (bw (by exact BK338.out) hb);have n5_:=am (ss (by repeat (first|(with_reducible first|exact HB.out|apply sa|apply sn|apply sd|refine sy ?_ (by assumption))|exact HB.out)) hb);clear BK334;clear BK335;clear BK336;clear BK337;clear BK338;clear HB;have BK334:=n0_;have BK335:=n1_;have BK336:=n2_;have BK337:=n3_;have BK338:=n4_;have HB:=n5_;clear n0_ n1_ n2_ n3_ n4_ n5_;(try clear hb);(try clear hb2);(try clear hk);(try clear hi);obtain ⟨hcz48_0,hcz48_1,hcz48_2,hcz48_3,hcz48_4,hcz48_5,hcz48_6,hcz48_7,hcz48_8,hcz48_9,hcz48_10,hcz48_11,hcz48_12,hcz48_13⟩:=cq14 BK334.out;obtain ⟨hfz48_0,hfz48_1,hfz48_2,hfz48_3,hfz48_4,hfz48_5,hfz48_6,hfz48_7,hfz48_8,hfz48_9,hfz48_10,hfz48_11,hfz48_12,hfz48_13⟩:=fq14 BK334.out;have hnb49:=NB335_336.out;have hnc49:=NB336_335.out;have hnb50:=NB335_337.out;have hnc50:=NB337_335.out;have hnb51:=NB335_338.out;have hnc51:=NB338_335.out;obtain ⟨hcz52_0,hcz52_1,hcz52_2,hcz52_3,hcz52_4,hcz52_5⟩:=cq6 BK335.out;obtain ⟨hfz52_0,hfz52_1,hfz52_2,hfz52_3,hfz52_4,hfz52_5⟩:=fq6 BK335.out)|((with_reducible refine gate_callee (f:=30) rfl ?_);refine goesL_ (some 33) rfl rfl Try.func30 (by kernel_rfl) rfl #[.agg #[.int .i64 a1_0,.int .i64 a1_1,.int .i64 a1_2,.int .i64 a1_3,.int .i64 a1_4,.int .i64 a1_5],.agg #[.int .i64 a0_5,.int .i64 a0_6,.int .i64 a0_7,.int .i64 a0_8,.int .i64 a0_9,.int .i64 a0_10]] rfl (by (try simp only [List.map_toArray,List.map_cons,List.map_nil]);first|done|rfl|(simp only [List.length_drop,List.length_take];rfl)) ?_;(with_reducible refine (affine_Compose.calls k a1_0 a1_1 a1_2 a1_3 a1_4 a1_5 a0_5 a0_6 a0_7 a0_8 a0_9 a0_10 t348 t349 t350 t351 t352 t353 t354 _ A32.out).mono ?_);rintro e w53 ⟨rfl,hb⟩;refine ⟨_,rfl,?_⟩;have n0_:=am (bw (by exact BK334.out) hb);have n1_:=am (bw (by exact BK335.out) hb);have n2_:=am (bw (by exact BK336.out) hb);have n3_:=am (bw (by exact BK337.out) hb);have n4_:=am (bw (by exact BK338.out) hb);have n5_:=am (ss (by repeat (first|(with_reducible first|exact HB.out|apply sa|apply sn|apply sd|refine sy ?_ (by assumption))|exact HB.out)) hb);clear BK334;clear BK335;clear BK336;clear BK337;clear BK338;clear HB;have BK334:=n0_;have BK335:=n1_;have BK336:=n2_;have BK337:=n3_;have BK338:=n4_;have HB:=n5_;clear n0_ n1_ n2_ n3_ n4_ n5_;(try clear hb);(try clear hb2);(try clear hk);(try clear hi))|((with_reducible refine gate_dst (N:=11) rfl ?_);refine box_event ?hg (N:=11) ?hd (cs:=#[.int .i64 0,.int .i64 0,.int .i64 0,.int .i64 0,.int .i64 0,.int .i64 0]) (t:=28) ?hr ?_;(case hd => rfl);(case hg => rfl);(case hr => first|(go_simp;done)|(go_simp;rfl));intro gb355 hg w54 hbox hb;have n0_:=am (bw (by exact BK334.out) hb);have n1_:=am (bw (by exact BK335.out) hb);have n2_:=am (bw (by exact BK336.out) hb);have n3_:=am (bw (by exact BK337.out) hb);have n4_:=am (bw (by exact BK338.out) hb);have n5_:=am (ss (by repeat (first|(with_reducible first|exact HB.out|apply sa|apply sn|apply sd|refine sy ?_ (by assumption))|exact HB.out)) hb);have n6_:=am (hbox);have n7_:=am ((by rw [hg];exact (sz (by repeat (first|(with_reducible first|exact HB.out|apply sa|apply sn|apply sd|refine sy ?_ (by assumption))|exact HB.out))) : w.heap.size ≤ gb355));have n8_:=n7_;have n9_:=nb (by exact BK334.out) hg;have n10_:=am (Ne.symm n9_.out);have n11_:=nb (by exact BK335.out) hg;have n12_:=am (Ne.symm n11_.out);have n13_:=nb (by exact BK336.out) hg;have n14_:=am (Ne.symm n13_.out);have n15_:=nb (by exact BK337.out) hg;have n16_:=am (Ne.symm n15_.out);have n17_:=nb (by exact BK338.out) hg;have n18_:=ng (by exact BK338.out) hg;clear BK334;clear BK335;clear BK336;clear BK337;clear BK338;clear HB;have BK334:=n0_;have BK335:=n1_;have BK336:=n2_;have BK337:=n3_;have BK338:=n4_;have HB:=n5_;have BK355:=n6_;have GW355:=n7_;have GE355:=n8_;have NB334_355:=n9_;have NB355_334:=n10_;have NB335_355:=n11_;have NB355_335:=n12_;have NB336_355:=n13_;have NB355_336:=n14_;have NB337_355:=n15_;have NB355_337:=n16_;have NB338_355:=n17_;have NB355_338:=n18_;clear n0_ n1_ n2_ n3_ n4_ n5_ n6_ n7_ n8_ n9_ n10_ n11_ n12_ n13_ n14_ n15_ n16_ n17_ n18_;clear hb hbox hg;have hnb55:=NB355_334.out;have hnc55:=NB334_355.out;have hnb56:=NB355_335.out;have hnc56:=NB335_355.out;have hnb57:=NB355_336.out;have hnc57:=NB336_355.out;have hnb58:=NB355_337.out;have hnc58:=NB337_355.out;have hnb59:=NB355_338.out;have hnc59:=NB338_355.out;obtain ⟨hcz60_0,hcz60_1,hcz60_2,hcz60_3,hcz60_4,hcz60_5⟩:=cq6 BK355.out;obtain ⟨hfz60_0,hfz60_1,hfz60_2,hfz60_3,hfz60_4,hfz60_5⟩:=fq6 BK355.out;have hnb61:=NB337_336.out;have hnc61:=NB336_337.out;have hnb62:=NB337_338.out;have hnc62:=NB338_337.out;obtain ⟨hcz63_0,hcz63_1⟩:=cq2 BK337.out;obtain ⟨hfz63_0,hfz63_1⟩:=fq2 BK337.out)|((with_reducible refine gate_callee (f:=31) rfl ?_);refine goesL_ (some 42) rfl rfl Try.func31 (by kernel_rfl) rfl #[.agg #[.int .i64 t348,.int .i64 t349,.int .i64 t350,.int .i64 t351,.int .i64 t352,.int .i64 t353],.agg #[.int .i64 a4_0,.int .i64 a4_1]] rfl (by (try simp only [List.map_toArray,List.map_cons,List.map_nil]);first|done|rfl|(simp only [List.length_drop,List.length_take];rfl)) ?_;(with_reducible refine (affine_Back.calls k t348 t349 t350 t351 t352 t353 a4_0 a4_1 t356 t357 true _ A34.out).mono ?_);rintro e w64 ⟨rfl,hb⟩;refine ⟨_,rfl,?_⟩;have n0_:=am (wz BK334.out (by (with_reducible repeat (first|refine bn ?_ _|refine bd ?_|refine ba ?_ _|refine bf ?_ NB334_355.out _));exact BK334.out) hb);have n1_:=am (wz BK335.out (by (with_reducible repeat (first|refine bn ?_ _|refine bd ?_|refine ba ?_ _|refine bf ?_ NB335_355.out _));exact BK335.out) hb);have n2_:=am (wz BK336.out (by (with_reducible repeat (first|refine bn ?_ _|refine bd ?_|refine ba ?_ _|refine bf ?_ NB336_355.out _));exact BK336.out) hb);have n3_:=am (wz BK337.out (by (with_reducible repeat (first|refine bn ?_ _|refine bd ?_|refine ba ?_ _|refine bf ?_ NB337_355.out _));exact BK337.out) hb);have n4_:=am (wz BK338.out (by (with_reducible repeat (first|refine bn ?_ _|refine bd ?_|refine ba ?_ _|refine bf ?_ NB338_355.out _));exact BK338.out) hb);have n5_:=am (bw (g:=gb355) (o:=.cells #[.int .i64 t348,.int .i64 t349,.int .i64 t350,.int .i64 t351,.int .i64 t352,.int .i64 t353] 28 (0,0)) (bp (bp (bp (bp (bp (bp BK355.out 0 _ rfl) 1 _ rfl) 2 _ rfl) 3 _ rfl) 4 _ rfl) 5 _ rfl) hb);have n6_:=am (ss (by repeat (first|(with_reducible first|exact HB.out|apply sa|apply sn|apply sd|refine sy ?_ (by assumption))|exact HB.out)) hb);clear BK334;clear BK335;clear BK336;clear BK337;clear BK338;clear BK355;clear HB;have BK334:=n0_;have BK335:=n1_;have BK336:=n2_;have BK337:=n3_;have BK338:=n4_;have BK355:=n5_;have HB:=n6_;clear n0_ n1_ n2_ n3_ n4_ n5_ n6_;(try clear hb);(try clear hb2);(try clear hk);(try clear hi))|((with_reducible refine gate_dst (N:=13) rfl ?_);refine box_event ?hg (N:=13) ?hd (cs:=#[.int .i64 0,.int .i64 0]) (t:=37) ?hr ?_;(case hd => rfl);(case hg => rfl);(case hr => first|(go_simp;done)|(go_simp;rfl));intro gb359 hg w65 hbox hb;have n0_:=am (bw (by exact BK334.out) hb);have n1_:=am (bw (by exact BK335.out) hb);have n2_:=am (bw (by exact BK336.out) hb);have n3_:=am (bw (by exact BK337.out) hb);have n4_:=am (bw (by exact BK338.out) hb);have n5_:=am (bw (by exact BK355.out) hb);have n6_:=am (ss (by repeat (first|(with_reducible first|exact HB.out|apply sa|apply sn|apply sd|refine sy ?_ (by assumption))|exact HB.out)) hb);have n7_:=am (hbox);have n8_:=am ((by rw [hg];exact (sz (by repeat (first|(with_reducible first|exact HB.out|apply sa|apply sn|apply sd|refine sy ?_ (by assumption))|exact HB.out))) : w.heap.size ≤ gb359));have n9_:=n8_;have n10_:=nb (by exact BK334.out) hg;have n11_:=am (Ne.symm n10_.out);have n12_:=nb (by exact BK335.out) hg;have n13_:=am (Ne.symm n12_.out);have n14_:=nb (by exact BK336.out) hg;have n15_:=am (Ne.symm n14_.out);have n16_:=nb (by exact BK337.out) hg;have n17_:=am (Ne.symm n16_.out);have n18_:=nb (by exact BK338.out) hg;have n19_:=am (Ne.symm n18_.out);have n20_:=nb (by exact BK355.out) hg;have n21_:=ng (by exact BK355.out) hg;clear BK334;clear BK335;clear BK336;clear BK337;clear BK338;clear BK355;clear HB;have BK334:=n0_;have BK335:=n1_;have BK336:=n2_;have BK337:=n3_;have BK338:=n4_;have BK355:=n5_;have HB:=n6_;have BK359:=n7_;have GW359:=n8_;have GE359:=n9_;have NB334_359:=n10_;have NB359_334:=n11_;have NB335_359:=n12_;have NB359_335:=n13_;have NB336_359:=n14_;have NB359_336:=n15_;have NB337_359:=n16_;have NB359_337:=n17_;have NB338_359:=n18_;have NB359_338:=n19_;have NB355_359:=n20_;have NB359_355:=n21_;clear n0_ n1_ n2_ n3_ n4_ n5_ n6_ n7_ n8_ n9_ n10_ n11_ n12_ n13_ n14_ n15_ n16_ n17_ n18_ n19_ n20_ n21_;clear hb hbox hg;have hnb66:=NB359_334.out;have hnc66:=NB334_359.out;have hnb67:=NB359_335.out;have hnc67:=NB335_359.out;have hnb68:=NB359_336.out;have hnc68:=NB336_359.out;have hnb69:=NB359_337.out;have hnc69:=NB337_359.out;have hnb70:=NB359_338.out;have hnc70:=NB338_359.out;have hnb71:=NB359_355.out;have hnc71:=NB355_359.out;obtain ⟨hcz72_0,hcz72_1⟩:=cq2 BK359.out;obtain ⟨hfz72_0,hfz72_1⟩:=fq2 BK359.out))
          (try simp only [Act.put,q1,q2,q3])
          go_cut [49] (fun v49 wc => ∃ (kq : Nat) (x49_35 : Bool),v49 = .bool x49_35 ∧ Aside0 (paint_At.j0 kq l3 x49_35 a0_0 a0_1 a0_2 a0_3 a0_4 a0_5 a0_6 a0_7 a0_8 a0_9 a0_10 a0_11 l0_12 a0_13 a2_0 a2_1 a2_2 a2_3 a2_4 a2_5 a2_6 a2_7 t356 t357 = some (r1,r2,r3,r4)) ∧ Aside0 (kq ≤ k) ∧ Aside0 (wc.heap[gb334]? = some (.cells #[.int .i64 a0_0,.int .i64 a0_1,.int .i64 a0_2,.int .i64 a0_3,.int .i64 a0_4,.int .i64 a0_5,.int .i64 a0_6,.int .i64 a0_7,.int .i64 a0_8,.int .i64 a0_9,.int .i64 a0_10,.int .i64 a0_11,(.slice A0_12 l0_12.length c0_12),.int .i64 a0_13] 31 (0,0))) ∧ Aside0 (wc.heap[gb335]? = some (.cells #[.int .i64 a1_0,.int .i64 a1_1,.int .i64 a1_2,.int .i64 a1_3,.int .i64 a1_4,.int .i64 a1_5] 28 (0,0))) ∧ Aside0 (wc.heap[gb336]? = some (.cells #[.int .i64 a2_0,.int .i64 a2_1,.int .i64 a2_2,.int .i64 a2_3,.int .i64 a2_4,.int .i64 a2_5,.int .i64 a2_6,.int .i64 a2_7] 34 (0,0))) ∧ Aside0 (wc.heap[gb337]? = some (.cells #[.int .i64 a4_0,.int .i64 a4_1] 37 (0,0))) ∧ Aside0 (wc.heap[gb338]? = some (.cells #[.int .i64 0,.int .i64 0,.int .i64 0,.int .i64 0] 23 (0,0))) ∧ Aside0 (wc.heap[gb355]? = some (.cells #[.int .i64 t348,.int .i64 t349,.int .i64 t350,.int .i64 t351,.int .i64 t352,.int .i64 t353] 28 (0,0))) ∧ Aside0 (wc.heap[gb359]? = some (.cells #[.int .i64 t356,.int .i64 t357] 37 (0,0))) ∧ Aside0 (Below w.heap.size w wc))
          case first =>
            have H:=HC36.out;clear HC36
            by_cases c73 : a0_0 = 16
            · rw [if_pos c73] at H
              have c73b0 : (a0_0 == 16) = true:=beq_iff_eq.mpr c73;have c73b1 : (a0_0 != 16) = false:=bne_eq_false_iff_eq.mpr c73;clear c73
              (first|rw [c73b0]|(simp only [i64_w,i32_w];rw [c73b0])|skip)
              have H':=am H;clear H;have hnb74:=NB334_335.out;have hnc74:=NB335_334.out;have hnb75:=NB334_336.out;have hnc75:=NB336_334.out;have hnb76:=NB334_337.out;have hnc76:=NB337_334.out;have hnb77:=NB334_338.out;have hnc77:=NB338_334.out;have hnb78:=NB334_355.out;have hnc78:=NB355_334.out;have hnb79:=NB334_359.out;have hnc79:=NB359_334.out;obtain ⟨hcz80_0,hcz80_1,hcz80_2,hcz80_3,hcz80_4,hcz80_5,hcz80_6,hcz80_7,hcz80_8,hcz80_9,hcz80_10,hcz80_11,hcz80_12,hcz80_13⟩:=cq14 BK334.out;obtain ⟨hfz80_0,hfz80_1,hfz80_2,hfz80_3,hfz80_4,hfz80_5,hfz80_6,hfz80_7,hfz80_8,hfz80_9,hfz80_10,hfz80_11,hfz80_12,hfz80_13⟩:=fq14 BK334.out
              go_wp2
              go_meet
              case rel => exact ⟨_,(true),(by first|rfl|(simp;done)|(simp [*];done)),H',⟨by first|omega|exact Nat.le_refl _⟩,⟨by (with_reducible repeat (first|refine bn ?_ _|refine bd ?_|refine ba ?_ _|refine bf ?_ NB334_359.out _));exact BK334.out⟩,⟨by (with_reducible repeat (first|refine bn ?_ _|refine bd ?_|refine ba ?_ _|refine bf ?_ NB335_359.out _));exact BK335.out⟩,⟨by (with_reducible repeat (first|refine bn ?_ _|refine bd ?_|refine ba ?_ _|refine bf ?_ NB336_359.out _));exact BK336.out⟩,⟨by (with_reducible repeat (first|refine bn ?_ _|refine bd ?_|refine ba ?_ _|refine bf ?_ NB337_359.out _));exact BK337.out⟩,⟨by (with_reducible repeat (first|refine bn ?_ _|refine bd ?_|refine ba ?_ _|refine bf ?_ NB338_359.out _));exact BK338.out⟩,⟨by (with_reducible repeat (first|refine bn ?_ _|refine bd ?_|refine ba ?_ _|refine bf ?_ NB355_359.out _));exact BK355.out⟩,⟨(bp (bp BK359.out 0 _ rfl) 1 _ rfl)⟩,⟨by repeat (first|(with_reducible first|exact HB.out|apply sa|apply sn|apply sd|refine sy ?_ (by assumption))|exact HB.out)⟩⟩
            · rw [if_neg c73] at H
              have c73b0 : (a0_0 == 16) = false:=beq_eq_false_iff_ne.mpr c73;have c73b1 : (a0_0 != 16) = true:=bne_iff_ne.mpr c73
              (first|rw [c73b0]|(simp only [i64_w,i32_w];rw [c73b0])|skip)
              have H':=am H;clear H;have hnb81:=NB334_335.out;have hnc81:=NB335_334.out;have hnb82:=NB334_336.out;have hnc82:=NB336_334.out;have hnb83:=NB334_337.out;have hnc83:=NB337_334.out;have hnb84:=NB334_338.out;have hnc84:=NB338_334.out;have hnb85:=NB334_355.out;have hnc85:=NB355_334.out;have hnb86:=NB334_359.out;have hnc86:=NB359_334.out;obtain ⟨hcz87_0,hcz87_1,hcz87_2,hcz87_3,hcz87_4,hcz87_5,hcz87_6,hcz87_7,hcz87_8,hcz87_9,hcz87_10,hcz87_11,hcz87_12,hcz87_13⟩:=cq14 BK334.out;obtain ⟨hfz87_0,hfz87_1,hfz87_2,hfz87_3,hfz87_4,hfz87_5,hfz87_6,hfz87_7,hfz87_8,hfz87_9,hfz87_10,hfz87_11,hfz87_12,hfz87_13⟩:=fq14 BK334.out
              go_wp2
              go_meet
              case rel => exact ⟨_,((a0_0 == 18)),(by first|rfl|(simp;done)|(simp [*];done)),H',⟨by first|omega|exact Nat.le_refl _⟩,⟨by (with_reducible repeat (first|refine bn ?_ _|refine bd ?_|refine ba ?_ _|refine bf ?_ NB334_359.out _));exact BK334.out⟩,⟨by (with_reducible repeat (first|refine bn ?_ _|refine bd ?_|refine ba ?_ _|refine bf ?_ NB335_359.out _));exact BK335.out⟩,⟨by (with_reducible repeat (first|refine bn ?_ _|refine bd ?_|refine ba ?_ _|refine bf ?_ NB336_359.out _));exact BK336.out⟩,⟨by (with_reducible repeat (first|refine bn ?_ _|refine bd ?_|refine ba ?_ _|refine bf ?_ NB337_359.out _));exact BK337.out⟩,⟨by (with_reducible repeat (first|refine bn ?_ _|refine bd ?_|refine ba ?_ _|refine bf ?_ NB338_359.out _));exact BK338.out⟩,⟨by (with_reducible repeat (first|refine bn ?_ _|refine bd ?_|refine ba ?_ _|refine bf ?_ NB355_359.out _));exact BK355.out⟩,⟨(bp (bp BK359.out 0 _ rfl) 1 _ rfl)⟩,⟨by repeat (first|(with_reducible first|exact HB.out|apply sa|apply sn|apply sd|refine sy ?_ (by assumption))|exact HB.out)⟩⟩
          case rest =>
            clear HC36
            try clear c1
            try clear c2
            try clear p2
            try clear c3
            try clear c4
            try clear c5
            try clear c6
            try clear c7
            try clear c8
            try clear c8b0
            try clear c8b1
            try clear c9
            try clear c16
            try clear c17
            try clear c18
            try clear c19
            try clear c20
            try clear c23
            try clear c24
            try clear c25
            try clear c28
            try clear c29
            try clear c30
            try clear c31
            try clear c33
            try clear c33b0
            try clear c33b1
            try clear c35
            try clear c42
            try clear c43
            try clear c44
            try clear c45
            try clear c49
            try clear c50
            try clear c51
            try clear c55
            try clear c56
            try clear c57
            try clear c58
            try clear c59
            try clear c61
            try clear c62
            try clear c66
            try clear c67
            try clear c68
            try clear c69
            try clear c70
            try clear c71
            try clear c73
            try clear c73b0
            try clear c73b1
            try clear c74
            try clear c75
            try clear c76
            try clear c77
            try clear c78
            try clear c79
            try clear c81
            try clear c82
            try clear c83
            try clear c84
            try clear c85
            try clear c86
            try clear hcz20_0
            try clear hcz20_1
            try clear hcz20_10
            try clear hcz20_11
            try clear hcz20_12
            try clear hcz20_13
            try clear hcz20_2
            try clear hcz20_3
            try clear hcz20_4
            try clear hcz20_5
            try clear hcz20_6
            try clear hcz20_7
            try clear hcz20_8
            try clear hcz20_9
            try clear hcz22_0
            try clear hcz22_1
            try clear hcz22_10
            try clear hcz22_11
            try clear hcz22_12
            try clear hcz22_13
            try clear hcz22_2
            try clear hcz22_3
            try clear hcz22_4
            try clear hcz22_5
            try clear hcz22_6
            try clear hcz22_7
            try clear hcz22_8
            try clear hcz22_9
            try clear hcz26_0
            try clear hcz26_1
            try clear hcz26_2
            try clear hcz26_3
            try clear hcz26_4
            try clear hcz26_5
            try clear hcz26_6
            try clear hcz26_7
            try clear hcz31_0
            try clear hcz31_1
            try clear hcz31_2
            try clear hcz31_3
            try clear hcz46_0
            try clear hcz46_1
            try clear hcz46_10
            try clear hcz46_11
            try clear hcz46_12
            try clear hcz46_13
            try clear hcz46_2
            try clear hcz46_3
            try clear hcz46_4
            try clear hcz46_5
            try clear hcz46_6
            try clear hcz46_7
            try clear hcz46_8
            try clear hcz46_9
            try clear hcz48_0
            try clear hcz48_1
            try clear hcz48_10
            try clear hcz48_11
            try clear hcz48_12
            try clear hcz48_13
            try clear hcz48_2
            try clear hcz48_3
            try clear hcz48_4
            try clear hcz48_5
            try clear hcz48_6
            try clear hcz48_7
            try clear hcz48_8
            try clear hcz48_9
            try clear hcz52_0
            try clear hcz52_1
            try clear hcz52_2
            try clear hcz52_3
            try clear hcz52_4
            try clear hcz52_5
            try clear hcz60_0
            try clear hcz60_1
            try clear hcz60_2
            try clear hcz60_3
            try clear hcz60_4
            try clear hcz60_5
            try clear hcz63_0
            try clear hcz63_1
            try clear hcz72_0
            try clear hcz72_1
            try clear hcz80_0
            try clear hcz80_1
            try clear hcz80_10
            try clear hcz80_11
            try clear hcz80_12
            try clear hcz80_13
            try clear hcz80_2
            try clear hcz80_3
            try clear hcz80_4
            try clear hcz80_5
            try clear hcz80_6
            try clear hcz80_7
            try clear hcz80_8
            try clear hcz80_9
            try clear hcz87_0
            try clear hcz87_1
            try clear hcz87_10
            try clear hcz87_11
            try clear hcz87_12
            try clear hcz87_13
            try clear hcz87_2
            try clear hcz87_3
            try clear hcz87_4
            try clear hcz87_5
            try clear hcz87_6
            try clear hcz87_7
            try clear hcz87_8
            try clear hcz87_9
            try clear hfz20_0
            try clear hfz20_1
            try clear hfz20_10
            try clear hfz20_11
            try clear hfz20_12
            try clear hfz20_13
            try clear hfz20_2
            try clear hfz20_3
            try clear hfz20_4
            try clear hfz20_5
            try clear hfz20_6
            try clear hfz20_7
            try clear hfz20_8
            try clear hfz20_9
            try clear hfz22_0
            try clear hfz22_1
            try clear hfz22_10
            try clear hfz22_11
            try clear hfz22_12
            try clear hfz22_13
            try clear hfz22_2
            try clear hfz22_3
            try clear hfz22_4
            try clear hfz22_5
            try clear hfz22_6
            try clear hfz22_7
            try clear hfz22_8
            try clear hfz22_9
            try clear hfz26_0
            try clear hfz26_1
            try clear hfz26_2
            try clear hfz26_3
            try clear hfz26_4
            try clear hfz26_5
            try clear hfz26_6
            try clear hfz26_7
            try clear hfz31_0
            try clear hfz31_1
            try clear hfz31_2
            try clear hfz31_3
            try clear hfz46_0
            try clear hfz46_1
            try clear hfz46_10
            try clear hfz46_11
            try clear hfz46_12
            try clear hfz46_13
            try clear hfz46_2
            try clear hfz46_3
            try clear hfz46_4
            try clear hfz46_5
            try clear hfz46_6
            try clear hfz46_7
            try clear hfz46_8
            try clear hfz46_9
            try clear hfz48_0
            try clear hfz48_1
            try clear hfz48_10
            try clear hfz48_11
            try clear hfz48_12
            try clear hfz48_13
            try clear hfz48_2
            try clear hfz48_3
            try clear hfz48_4
            try clear hfz48_5
            try clear hfz48_6
            try clear hfz48_7
            try clear hfz48_8
            try clear hfz48_9
            try clear hfz52_0
            try clear hfz52_1
            try clear hfz52_2
            try clear hfz52_3
            try clear hfz52_4
            try clear hfz52_5
            try clear hfz60_0
            try clear hfz60_1
            try clear hfz60_2
            try clear hfz60_3
            try clear hfz60_4
            try clear hfz60_5
            try clear hfz63_0
            try clear hfz63_1
            try clear hfz72_0
            try clear hfz72_1
            try clear hfz80_0
            try clear hfz80_1
            try clear hfz80_10
            try clear hfz80_11
            try clear hfz80_12
            try clear hfz80_13
            try clear hfz80_2
            try clear hfz80_3
            try clear hfz80_4
            try clear hfz80_5
            try clear hfz80_6
            try clear hfz80_7
            try clear hfz80_8
            try clear hfz80_9
            try clear hfz87_0
            try clear hfz87_1
            try clear hfz87_10
            try clear hfz87_11
            try clear hfz87_12
            try clear hfz87_13
            try clear hfz87_2
            try clear hfz87_3
            try clear hfz87_4
            try clear hfz87_5
            try clear hfz87_6
            try clear hfz87_7
            try clear hfz87_8
            try clear hfz87_9
            obtain ⟨kq,x49_35,rfl,HA,HJ35,BK334,BK335,BK336,BK337,BK338,BK355,BK359,HB⟩:=hcut
            cases kq with
            | zero => exact absurd HA.out (by simp [paint_At.j0])
            | succ kj35 =>
              have H:=HA.out;clear HA;simp only [paint_At.j0] at H
              by_cases c88 : x49_35 = true
              · subst c88
                have H1 : ((ramp_At.f kj35 a0_0 a0_1 a0_2 a0_3 a0_4 a0_5 a0_6 a0_7 a0_8 a0_9 a0_10 a0_11 l0_12 a0_13 t356 t357).bind fun bt360 => ((affine_Color.f kj35 a2_0 a2_1 a2_2 a2_3 a2_4 a2_5 a2_6 a2_7 bt360.1 bt360.2.1 bt360.2.2.1 bt360.2.2.2).bind fun bt364 => ((paint_Faint.f kj35 bt364.1 bt364.2.1 bt364.2.2.1 bt364.2.2.2).bind fun bt368 => (some (bt368.1,bt368.2.1,bt368.2.2.1,bt368.2.2.2))))) = some (r1,r2,r3,r4):=by rw [if_pos rfl] at H;exact H
                clear H;have H:=H1;clear H1;replace H:=Option.bind_eq_some_iff.mp H;obtain ⟨⟨t360,t361,t362,t363⟩,A890,H⟩:=H;replace H : ((affine_Color.f kj35 a2_0 a2_1 a2_2 a2_3 a2_4 a2_5 a2_6 a2_7 t360 t361 t362 t363).bind fun bt364 => ((paint_Faint.f kj35 bt364.1 bt364.2.1 bt364.2.2.1 bt364.2.2.2).bind fun bt368 => (some (bt368.1,bt368.2.1,bt368.2.2.1,bt368.2.2.2)))) = some (r1,r2,r3,r4):=H;have A89:=am A890;clear A890;replace H:=Option.bind_eq_some_iff.mp H;obtain ⟨⟨t364,t365,t366,t367⟩,A900,H⟩:=H;replace H : ((paint_Faint.f kj35 t364 t365 t366 t367).bind fun bt368 => (some (bt368.1,bt368.2.1,bt368.2.2.1,bt368.2.2.2))) = some (r1,r2,r3,r4):=H;have A90:=am A900;clear A900;replace H:=Option.bind_eq_some_iff.mp H;obtain ⟨⟨t368,t369,t370,t371⟩,A910,H⟩:=H;replace H : (some (t368,t369,t370,t371)) = some (r1,r2,r3,r4):=H;have A91:=am A910;clear A910;simp only [Option.some.injEq,Prod.mk.injEq] at H;obtain ⟨rfl,rfl,rfl,rfl⟩:=H
                try go_wp2
                replace BK334:=am (bd BK334.out);replace BK335:=am (bd BK335.out);replace BK336:=am (bd BK336.out);replace BK337:=am (bd BK337.out);replace BK338:=am (bd BK338.out);replace BK355:=am (bd BK355.out);replace BK359:=am (bd BK359.out);replace HB:=am (sd HB.out);refine start_ (n:=7) (S:=fun w' => w'.cell? ⟨gb336,0,none⟩ = some (.int .i64 a2_0) ∧ w'.cell? ⟨gb336,1,none⟩ = some (.int .i64 a2_1) ∧ w'.cell? ⟨gb336,2,none⟩ = some (.int .i64 a2_2) ∧ w'.cell? ⟨gb336,3,none⟩ = some (.int .i64 a2_3) ∧ w'.cell? ⟨gb336,4,none⟩ = some (.int .i64 a2_4) ∧ w'.cell? ⟨gb336,5,none⟩ = some (.int .i64 a2_5) ∧ w'.cell? ⟨gb336,6,none⟩ = some (.int .i64 a2_6) ∧ w'.cell? ⟨gb336,7,none⟩ = some (.int .i64 a2_7) ∧ w'.cell? ⟨gb334,0,none⟩ = some (.int .i64 a0_0) ∧ w'.cell? ⟨gb334,1,none⟩ = some (.int .i64 a0_1) ∧ w'.cell? ⟨gb334,2,none⟩ = some (.int .i64 a0_2) ∧ w'.cell? ⟨gb334,3,none⟩ = some (.int .i64 a0_3) ∧ w'.cell? ⟨gb334,4,none⟩ = some (.int .i64 a0_4) ∧ w'.cell? ⟨gb334,5,none⟩ = some (.int .i64 a0_5) ∧ w'.cell? ⟨gb334,6,none⟩ = some (.int .i64 a0_6) ∧ w'.cell? ⟨gb334,7,none⟩ = some (.int .i64 a0_7) ∧ w'.cell? ⟨gb334,8,none⟩ = some (.int .i64 a0_8) ∧ w'.cell? ⟨gb334,9,none⟩ = some (.int .i64 a0_9) ∧ w'.cell? ⟨gb334,10,none⟩ = some (.int .i64 a0_10) ∧ w'.cell? ⟨gb334,11,none⟩ = some (.int .i64 a0_11) ∧ w'.cell? ⟨gb334,12,none⟩ = some (.slice A0_12 l0_12.length c0_12) ∧ w'.cell? ⟨gb334,13,none⟩ = some (.int .i64 a0_13) ∧ w'.cell? ⟨gb359,0,none⟩ = some (.int .i64 t356) ∧ w'.cell? ⟨gb359,1,none⟩ = some (.int .i64 t357)) (ds:=[]) #[false,false,false,false,false,false,false] (by kernel_rfl) rfl rfl ⟨(bc BK336.out 0).trans rfl,(bc BK336.out 1).trans rfl,(bc BK336.out 2).trans rfl,(bc BK336.out 3).trans rfl,(bc BK336.out 4).trans rfl,(bc BK336.out 5).trans rfl,(bc BK336.out 6).trans rfl,(bc BK336.out 7).trans rfl,(bc BK334.out 0).trans rfl,(bc BK334.out 1).trans rfl,(bc BK334.out 2).trans rfl,(bc BK334.out 3).trans rfl,(bc BK334.out 4).trans rfl,(bc BK334.out 5).trans rfl,(bc BK334.out 6).trans rfl,(bc BK334.out 7).trans rfl,(bc BK334.out 8).trans rfl,(bc BK334.out 9).trans rfl,(bc BK334.out 10).trans rfl,(bc BK334.out 11).trans rfl,(bc BK334.out 12).trans rfl,(bc BK334.out 13).trans rfl,(bc BK359.out 0).trans rfl,(bc BK359.out 1).trans rfl⟩ (fun hHeld => ?_);generalize wc.drew = w92 at BK334 BK335 BK336 BK337 BK338 BK355 BK359 HB hHeld ⊢;refine take_ (i:=0) (N:=some 58) (v:=?_) (a':=?_) #[true,false,false,false,false,false,false] rfl rfl (by kernel_rfl) (fun _ _ _ h => h) (Or.inl ⟨by rfl,?_⟩) hHeld ?_ ?_
                rotate_left
                · rintro w' ⟨s0,s1,s2,s3,s4,s5,s6,s7,s8,s9,s10,s11,s12,s13,s14,s15,s16,s17,s18,s19,s20,s21,s22,s23⟩
                  go_simp
                  with_reducible rfl
                rotate_left
                · simp only [Act.put,q1,q2,q3,i64_w,i32_w]
                  rfl
                refine take_ (i:=1) (N:=some 59) (v:=?_) (a':=?_) #[true,true,false,false,false,false,false] rfl rfl (by kernel_rfl) (fun _ _ _ h => h) (Or.inl ⟨by rfl,?_⟩) hHeld ?_ ?_
                rotate_left
                · rintro w' ⟨s0,s1,s2,s3,s4,s5,s6,s7,s8,s9,s10,s11,s12,s13,s14,s15,s16,s17,s18,s19,s20,s21,s22,s23⟩
                  go_simp
                  with_reducible rfl
                rotate_left
                · simp only [Act.put,q1,q2,q3,i64_w,i32_w]
                  rfl
                refine take_ (i:=2) (N:=some 60) (v:=?_) (a':=?_) #[true,true,true,false,false,false,false] rfl rfl (by kernel_rfl) (fun _ _ _ h => h) (Or.inl ⟨by rfl,?_⟩) hHeld ?_ ?_
                rotate_left
                · rintro w' ⟨s0,s1,s2,s3,s4,s5,s6,s7,s8,s9,s10,s11,s12,s13,s14,s15,s16,s17,s18,s19,s20,s21,s22,s23⟩
                  go_simp
                  with_reducible rfl
                rotate_left
                · simp only [Act.put,q1,q2,q3,i64_w,i32_w]
                  rfl
                refine one_ (i:=3) (N:=some 61) #[true,true,true,true,false,false,false] rfl rfl (by kernel_rfl) (by decide) (fun K hK => ?_);refine goes_ Try.func32 (by kernel_rfl) rfl #[.agg #[.int .i64 a0_0,.int .i64 a0_1,.int .i64 a0_2,.int .i64 a0_3,.int .i64 a0_4,.int .i64 a0_5,.int .i64 a0_6,.int .i64 a0_7,.int .i64 a0_8,.int .i64 a0_9,.int .i64 a0_10,.int .i64 a0_11,.slice A0_12 l0_12.length c0_12,.int .i64 a0_13],.agg #[.int .i64 t356,.int .i64 t357]] (by rfl) rfl rfl (by (try simp only [List.map_toArray,List.map_cons,List.map_nil]);first|done|rfl|(simp only [List.length_drop,List.length_take];rfl)) ?_
                with_reducible refine (ramp_At.calls kj35 a0_0 a0_1 a0_2 a0_3 a0_4 a0_5 a0_6 a0_7 a0_8 a0_9 a0_10 a0_11 _ _ l0_12 a0_13 t356 t357 t360 t361 t362 t363 _ ?side1 ?side2 A89.out).mono ?_
                (case side1 => repeat (first|exact (Kd.C_below HR0_12.out HB.out)|(with_reducible refine Kd.C_alloc ?_ _)|(with_reducible refine Kd.C_drewN ?_ _)|(with_reducible refine Kd.C_drew ?_)))
                (case side2 => exact HC0_12.out)
                rintro e w93 ⟨rfl,hb⟩
                refine ⟨_,rfl,?_⟩;replace BK334:=am (bw (by exact BK334.out) hb);replace BK335:=am (bw (by exact BK335.out) hb);replace BK336:=am (bw (by exact BK336.out) hb);replace BK337:=am (bw (by exact BK337.out) hb);replace BK338:=am (bw (by exact BK338.out) hb);replace BK355:=am (bw (by exact BK355.out) hb);replace BK359:=am (bw (by exact BK359.out) hb);replace HB:=am (ss (by repeat (first|(with_reducible first|exact HB.out|apply sa|apply sn|apply sd|refine sy ?_ (by assumption))|exact HB.out)) hb);(try clear hb);(try clear hb2);(try clear hk);(try clear hi);refine hK.out _ _ ⟨(bc BK336.out 0).trans rfl,(bc BK336.out 1).trans rfl,(bc BK336.out 2).trans rfl,(bc BK336.out 3).trans rfl,(bc BK336.out 4).trans rfl,(bc BK336.out 5).trans rfl,(bc BK336.out 6).trans rfl,(bc BK336.out 7).trans rfl,(bc BK334.out 0).trans rfl,(bc BK334.out 1).trans rfl,(bc BK334.out 2).trans rfl,(bc BK334.out 3).trans rfl,(bc BK334.out 4).trans rfl,(bc BK334.out 5).trans rfl,(bc BK334.out 6).trans rfl,(bc BK334.out 7).trans rfl,(bc BK334.out 8).trans rfl,(bc BK334.out 9).trans rfl,(bc BK334.out 10).trans rfl,(bc BK334.out 11).trans rfl,(bc BK334.out 12).trans rfl,(bc BK334.out 13).trans rfl,(bc BK359.out 0).trans rfl,(bc BK359.out 1).trans rfl⟩ (fun hHeld => ?_);clear hK K;refine norm_ (a':=?_) ?_ ?_
                rotate_left
                · show Act.put _ (some 61) _ = _
                  simp only [Act.put,q1,q2,q3,i64_w,i32_w]
                  rfl
                refine one_ (i:=4) (N:=some 62) #[true,true,true,true,true,false,false] rfl rfl (by kernel_rfl) (by decide) (fun K hK => ?_);refine goes_ Try.func29 (by kernel_rfl) rfl #[.agg #[.int .i64 a2_0,.int .i64 a2_1,.int .i64 a2_2,.int .i64 a2_3,.int .i64 a2_4,.int .i64 a2_5,.int .i64 a2_6,.int .i64 a2_7],.agg #[.int .i64 t360,.int .i64 t361,.int .i64 t362,.int .i64 t363]] (by rfl) rfl rfl (by (try simp only [List.map_toArray,List.map_cons,List.map_nil]);first|done|rfl|(simp only [List.length_drop,List.length_take];rfl)) ?_
                with_reducible refine (affine_Color.calls kj35 a2_0 a2_1 a2_2 a2_3 a2_4 a2_5 a2_6 a2_7 t360 t361 t362 t363 t364 t365 t366 t367 _ A90.out).mono ?_
                rintro e w94 ⟨rfl,hb⟩
                refine ⟨_,rfl,?_⟩;replace BK334:=am (bw (by exact BK334.out) hb);replace BK335:=am (bw (by exact BK335.out) hb);replace BK336:=am (bw (by exact BK336.out) hb);replace BK337:=am (bw (by exact BK337.out) hb);replace BK338:=am (bw (by exact BK338.out) hb);replace BK355:=am (bw (by exact BK355.out) hb);replace BK359:=am (bw (by exact BK359.out) hb);replace HB:=am (ss (by repeat (first|(with_reducible first|exact HB.out|apply sa|apply sn|apply sd|refine sy ?_ (by assumption))|exact HB.out)) hb);(try clear hb);(try clear hb2);(try clear hk);(try clear hi);refine hK.out _ _ ⟨(bc BK336.out 0).trans rfl,(bc BK336.out 1).trans rfl,(bc BK336.out 2).trans rfl,(bc BK336.out 3).trans rfl,(bc BK336.out 4).trans rfl,(bc BK336.out 5).trans rfl,(bc BK336.out 6).trans rfl,(bc BK336.out 7).trans rfl,(bc BK334.out 0).trans rfl,(bc BK334.out 1).trans rfl,(bc BK334.out 2).trans rfl,(bc BK334.out 3).trans rfl,(bc BK334.out 4).trans rfl,(bc BK334.out 5).trans rfl,(bc BK334.out 6).trans rfl,(bc BK334.out 7).trans rfl,(bc BK334.out 8).trans rfl,(bc BK334.out 9).trans rfl,(bc BK334.out 10).trans rfl,(bc BK334.out 11).trans rfl,(bc BK334.out 12).trans rfl,(bc BK334.out 13).trans rfl,(bc BK359.out 0).trans rfl,(bc BK359.out 1).trans rfl⟩ (fun hHeld => ?_);clear hK K;refine norm_ (a':=?_) ?_ ?_
                rotate_left
                · show Act.put _ (some 62) _ = _
                  simp only [Act.put,q1,q2,q3,i64_w,i32_w]
                  rfl
                refine one_ (i:=5) (N:=some 63) #[true,true,true,true,true,true,false] rfl rfl (by kernel_rfl) (by decide) (fun K hK => ?_);refine goes_ Try.func9 (by kernel_rfl) rfl #[.agg #[.int .i64 t364,.int .i64 t365,.int .i64 t366,.int .i64 t367]] (by rfl) rfl rfl (by (try simp only [List.map_toArray,List.map_cons,List.map_nil]);first|done|rfl|(simp only [List.length_drop,List.length_take];rfl)) ?_
                with_reducible refine (paint_Faint.calls kj35 t364 t365 t366 t367 t368 t369 t370 t371 _ A91.out).mono ?_
                rintro e w95 ⟨rfl,hb⟩
                refine ⟨_,rfl,?_⟩;replace BK334:=am (bw (by exact BK334.out) hb);replace BK335:=am (bw (by exact BK335.out) hb);replace BK336:=am (bw (by exact BK336.out) hb);replace BK337:=am (bw (by exact BK337.out) hb);replace BK338:=am (bw (by exact BK338.out) hb);replace BK355:=am (bw (by exact BK355.out) hb);replace BK359:=am (bw (by exact BK359.out) hb);replace HB:=am (ss (by repeat (first|(with_reducible first|exact HB.out|apply sa|apply sn|apply sd|refine sy ?_ (by assumption))|exact HB.out)) hb);(try clear hb);(try clear hb2);(try clear hk);(try clear hi);refine hK.out _ _ ⟨(bc BK336.out 0).trans rfl,(bc BK336.out 1).trans rfl,(bc BK336.out 2).trans rfl,(bc BK336.out 3).trans rfl,(bc BK336.out 4).trans rfl,(bc BK336.out 5).trans rfl,(bc BK336.out 6).trans rfl,(bc BK336.out 7).trans rfl,(bc BK334.out 0).trans rfl,(bc BK334.out 1).trans rfl,(bc BK334.out 2).trans rfl,(bc BK334.out 3).trans rfl,(bc BK334.out 4).trans rfl,(bc BK334.out 5).trans rfl,(bc BK334.out 6).trans rfl,(bc BK334.out 7).trans rfl,(bc BK334.out 8).trans rfl,(bc BK334.out 9).trans rfl,(bc BK334.out 10).trans rfl,(bc BK334.out 11).trans rfl,(bc BK334.out 12).trans rfl,(bc BK334.out 13).trans rfl,(bc BK359.out 0).trans rfl,(bc BK359.out 1).trans rfl⟩ (fun hHeld => ?_);clear hK K;refine norm_ (a':=?_) ?_ ?_
                rotate_left
                · show Act.put _ (some 63) _ = _
                  simp only [Act.put,q1,q2,q3,i64_w,i32_w]
                  rfl
                refine one_ (i:=6) (N:=none) #[true,true,true,true,true,true,true] rfl rfl (by kernel_rfl) (by decide) (fun K hK => ?_);have hs96 : w95.cell? ⟨gb338,0,none⟩ = some (.int .i64 0):=(bc BK338.out 0).trans rfl;have hfs96:=bz BK338.out 0;have hns96_0:=NB334_338.out;have hns96_1:=NB335_338.out;have hns96_2:=NB336_338.out;have hns96_3:=NB337_338.out;have hns96_5:=NB355_338.out;have hns96_6:=NB359_338.out;have hms96_0:=NB338_334.out;have hms96_1:=NB338_335.out;have hms96_2:=NB338_336.out;have hms96_3:=NB338_337.out;have hms96_5:=NB338_355.out;have hms96_6:=NB338_359.out;have hs97 : w95.cell? ⟨gb338,1,none⟩ = some (.int .i64 0):=(bc BK338.out 1).trans rfl;have hfs97:=bz BK338.out 1;have hns97_0:=NB334_338.out;have hns97_1:=NB335_338.out;have hns97_2:=NB336_338.out;have hns97_3:=NB337_338.out;have hns97_5:=NB355_338.out;have hns97_6:=NB359_338.out;have hms97_0:=NB338_334.out;have hms97_1:=NB338_335.out;have hms97_2:=NB338_336.out;have hms97_3:=NB338_337.out;have hms97_5:=NB338_355.out;have hms97_6:=NB338_359.out;have hs98 : w95.cell? ⟨gb338,2,none⟩ = some (.int .i64 0):=(bc BK338.out 2).trans rfl;have hfs98:=bz BK338.out 2;have hns98_0:=NB334_338.out;have hns98_1:=NB335_338.out;have hns98_2:=NB336_338.out;have hns98_3:=NB337_338.out;have hns98_5:=NB355_338.out;have hns98_6:=NB359_338.out;have hms98_0:=NB338_334.out;have hms98_1:=NB338_335.out;have hms98_2:=NB338_336.out;have hms98_3:=NB338_337.out;have hms98_5:=NB338_355.out;have hms98_6:=NB338_359.out;have hs99 : w95.cell? ⟨gb338,3,none⟩ = some (.int .i64 0):=(bc BK338.out 3).trans rfl;have hfs99:=bz BK338.out 3;have hns99_0:=NB334_338.out;have hns99_1:=NB335_338.out;have hns99_2:=NB336_338.out;have hns99_3:=NB337_338.out;have hns99_5:=NB355_338.out;have hns99_6:=NB359_338.out;have hms99_0:=NB338_334.out;have hms99_1:=NB338_335.out;have hms99_2:=NB338_336.out;have hms99_3:=NB338_337.out;have hms99_5:=NB338_355.out;have hms99_6:=NB338_359.out;refine skip_ (w1:=?_) (by rfl) rfl ?_ ?_
                rotate_left
                · go_simp
                  rfl
                refine hK.out _ _ ⟨((cell_far (p:=⟨gb338,_,none⟩) NB336_338.out _).trans (((cell_far (p:=⟨gb338,_,none⟩) NB336_338.out _).trans (((cell_far (p:=⟨gb338,_,none⟩) NB336_338.out _).trans (((cell_far (p:=⟨gb338,_,none⟩) NB336_338.out _).trans (hHeld.1)))))))),((cell_far (p:=⟨gb338,_,none⟩) NB336_338.out _).trans (((cell_far (p:=⟨gb338,_,none⟩) NB336_338.out _).trans (((cell_far (p:=⟨gb338,_,none⟩) NB336_338.out _).trans (((cell_far (p:=⟨gb338,_,none⟩) NB336_338.out _).trans (hHeld.2.1)))))))),((cell_far (p:=⟨gb338,_,none⟩) NB336_338.out _).trans (((cell_far (p:=⟨gb338,_,none⟩) NB336_338.out _).trans (((cell_far (p:=⟨gb338,_,none⟩) NB336_338.out _).trans (((cell_far (p:=⟨gb338,_,none⟩) NB336_338.out _).trans (hHeld.2.2.1)))))))),((cell_far (p:=⟨gb338,_,none⟩) NB336_338.out _).trans (((cell_far (p:=⟨gb338,_,none⟩) NB336_338.out _).trans (((cell_far (p:=⟨gb338,_,none⟩) NB336_338.out _).trans (((cell_far (p:=⟨gb338,_,none⟩) NB336_338.out _).trans (hHeld.2.2.2.1)))))))),((cell_far (p:=⟨gb338,_,none⟩) NB336_338.out _).trans (((cell_far (p:=⟨gb338,_,none⟩) NB336_338.out _).trans (((cell_far (p:=⟨gb338,_,none⟩) NB336_338.out _).trans (((cell_far (p:=⟨gb338,_,none⟩) NB336_338.out _).trans (hHeld.2.2.2.2.1)))))))),((cell_far (p:=⟨gb338,_,none⟩) NB336_338.out _).trans (((cell_far (p:=⟨gb338,_,none⟩) NB336_338.out _).trans (((cell_far (p:=⟨gb338,_,none⟩) NB336_338.out _).trans (((cell_far (p:=⟨gb338,_,none⟩) NB336_338.out _).trans (hHeld.2.2.2.2.2.1)))))))),((cell_far (p:=⟨gb338,_,none⟩) NB336_338.out _).trans (((cell_far (p:=⟨gb338,_,none⟩) NB336_338.out _).trans (((cell_far (p:=⟨gb338,_,none⟩) NB336_338.out _).trans (((cell_far (p:=⟨gb338,_,none⟩) NB336_338.out _).trans (hHeld.2.2.2.2.2.2.1)))))))),((cell_far (p:=⟨gb338,_,none⟩) NB336_338.out _).trans (((cell_far (p:=⟨gb338,_,none⟩) NB336_338.out _).trans (((cell_far (p:=⟨gb338,_,none⟩) NB336_338.out _).trans (((cell_far (p:=⟨gb338,_,none⟩) NB336_338.out _).trans (hHeld.2.2.2.2.2.2.2.1)))))))),((cell_far (p:=⟨gb338,_,none⟩) NB334_338.out _).trans (((cell_far (p:=⟨gb338,_,none⟩) NB334_338.out _).trans (((cell_far (p:=⟨gb338,_,none⟩) NB334_338.out _).trans (((cell_far (p:=⟨gb338,_,none⟩) NB334_338.out _).trans (hHeld.2.2.2.2.2.2.2.2.1)))))))),((cell_far (p:=⟨gb338,_,none⟩) NB334_338.out _).trans (((cell_far (p:=⟨gb338,_,none⟩) NB334_338.out _).trans (((cell_far (p:=⟨gb338,_,none⟩) NB334_338.out _).trans (((cell_far (p:=⟨gb338,_,none⟩) NB334_338.out _).trans (hHeld.2.2.2.2.2.2.2.2.2.1)))))))),((cell_far (p:=⟨gb338,_,none⟩) NB334_338.out _).trans (((cell_far (p:=⟨gb338,_,none⟩) NB334_338.out _).trans (((cell_far (p:=⟨gb338,_,none⟩) NB334_338.out _).trans (((cell_far (p:=⟨gb338,_,none⟩) NB334_338.out _).trans (hHeld.2.2.2.2.2.2.2.2.2.2.1)))))))),((cell_far (p:=⟨gb338,_,none⟩) NB334_338.out _).trans (((cell_far (p:=⟨gb338,_,none⟩) NB334_338.out _).trans (((cell_far (p:=⟨gb338,_,none⟩) NB334_338.out _).trans (((cell_far (p:=⟨gb338,_,none⟩) NB334_338.out _).trans (hHeld.2.2.2.2.2.2.2.2.2.2.2.1)))))))),((cell_far (p:=⟨gb338,_,none⟩) NB334_338.out _).trans (((cell_far (p:=⟨gb338,_,none⟩) NB334_338.out _).trans (((cell_far (p:=⟨gb338,_,none⟩) NB334_338.out _).trans (((cell_far (p:=⟨gb338,_,none⟩) NB334_338.out _).trans (hHeld.2.2.2.2.2.2.2.2.2.2.2.2.1)))))))),((cell_far (p:=⟨gb338,_,none⟩) NB334_338.out _).trans (((cell_far (p:=⟨gb338,_,none⟩) NB334_338.out _).trans (((cell_far (p:=⟨gb338,_,none⟩) NB334_338.out _).trans (((cell_far (p:=⟨gb338,_,none⟩) NB334_338.out _).trans (hHeld.2.2.2.2.2.2.2.2.2.2.2.2.2.1)))))))),((cell_far (p:=⟨gb338,_,none⟩) NB334_338.out _).trans (((cell_far (p:=⟨gb338,_,none⟩) NB334_338.out _).trans (((cell_far (p:=⟨gb338,_,none⟩) NB334_338.out _).trans (((cell_far (p:=⟨gb338,_,none⟩) NB334_338.out _).trans (hHeld.2.2.2.2.2.2.2.2.2.2.2.2.2.2.1)))))))),((cell_far (p:=⟨gb338,_,none⟩) NB334_338.out _).trans (((cell_far (p:=⟨gb338,_,none⟩) NB334_338.out _).trans (((cell_far (p:=⟨gb338,_,none⟩) NB334_338.out _).trans (((cell_far (p:=⟨gb338,_,none⟩) NB334_338.out _).trans (hHeld.2.2.2.2.2.2.2.2.2.2.2.2.2.2.2.1)))))))),((cell_far (p:=⟨gb338,_,none⟩) NB334_338.out _).trans (((cell_far (p:=⟨gb338,_,none⟩) NB334_338.out _).trans (((cell_far (p:=⟨gb338,_,none⟩) NB334_338.out _).trans (((cell_far (p:=⟨gb338,_,none⟩) NB334_338.out _).trans (hHeld.2.2.2.2.2.2.2.2.2.2.2.2.2.2.2.2.1)))))))),((cell_far (p:=⟨gb338,_,none⟩) NB334_338.out _).trans (((cell_far (p:=⟨gb338,_,none⟩) NB334_338.out _).trans (((cell_far (p:=⟨gb338,_,none⟩) NB334_338.out _).trans (((cell_far (p:=⟨gb338,_,none⟩) NB334_338.out _).trans (hHeld.2.2.2.2.2.2.2.2.2.2.2.2.2.2.2.2.2.1)))))))),((cell_far (p:=⟨gb338,_,none⟩) NB334_338.out _).trans (((cell_far (p:=⟨gb338,_,none⟩) NB334_338.out _).trans (((cell_far (p:=⟨gb338,_,none⟩) NB334_338.out _).trans (((cell_far (p:=⟨gb338,_,none⟩) NB334_338.out _).trans (hHeld.2.2.2.2.2.2.2.2.2.2.2.2.2.2.2.2.2.2.1)))))))),((cell_far (p:=⟨gb338,_,none⟩) NB334_338.out _).trans (((cell_far (p:=⟨gb338,_,none⟩) NB334_338.out _).trans (((cell_far (p:=⟨gb338,_,none⟩) NB334_338.out _).trans (((cell_far (p:=⟨gb338,_,none⟩) NB334_338.out _).trans (hHeld.2.2.2.2.2.2.2.2.2.2.2.2.2.2.2.2.2.2.2.1)))))))),((cell_far (p:=⟨gb338,_,none⟩) NB334_338.out _).trans (((cell_far (p:=⟨gb338,_,none⟩) NB334_338.out _).trans (((cell_far (p:=⟨gb338,_,none⟩) NB334_338.out _).trans (((cell_far (p:=⟨gb338,_,none⟩) NB334_338.out _).trans (hHeld.2.2.2.2.2.2.2.2.2.2.2.2.2.2.2.2.2.2.2.2.1)))))))),((cell_far (p:=⟨gb338,_,none⟩) NB334_338.out _).trans (((cell_far (p:=⟨gb338,_,none⟩) NB334_338.out _).trans (((cell_far (p:=⟨gb338,_,none⟩) NB334_338.out _).trans (((cell_far (p:=⟨gb338,_,none⟩) NB334_338.out _).trans (hHeld.2.2.2.2.2.2.2.2.2.2.2.2.2.2.2.2.2.2.2.2.2.1)))))))),((cell_far (p:=⟨gb338,_,none⟩) NB359_338.out _).trans (((cell_far (p:=⟨gb338,_,none⟩) NB359_338.out _).trans (((cell_far (p:=⟨gb338,_,none⟩) NB359_338.out _).trans (((cell_far (p:=⟨gb338,_,none⟩) NB359_338.out _).trans (hHeld.2.2.2.2.2.2.2.2.2.2.2.2.2.2.2.2.2.2.2.2.2.2.1)))))))),((cell_far (p:=⟨gb338,_,none⟩) NB359_338.out _).trans (((cell_far (p:=⟨gb338,_,none⟩) NB359_338.out _).trans (((cell_far (p:=⟨gb338,_,none⟩) NB359_338.out _).trans (((cell_far (p:=⟨gb338,_,none⟩) NB359_338.out _).trans (hHeld.2.2.2.2.2.2.2.2.2.2.2.2.2.2.2.2.2.2.2.2.2.2.2))))))))⟩ (fun hHeld => ?_);clear hK K;refine done_ (by kernel_rfl) ?_
                try go_wp2
                refine bodyPost_ret (results_cell_row rfl _ _ gb338 23 #[.int .i64 t368,.int .i64 t369,.int .i64 t370,.int .i64 t371] (0,0) _ rfl (bp (bp (bp (bp BK338.out 0 _ rfl) 1 _ rfl) 2 _ rfl) 3 _ rfl) Try.underlying23 rfl (by kernel_rfl)) rfl ?_
                exact ⟨by first|rfl|(simp [errW_none,errW_some] <;> rfl)|(simp [*,errW_none,errW_some] <;> rfl),by repeat (first|(with_reducible first|exact HB.out|apply sa|apply sn|apply sd|refine sy ?_ (by assumption))|exact HB.out)⟩
              · replace c88:=Bool.eq_false_iff.mpr c88
                subst c88
                have H1 : ((paint_Find.f kj35 l3 a0_13).bind fun bt372 => (if bt372.2.2.2.2 = true then ((pixel_Right.f kj35 bt372.1 bt372.2.1 bt372.2.2.1 bt372.2.2.2.1).bind fun t380 => (paint_At.j1 kj35 l3 (!t380) a0_0 a0_1 a0_2 a0_3 a0_4 a0_5 a0_6 a0_7 a0_8 a0_9 a0_10 a0_11 l0_12 a0_13 a2_0 a2_1 a2_2 a2_3 a2_4 a2_5 a2_6 a2_7 t356 t357)) else (paint_At.j1 kj35 l3 true a0_0 a0_1 a0_2 a0_3 a0_4 a0_5 a0_6 a0_7 a0_8 a0_9 a0_10 a0_11 l0_12 a0_13 a2_0 a2_1 a2_2 a2_3 a2_4 a2_5 a2_6 a2_7 t356 t357))) = some (r1,r2,r3,r4):=by rw [if_neg (show ¬ (false = true) by decide)] at H;exact H
                clear H;have H:=H1;clear H1;replace H:=Option.bind_eq_some_iff.mp H;obtain ⟨⟨t372,t373,t374,t375,t378⟩,A1000,H⟩:=H;replace H : (if t378 = true then ((pixel_Right.f kj35 t372 t373 t374 t375).bind fun t380 => (paint_At.j1 kj35 l3 (!t380) a0_0 a0_1 a0_2 a0_3 a0_4 a0_5 a0_6 a0_7 a0_8 a0_9 a0_10 a0_11 l0_12 a0_13 a2_0 a2_1 a2_2 a2_3 a2_4 a2_5 a2_6 a2_7 t356 t357)) else (paint_At.j1 kj35 l3 true a0_0 a0_1 a0_2 a0_3 a0_4 a0_5 a0_6 a0_7 a0_8 a0_9 a0_10 a0_11 l0_12 a0_13 a2_0 a2_1 a2_2 a2_3 a2_4 a2_5 a2_6 a2_7 t356 t357)) = some (r1,r2,r3,r4):=H;have A100:=am A1000;clear A1000;have HC101:=am H;clear H;have hnb102:=NB334_335.out;have hnc102:=NB335_334.out;have hnb103:=NB334_336.out;have hnc103:=NB336_334.out;have hnb104:=NB334_337.out;have hnc104:=NB337_334.out;have hnb105:=NB334_338.out;have hnc105:=NB338_334.out;have hnb106:=NB334_355.out;have hnc106:=NB355_334.out;have hnb107:=NB334_359.out;have hnc107:=NB359_334.out;obtain ⟨hcz108_0,hcz108_1,hcz108_2,hcz108_3,hcz108_4,hcz108_5,hcz108_6,hcz108_7,hcz108_8,hcz108_9,hcz108_10,hcz108_11,hcz108_12,hcz108_13⟩:=cq14 BK334.out;obtain ⟨hfz108_0,hfz108_1,hfz108_2,hfz108_3,hfz108_4,hfz108_5,hfz108_6,hfz108_7,hfz108_8,hfz108_9,hfz108_10,hfz108_11,hfz108_12,hfz108_13⟩:=fq14 BK334.out
                go_upto_region 14 with (first|((with_reducible refine gate_callee (f:=17) rfl ?_);refine goesL_ (some 68) rfl rfl Try.func17 (by kernel_rfl) rfl #[.slice A3 l3.length c3,.int .i64 a0_13] rfl (by (try simp only [List.map_toArray,List.map_cons,List.map_nil]);first|done|rfl|(simp only [List.length_drop,List.length_take];rfl)) ?_;(with_reducible refine (paint_Find.calls kj35 (fun k_ => k_ < w.heap.size) _ _ l3 a0_13 t372 t373 t374 t375 t378 _ ?side1 A100.out).mono ?_);(case side1 => exact Kd.V_mk HC3.out (Kd.F_below (Kd.C_F k43_heap HR3.out) (by repeat (first|(with_reducible first|exact HB.out|apply sa|apply sn|apply sd|refine sy ?_ (by assumption))|exact HB.out))));rintro e w109 ⟨v376,rfl,ho0,hb⟩;refine ⟨_,rfl,?_⟩;have n0_:=am (Kd.V_lower (Kd.V_mono (ok':=fun k_ => k_ ≠ gb334 ∧ k_ ≠ gb335 ∧ k_ ≠ gb336 ∧ k_ ≠ gb337 ∧ k_ ≠ gb338 ∧ k_ ≠ gb355 ∧ k_ ≠ gb359) ho0 (fun k_ hk_ => ⟨Or.elim hk_ (fun hs_ => fun e_ => Nat.not_le.2 hs_ (by rw [e_];exact GW334.out)) (fun hn_ => (Kd.freshB (g:=gb334) (o:=.cells #[.int .i64 a0_0,.int .i64 a0_1,.int .i64 a0_2,.int .i64 a0_3,.int .i64 a0_4,.int .i64 a0_5,.int .i64 a0_6,.int .i64 a0_7,.int .i64 a0_8,.int .i64 a0_9,.int .i64 a0_10,.int .i64 a0_11,.slice A0_12 l0_12.length c0_12,.int .i64 a0_13] 31 (0,0)) (by exact BK334.out) k_ hn_)),Or.elim hk_ (fun hs_ => fun e_ => Nat.not_le.2 hs_ (by rw [e_];exact GW335.out)) (fun hn_ => (Kd.freshB (g:=gb335) (o:=.cells #[.int .i64 a1_0,.int .i64 a1_1,.int .i64 a1_2,.int .i64 a1_3,.int .i64 a1_4,.int .i64 a1_5] 28 (0,0)) (by exact BK335.out) k_ hn_)),Or.elim hk_ (fun hs_ => fun e_ => Nat.not_le.2 hs_ (by rw [e_];exact GW336.out)) (fun hn_ => (Kd.freshB (g:=gb336) (o:=.cells #[.int .i64 a2_0,.int .i64 a2_1,.int .i64 a2_2,.int .i64 a2_3,.int .i64 a2_4,.int .i64 a2_5,.int .i64 a2_6,.int .i64 a2_7] 34 (0,0)) (by exact BK336.out) k_ hn_)),Or.elim hk_ (fun hs_ => fun e_ => Nat.not_le.2 hs_ (by rw [e_];exact GW337.out)) (fun hn_ => (Kd.freshB (g:=gb337) (o:=.cells #[.int .i64 a4_0,.int .i64 a4_1] 37 (0,0)) (by exact BK337.out) k_ hn_)),Or.elim hk_ (fun hs_ => fun e_ => Nat.not_le.2 hs_ (by rw [e_];exact GW338.out)) (fun hn_ => (Kd.freshB (g:=gb338) (o:=.cells #[.int .i64 0,.int .i64 0,.int .i64 0,.int .i64 0] 23 (0,0)) (by exact BK338.out) k_ hn_)),Or.elim hk_ (fun hs_ => fun e_ => Nat.not_le.2 hs_ (by rw [e_];exact GW355.out)) (fun hn_ => (Kd.freshB (g:=gb355) (o:=.cells #[.int .i64 t348,.int .i64 t349,.int .i64 t350,.int .i64 t351,.int .i64 t352,.int .i64 t353] 28 (0,0)) (by exact BK355.out) k_ hn_)),Or.elim hk_ (fun hs_ => fun e_ => Nat.not_le.2 hs_ (by rw [e_];exact GW359.out)) (fun hn_ => (Kd.freshB (g:=gb359) (o:=.cells #[.int .i64 t356,.int .i64 t357] 37 (0,0)) (by exact BK359.out) k_ hn_))⟩)) (sz (by repeat (first|(with_reducible first|exact HB.out|apply sa|apply sn|apply sd|refine sy ?_ (by assumption))|exact HB.out))));have n1_:=am (bw (by exact BK334.out) hb);have n2_:=am (bw (by exact BK335.out) hb);have n3_:=am (bw (by exact BK336.out) hb);have n4_:=am (bw (by exact BK337.out) hb);have n5_:=am (bw (by exact BK338.out) hb);have n6_:=am (bw (by exact BK355.out) hb);have n7_:=am (bw (by exact BK359.out) hb);have n8_:=am (ss (by repeat (first|(with_reducible first|exact HB.out|apply sa|apply sn|apply sd|refine sy ?_ (by assumption))|exact HB.out)) hb);clear BK334;clear BK335;clear BK336;clear BK337;clear BK338;clear BK355;clear BK359;clear HB;have HO377:=n0_;have BK334:=n1_;have BK335:=n2_;have BK336:=n3_;have BK337:=n4_;have BK338:=n5_;have BK355:=n6_;have BK359:=n7_;have HB:=n8_;clear n0_ n1_ n2_ n3_ n4_ n5_ n6_ n7_ n8_;(try clear hb);(try clear hb2);(try clear hk);(try clear hi);(try clear ho0))|((with_reducible refine gate_dst (N:=15) rfl ?_);refine box_event ?hg (N:=15) ?hd (cs:=#[.int .i64 0,.int .i64 0,.int .i64 0,.slice none 0 0]) (t:=43) ?hr ?_;(case hd => rfl);(case hg => rfl);(case hr => first|(go_simp;done)|(go_simp;rfl));intro gb379 hg w110 hbox hb;have n0_:=am (vE (by (with_reducible repeat (first|apply Kd.V_alloc|apply Kd.V_drewN|apply Kd.V_drew));exact HO377.out) hg hb);have n1_:=am (bw (by exact BK334.out) hb);have n2_:=am (bw (by exact BK335.out) hb);have n3_:=am (bw (by exact BK336.out) hb);have n4_:=am (bw (by exact BK337.out) hb);have n5_:=am (bw (by exact BK338.out) hb);have n6_:=am (bw (by exact BK355.out) hb);have n7_:=am (bw (by exact BK359.out) hb);have n8_:=am (ss (by repeat (first|(with_reducible first|exact HB.out|apply sa|apply sn|apply sd|refine sy ?_ (by assumption))|exact HB.out)) hb);have n9_:=am (hbox);have n10_:=am ((by rw [hg];exact (sz (by repeat (first|(with_reducible first|exact HB.out|apply sa|apply sn|apply sd|refine sy ?_ (by assumption))|exact HB.out))) : w.heap.size ≤ gb379));have n11_:=n10_;have n12_:=nb (by exact BK334.out) hg;have n13_:=am (Ne.symm n12_.out);have n14_:=nb (by exact BK335.out) hg;have n15_:=am (Ne.symm n14_.out);have n16_:=nb (by exact BK336.out) hg;have n17_:=am (Ne.symm n16_.out);have n18_:=nb (by exact BK337.out) hg;have n19_:=am (Ne.symm n18_.out);have n20_:=nb (by exact BK338.out) hg;have n21_:=am (Ne.symm n20_.out);have n22_:=nb (by exact BK355.out) hg;have n23_:=am (Ne.symm n22_.out);have n24_:=nb (by exact BK359.out) hg;have n25_:=ng (by exact BK359.out) hg;clear HO377;clear BK334;clear BK335;clear BK336;clear BK337;clear BK338;clear BK355;clear BK359;clear HB;have HO377:=n0_;have BK334:=n1_;have BK335:=n2_;have BK336:=n3_;have BK337:=n4_;have BK338:=n5_;have BK355:=n6_;have BK359:=n7_;have HB:=n8_;have BK379:=n9_;have GW379:=n10_;have GE379:=n11_;have NB334_379:=n12_;have NB379_334:=n13_;have NB335_379:=n14_;have NB379_335:=n15_;have NB336_379:=n16_;have NB379_336:=n17_;have NB337_379:=n18_;have NB379_337:=n19_;have NB338_379:=n20_;have NB379_338:=n21_;have NB355_379:=n22_;have NB379_355:=n23_;have NB359_379:=n24_;have NB379_359:=n25_;clear n0_ n1_ n2_ n3_ n4_ n5_ n6_ n7_ n8_ n9_ n10_ n11_ n12_ n13_ n14_ n15_ n16_ n17_ n18_ n19_ n20_ n21_ n22_ n23_ n24_ n25_;clear hb hbox hg;have hnb111:=NB379_334.out;have hnc111:=NB334_379.out;have hnb112:=NB379_335.out;have hnc112:=NB335_379.out;have hnb113:=NB379_336.out;have hnc113:=NB336_379.out;have hnb114:=NB379_337.out;have hnc114:=NB337_379.out;have hnb115:=NB379_338.out;have hnc115:=NB338_379.out;have hnb116:=NB379_355.out;have hnc116:=NB355_379.out;have hnb117:=NB379_359.out;have hnc117:=NB359_379.out;obtain ⟨hcz118_0,hcz118_1,hcz118_2,hcz118_3⟩:=cq4 BK379.out;obtain ⟨hfz118_0,hfz118_1,hfz118_2,hfz118_3⟩:=fq4 BK379.out;obtain ⟨Ao119,co119,eo119⟩:=Kd.V_slice HO377.out;subst eo119))
                (try simp only [Act.put,q1,q2,q3])
                go_cut [77] (fun v77 wc => ∃ (kq : Nat) (x77_100 : Bool),v77 = .bool x77_100 ∧ Aside0 (paint_At.j1 kq l3 x77_100 a0_0 a0_1 a0_2 a0_3 a0_4 a0_5 a0_6 a0_7 a0_8 a0_9 a0_10 a0_11 l0_12 a0_13 a2_0 a2_1 a2_2 a2_3 a2_4 a2_5 a2_6 a2_7 t356 t357 = some (r1,r2,r3,r4)) ∧ Aside0 (kq ≤ kj35) ∧ Aside0 (Kd.V k23 23 wc w.heap.size (fun k_ => k_ ≠ gb334 ∧ k_ ≠ gb335 ∧ k_ ≠ gb336 ∧ k_ ≠ gb337 ∧ k_ ≠ gb338 ∧ k_ ≠ gb355 ∧ k_ ≠ gb359 ∧ k_ ≠ gb379) (.slice Ao119 t375.length co119) t375) ∧ Aside0 (wc.heap[gb334]? = some (.cells #[.int .i64 a0_0,.int .i64 a0_1,.int .i64 a0_2,.int .i64 a0_3,.int .i64 a0_4,.int .i64 a0_5,.int .i64 a0_6,.int .i64 a0_7,.int .i64 a0_8,.int .i64 a0_9,.int .i64 a0_10,.int .i64 a0_11,(.slice A0_12 l0_12.length c0_12),.int .i64 a0_13] 31 (0,0))) ∧ Aside0 (wc.heap[gb335]? = some (.cells #[.int .i64 a1_0,.int .i64 a1_1,.int .i64 a1_2,.int .i64 a1_3,.int .i64 a1_4,.int .i64 a1_5] 28 (0,0))) ∧ Aside0 (wc.heap[gb336]? = some (.cells #[.int .i64 a2_0,.int .i64 a2_1,.int .i64 a2_2,.int .i64 a2_3,.int .i64 a2_4,.int .i64 a2_5,.int .i64 a2_6,.int .i64 a2_7] 34 (0,0))) ∧ Aside0 (wc.heap[gb337]? = some (.cells #[.int .i64 a4_0,.int .i64 a4_1] 37 (0,0))) ∧ Aside0 (wc.heap[gb338]? = some (.cells #[.int .i64 0,.int .i64 0,.int .i64 0,.int .i64 0] 23 (0,0))) ∧ Aside0 (wc.heap[gb355]? = some (.cells #[.int .i64 t348,.int .i64 t349,.int .i64 t350,.int .i64 t351,.int .i64 t352,.int .i64 t353] 28 (0,0))) ∧ Aside0 (wc.heap[gb359]? = some (.cells #[.int .i64 t356,.int .i64 t357] 37 (0,0))) ∧ Aside0 (wc.heap[gb379]? = some (.cells #[.int .i64 t372,.int .i64 t373,.int .i64 t374,(.slice Ao119 t375.length co119)] 43 (0,0))) ∧ Aside0 (Below w.heap.size w wc))
                case first =>
                  have H:=HC101.out;clear HC101
                  by_cases c120 : t378 = true
                  · subst c120
                    have H1 : ((pixel_Right.f kj35 t372 t373 t374 t375).bind fun t380 => (paint_At.j1 kj35 l3 (!t380) a0_0 a0_1 a0_2 a0_3 a0_4 a0_5 a0_6 a0_7 a0_8 a0_9 a0_10 a0_11 l0_12 a0_13 a2_0 a2_1 a2_2 a2_3 a2_4 a2_5 a2_6 a2_7 t356 t357)) = some (r1,r2,r3,r4):=by rw [if_pos rfl] at H;exact H
                    clear H;have H:=H1;clear H1;replace H:=Option.bind_eq_some_iff.mp H;obtain ⟨t380,A1210,H⟩:=H;replace H : (paint_At.j1 kj35 l3 (!t380) a0_0 a0_1 a0_2 a0_3 a0_4 a0_5 a0_6 a0_7 a0_8 a0_9 a0_10 a0_11 l0_12 a0_13 a2_0 a2_1 a2_2 a2_3 a2_4 a2_5 a2_6 a2_7 t356 t357) = some (r1,r2,r3,r4):=H;have A121:=am A1210;clear A1210;have H':=am H;clear H;have hnb122:=NB379_334.out;have hnc122:=NB334_379.out;have hnb123:=NB379_335.out;have hnc123:=NB335_379.out;have hnb124:=NB379_336.out;have hnc124:=NB336_379.out;have hnb125:=NB379_337.out;have hnc125:=NB337_379.out;have hnb126:=NB379_338.out;have hnc126:=NB338_379.out;have hnb127:=NB379_355.out;have hnc127:=NB355_379.out;have hnb128:=NB379_359.out;have hnc128:=NB359_379.out;obtain ⟨hcz129_0,hcz129_1,hcz129_2,hcz129_3⟩:=cq4 BK379.out;obtain ⟨hfz129_0,hfz129_1,hfz129_2,hfz129_3⟩:=fq4 BK379.out
                    go_wp2_with (first|(go_at_call 22;(with_reducible refine (pixel_Right.calls kj35 t372 t373 t374 _ _ t375 t380 _ ?side1 ?side2 A121.out).mono ?_);(case side1 => refine (Kd.V_reads' (e:=23) (base:=w.heap.size) (ok:=fun k_ => ((k_ ≠ gb334 ∧ (k_ ≠ gb335 ∧ (k_ ≠ gb336 ∧ (k_ ≠ gb337 ∧ (k_ ≠ gb338 ∧ (k_ ≠ gb355 ∧ k_ ≠ gb359)))))) ∧ k_ ≠ gb379)) (n:=t375.length) (c:=co119) ?_).2.2;exact (by (with_reducible repeat (first|apply Kd.V_alloc|apply Kd.V_drewN|apply Kd.V_drew));exact (vm (vf (vf (vf (vf (vp HO377.out))))))));(case side2 => exact (Kd.V_reads' HO377.out).2.1);rintro e w130 ⟨rfl,hb⟩;replace HO377:=am (Kd.V_below (by (with_reducible repeat (first|apply Kd.V_alloc|apply Kd.V_drewN|apply Kd.V_drew));exact (vm (vf (vf (vf (vf (vp HO377.out))))))) hb);replace BK334:=am (wz BK334.out (by (with_reducible repeat (first|refine bn ?_ _|refine bd ?_|refine ba ?_ _|refine bf ?_ NB334_379.out _));exact BK334.out) hb);replace BK335:=am (wz BK335.out (by (with_reducible repeat (first|refine bn ?_ _|refine bd ?_|refine ba ?_ _|refine bf ?_ NB335_379.out _));exact BK335.out) hb);replace BK336:=am (wz BK336.out (by (with_reducible repeat (first|refine bn ?_ _|refine bd ?_|refine ba ?_ _|refine bf ?_ NB336_379.out _));exact BK336.out) hb);replace BK337:=am (wz BK337.out (by (with_reducible repeat (first|refine bn ?_ _|refine bd ?_|refine ba ?_ _|refine bf ?_ NB337_379.out _));exact BK337.out) hb);replace BK338:=am (wz BK338.out (by (with_reducible repeat (first|refine bn ?_ _|refine bd ?_|refine ba ?_ _|refine bf ?_ NB338_379.out _));exact BK338.out) hb);replace BK355:=am (wz BK355.out (by (with_reducible repeat (first|refine bn ?_ _|refine bd ?_|refine ba ?_ _|refine bf ?_ NB355_379.out _));exact BK355.out) hb);replace BK359:=am (wz BK359.out (by (with_reducible repeat (first|refine bn ?_ _|refine bd ?_|refine ba ?_ _|refine bf ?_ NB359_379.out _));exact BK359.out) hb);replace BK379:=am (bw (g:=gb379) (o:=.cells #[.int .i64 t372,.int .i64 t373,.int .i64 t374,.slice Ao119 t375.length co119] 43 (0,0)) (bp (bp (bp (bp BK379.out 0 _ rfl) 1 _ rfl) 2 _ rfl) 3 _ rfl) hb);replace HB:=am (ss (by repeat (first|(with_reducible first|exact HB.out|apply sa|apply sn|apply sd|refine sy ?_ (by assumption))|exact HB.out)) hb);(try clear hb);(try clear hb2);(try clear hk);(try clear hi)))
                    go_meet
                    case rel => exact ⟨_,(!t380),(by first|rfl|(simp;done)|(simp [*];done)),H',⟨by have:=HJ35.out;first|omega|exact Nat.le_refl _⟩,⟨by (with_reducible repeat (first|apply Kd.V_alloc|apply Kd.V_drewN|apply Kd.V_drew));exact Kd.V_mono HO377.out (fun _ hk => ⟨hk.1.1,⟨hk.1.2.1,⟨hk.1.2.2.1,⟨hk.1.2.2.2.1,⟨hk.1.2.2.2.2.1,⟨hk.1.2.2.2.2.2.1,⟨hk.1.2.2.2.2.2.2,hk.2⟩⟩⟩⟩⟩⟩⟩)⟩,⟨by exact BK334.out⟩,⟨by exact BK335.out⟩,⟨by exact BK336.out⟩,⟨by exact BK337.out⟩,⟨by exact BK338.out⟩,⟨by exact BK355.out⟩,⟨by exact BK359.out⟩,⟨by exact BK379.out⟩,⟨by repeat (first|(with_reducible first|exact HB.out|apply sa|apply sn|apply sd|refine sy ?_ (by assumption))|exact HB.out)⟩⟩
                  · replace c120:=Bool.eq_false_iff.mpr c120
                    subst c120
                    have H1 : (paint_At.j1 kj35 l3 true a0_0 a0_1 a0_2 a0_3 a0_4 a0_5 a0_6 a0_7 a0_8 a0_9 a0_10 a0_11 l0_12 a0_13 a2_0 a2_1 a2_2 a2_3 a2_4 a2_5 a2_6 a2_7 t356 t357) = some (r1,r2,r3,r4):=by rw [if_neg (show ¬ (false = true) by decide)] at H;exact H
                    clear H;have H:=H1;clear H1;have H':=am H;clear H
                    go_wp2
                    go_meet
                    case rel => exact ⟨_,(true),(by first|rfl|(simp;done)|(simp [*];done)),H',⟨by have:=HJ35.out;first|omega|exact Nat.le_refl _⟩,⟨by (with_reducible repeat (first|apply Kd.V_alloc|apply Kd.V_drewN|apply Kd.V_drew));exact Kd.V_mono (vf (vf (vf (vf (vp HO377.out))))) (fun _ hk => ⟨hk.1.1.1,⟨hk.1.1.2.1,⟨hk.1.1.2.2.1,⟨hk.1.1.2.2.2.1,⟨hk.1.1.2.2.2.2.1,⟨hk.1.1.2.2.2.2.2.1,⟨hk.1.1.2.2.2.2.2.2,hk.1.2⟩⟩⟩⟩⟩⟩⟩)⟩,⟨by (with_reducible repeat (first|refine bn ?_ _|refine bd ?_|refine ba ?_ _|refine bf ?_ NB334_379.out _));exact BK334.out⟩,⟨by (with_reducible repeat (first|refine bn ?_ _|refine bd ?_|refine ba ?_ _|refine bf ?_ NB335_379.out _));exact BK335.out⟩,⟨by (with_reducible repeat (first|refine bn ?_ _|refine bd ?_|refine ba ?_ _|refine bf ?_ NB336_379.out _));exact BK336.out⟩,⟨by (with_reducible repeat (first|refine bn ?_ _|refine bd ?_|refine ba ?_ _|refine bf ?_ NB337_379.out _));exact BK337.out⟩,⟨by (with_reducible repeat (first|refine bn ?_ _|refine bd ?_|refine ba ?_ _|refine bf ?_ NB338_379.out _));exact BK338.out⟩,⟨by (with_reducible repeat (first|refine bn ?_ _|refine bd ?_|refine ba ?_ _|refine bf ?_ NB355_379.out _));exact BK355.out⟩,⟨by (with_reducible repeat (first|refine bn ?_ _|refine bd ?_|refine ba ?_ _|refine bf ?_ NB359_379.out _));exact BK359.out⟩,⟨(bp (bp (bp (bp BK379.out 0 _ rfl) 1 _ rfl) 2 _ rfl) 3 _ rfl)⟩,⟨by repeat (first|(with_reducible first|exact HB.out|apply sa|apply sn|apply sd|refine sy ?_ (by assumption))|exact HB.out)⟩⟩
                case rest =>
                  clear HC101
                  try clear c1
                  try clear c2
                  try clear p2
                  try clear c3
                  try clear c8
                  try clear c9
                  try clear c10
                  try clear c11
                  try clear c12
                  try clear c17
                  try clear c29
                  try clear c32
                  try clear c88
                  try clear c102
                  try clear c103
                  try clear c104
                  try clear c105
                  try clear c106
                  try clear c107
                  try clear c111
                  try clear c112
                  try clear c113
                  try clear c114
                  try clear c115
                  try clear c116
                  try clear c117
                  try clear c120
                  try clear c122
                  try clear c123
                  try clear c124
                  try clear c125
                  try clear c126
                  try clear c127
                  try clear c128
                  try clear hcz108_0
                  try clear hcz108_1
                  try clear hcz108_10
                  try clear hcz108_11
                  try clear hcz108_12
                  try clear hcz108_13
                  try clear hcz108_2
                  try clear hcz108_3
                  try clear hcz108_4
                  try clear hcz108_5
                  try clear hcz108_6
                  try clear hcz108_7
                  try clear hcz108_8
                  try clear hcz108_9
                  try clear hcz118_0
                  try clear hcz118_1
                  try clear hcz118_2
                  try clear hcz118_3
                  try clear hcz129_0
                  try clear hcz129_1
                  try clear hcz129_2
                  try clear hcz129_3
                  try clear hcz20_4
                  try clear hcz20_5
                  try clear hcz20_6
                  try clear hcz20_7
                  try clear hcz20_8
                  try clear hcz20_9
                  try clear hcz22_0
                  try clear hcz22_1
                  try clear hcz22_10
                  try clear hcz22_11
                  try clear hcz22_12
                  try clear hcz22_13
                  try clear hcz22_2
                  try clear hcz22_3
                  try clear hcz22_4
                  try clear hcz22_5
                  try clear hcz22_6
                  try clear hcz22_7
                  try clear hcz22_8
                  try clear hcz22_9
                  try clear hcz26_0
                  try clear hcz26_1
                  try clear hcz26_2
                  try clear hcz26_3
                  try clear hcz26_4
                  try clear hcz26_5
                  try clear hcz26_6
                  try clear hcz26_7
                  try clear hcz31_0
                  try clear hcz31_1
                  try clear hcz31_2
                  try clear hcz31_3
                  try clear hcz46_0
                  try clear hcz46_1
                  try clear hcz46_10
                  try clear hcz46_11
                  try clear hcz46_12
                  try clear hcz46_13
                  try clear hcz46_2
                  try clear hcz46_3
                  try clear hcz46_4
                  try clear hcz46_5
                  try clear hcz46_6
                  try clear hcz46_7
                  try clear hcz46_8
                  try clear hcz46_9
                  try clear hcz48_0
                  try clear hcz48_1
                  try clear hcz48_10
                  try clear hcz48_11
                  try clear hcz48_12
                  try clear hcz48_13
                  try clear hcz48_2
                  try clear hcz48_3
                  try clear hcz48_4
                  try clear hcz48_5
                  try clear hcz48_6
                  try clear hcz48_7
                  try clear hcz48_8
                  try clear hcz48_9
                  try clear hcz52_0
                  try clear hcz52_1
                  try clear hcz52_2
                  try clear hcz52_3
                  try clear hcz52_4
                  try clear hcz52_5
                  try clear hcz60_0
                  try clear hcz60_1
                  try clear hcz60_2
                  try clear hcz60_3
                  try clear hcz60_4
                  try clear hcz60_5
                  try clear hcz63_0
                  try clear hcz63_1
                  try clear hcz72_0
                  try clear hcz72_1
                  try clear hcz80_0
                  try clear hcz80_1
                  try clear hcz80_10
                  try clear hcz80_11
                  try clear hcz80_12
                  try clear hcz80_13
                  try clear hcz80_2
                  try clear hcz80_3
                  try clear hcz80_4
                  try clear hcz80_5
                  try clear hcz80_6
                  try clear hcz80_7
                  try clear hcz80_8
                  try clear hcz80_9
                  try clear hcz87_0
                  try clear hcz87_1
                  try clear hcz87_10
                  try clear hcz87_11
                  try clear hcz87_12
                  try clear hcz87_13
                  try clear hcz87_2
                  try clear hcz87_3
                  try clear hcz87_4
                  try clear hcz87_5
                  try clear hcz87_6
                  try clear hcz87_7
                  try clear hcz87_8
                  try clear hcz87_9
                  try clear hfz108_0
                  try clear hfz108_1
                  try clear hfz108_10
                  try clear hfz108_11
                  try clear hfz108_12
                  try clear hfz108_13
                  try clear hfz108_2
                  try clear hfz108_3
                  try clear hfz108_4
                  try clear hfz108_5
                  try clear hfz108_6
                  try clear hfz108_7
                  try clear hfz108_8
                  try clear hfz108_9
                  try clear hfz118_0
                  try clear hfz118_1
                  try clear hfz118_2
                  try clear hfz118_3
                  try clear hfz129_0
                  try clear hfz129_1
                  try clear hfz129_2
                  try clear hfz129_3
                  try clear hfz20_0
                  try clear hfz20_1
                  try clear hfz20_10
                  try clear hfz20_11
                  try clear hfz20_12
                  try clear hfz20_13
                  try clear hfz20_2
                  try clear hfz20_3
                  try clear hfz20_4
                  try clear hfz20_5
                  try clear hfz20_6
                  try clear hfz20_7
                  try clear hfz20_8
                  try clear hfz20_9
                  try clear hfz22_0
                  try clear hfz22_1
                  try clear hfz22_10
                  try clear hfz22_11
                  try clear hfz22_12
                  try clear hfz22_13
                  try clear hfz22_2
                  try clear hfz22_3
                  try clear hfz22_4
                  try clear hfz22_5
                  try clear hfz22_6
                  try clear hfz22_7
                  try clear hfz22_8
                  try clear hfz22_9
                  try clear hfz26_0
                  try clear hfz26_1
                  try clear hfz26_2
                  try clear hfz26_3
                  try clear hfz26_4
                  try clear hfz26_5
                  try clear hfz26_6
                  try clear hfz26_7
                  try clear hfz31_0
                  try clear hfz31_1
                  try clear hfz31_2
                  try clear hfz31_3
                  try clear hfz46_0
                  try clear hfz46_1
                  try clear hfz46_10
                  try clear hfz46_11
                  try clear hfz46_12
                  try clear hfz46_13
                  try clear hfz46_2
                  try clear hfz46_3
                  try clear hfz46_4
                  try clear hfz46_5
                  try clear hfz46_6
                  try clear hfz46_7
                  try clear hfz46_8
                  try clear hfz46_9
                  try clear hfz48_0
                  try clear hfz48_1
                  try clear hfz48_10
                  try clear hfz48_11
                  try clear hfz48_12
                  try clear hfz48_13
                  try clear hfz48_2
                  try clear hfz48_3
                  try clear hfz48_4
                  try clear hfz48_5
                  try clear hfz48_6
                  try clear hfz48_7
                  try clear hfz48_8
                  try clear hfz48_9
                  try clear hfz52_0
                  try clear hfz52_1
                  try clear hfz52_2
                  try clear hfz52_3
                  try clear hfz52_4
                  try clear hfz52_5
                  try clear hfz60_0
                  try clear hfz60_1
                  try clear hfz60_2
                  try clear hfz60_3
                  try clear hfz60_4
                  try clear hfz60_5
                  try clear hfz63_0
                  try clear hfz63_1
                  try clear hfz72_0
                  try clear hfz72_1
                  try clear hfz80_0
                  try clear hfz80_1
                  try clear hfz80_10
                  try clear hfz80_11
                  try clear hfz80_12
                  try clear hfz80_13
                  try clear hfz80_2
                  try clear hfz80_3
                  try clear hfz80_4
                  try clear hfz80_5
                  try clear hfz80_6
                  try clear hfz80_7
                  try clear hfz80_8
                  try clear hfz80_9
                  try clear hfz87_0
                  try clear hfz87_1
                  try clear hfz87_10
                  try clear hfz87_11
                  try clear hfz87_12
                  try clear hfz87_13
                  try clear hfz87_2
                  try clear hfz87_3
                  try clear hfz87_4
                  try clear hfz87_5
                  try clear hfz87_6
                  try clear hfz87_7
                  try clear hfz87_8
                  try clear hfz87_9
                  obtain ⟨kq,x77_100,rfl,HA,HJ100,HO_380003,BK334,BK335,BK336,BK337,BK338,BK355,BK359,BK379,HB⟩:=hcut
                  cases kq with
                  | zero => exact absurd HA.out (by simp [paint_At.j1])
                  | succ kj100 =>
                    have H:=HA.out;clear HA;simp only [paint_At.j1] at H
                    by_cases c131 : x77_100 = true
                    · subst c131
                      have H1 : (some (0,0,0,0)) = some (r1,r2,r3,r4):=by rw [if_pos rfl] at H;exact H
                      clear H;have H:=H1;clear H1;simp only [Option.some.injEq,Prod.mk.injEq] at H;obtain ⟨rfl,rfl,rfl,rfl⟩:=H;have hnb132:=NB338_334.out;have hnc132:=NB334_338.out;have hnb133:=NB338_335.out;have hnc133:=NB335_338.out;have hnb134:=NB338_336.out;have hnc134:=NB336_338.out;have hnb135:=NB338_337.out;have hnc135:=NB337_338.out;have hnb136:=NB338_355.out;have hnc136:=NB355_338.out;have hnb137:=NB338_359.out;have hnc137:=NB359_338.out;have hnb138:=NB338_379.out;have hnc138:=NB379_338.out;obtain ⟨hcz139_0,hcz139_1,hcz139_2,hcz139_3⟩:=cq4 BK338.out;obtain ⟨hfz139_0,hfz139_1,hfz139_2,hfz139_3⟩:=fq4 BK338.out
                      go_wp2
                      refine bodyPost_ret (results_cell_row rfl _ _ gb338 23 #[.int .i64 0,.int .i64 0,.int .i64 0,.int .i64 0] (0,0) _ rfl (bp (bp (bp (bp BK338.out 0 _ rfl) 1 _ rfl) 2 _ rfl) 3 _ rfl) Try.underlying23 rfl (by kernel_rfl)) rfl ?_
                      exact ⟨by first|rfl|(simp [errW_none,errW_some] <;> rfl)|(simp [*,errW_none,errW_some] <;> rfl),by repeat (first|(with_reducible first|exact HB.out|apply sa|apply sn|apply sd|refine sy ?_ (by assumption))|exact HB.out)⟩
                    · replace c131:=Bool.eq_false_iff.mpr c131
                      subst c131
                      have H1 : ((paint_picture.f kj100 a0_0 a0_1 a0_2 a0_3 a0_4 a0_5 a0_6 a0_7 a0_8 a0_9 a0_10 a0_11 l0_12 a0_13 l3 t356 t357).bind fun bt381 => ((paint_Clear.f kj100 bt381.1 bt381.2.1 bt381.2.2.1 bt381.2.2.2).bind fun bt385 => ((affine_Color.f kj100 a2_0 a2_1 a2_2 a2_3 a2_4 a2_5 a2_6 a2_7 bt385.1 bt385.2.1 bt385.2.2.1 bt385.2.2.2).bind fun bt389 => ((paint_Faint.f kj100 bt389.1 bt389.2.1 bt389.2.2.1 bt389.2.2.2).bind fun bt393 => (some (bt393.1,bt393.2.1,bt393.2.2.1,bt393.2.2.2)))))) = some (r1,r2,r3,r4):=by rw [if_neg (show ¬ (false = true) by decide)] at H;exact H
                      clear H;have H:=H1;clear H1;replace H:=Option.bind_eq_some_iff.mp H;obtain ⟨⟨t381,t382,t383,t384⟩,A1400,H⟩:=H;replace H : ((paint_Clear.f kj100 t381 t382 t383 t384).bind fun bt385 => ((affine_Color.f kj100 a2_0 a2_1 a2_2 a2_3 a2_4 a2_5 a2_6 a2_7 bt385.1 bt385.2.1 bt385.2.2.1 bt385.2.2.2).bind fun bt389 => ((paint_Faint.f kj100 bt389.1 bt389.2.1 bt389.2.2.1 bt389.2.2.2).bind fun bt393 => (some (bt393.1,bt393.2.1,bt393.2.2.1,bt393.2.2.2))))) = some (r1,r2,r3,r4):=H;have A140:=am A1400;clear A1400;replace H:=Option.bind_eq_some_iff.mp H;obtain ⟨⟨t385,t386,t387,t388⟩,A1410,H⟩:=H;replace H : ((affine_Color.f kj100 a2_0 a2_1 a2_2 a2_3 a2_4 a2_5 a2_6 a2_7 t385 t386 t387 t388).bind fun bt389 => ((paint_Faint.f kj100 bt389.1 bt389.2.1 bt389.2.2.1 bt389.2.2.2).bind fun bt393 => (some (bt393.1,bt393.2.1,bt393.2.2.1,bt393.2.2.2)))) = some (r1,r2,r3,r4):=H;have A141:=am A1410;clear A1410;replace H:=Option.bind_eq_some_iff.mp H;obtain ⟨⟨t389,t390,t391,t392⟩,A1420,H⟩:=H;replace H : ((paint_Faint.f kj100 t389 t390 t391 t392).bind fun bt393 => (some (bt393.1,bt393.2.1,bt393.2.2.1,bt393.2.2.2))) = some (r1,r2,r3,r4):=H;have A142:=am A1420;clear A1420;replace H:=Option.bind_eq_some_iff.mp H;obtain ⟨⟨t393,t394,t395,t396⟩,A1430,H⟩:=H;replace H : (some (t393,t394,t395,t396)) = some (r1,r2,r3,r4):=H;have A143:=am A1430;clear A1430;simp only [Option.some.injEq,Prod.mk.injEq] at H;obtain ⟨rfl,rfl,rfl,rfl⟩:=H
                      try go_wp2
                      replace HO_380003:=am (Kd.V_drew HO_380003.out);replace BK334:=am (bd BK334.out);replace BK335:=am (bd BK335.out);replace BK336:=am (bd BK336.out);replace BK337:=am (bd BK337.out);replace BK338:=am (bd BK338.out);replace BK355:=am (bd BK355.out);replace BK359:=am (bd BK359.out);replace BK379:=am (bd BK379.out);replace HB:=am (sd HB.out);refine start_ (n:=9) (S:=fun w' => w'.cell? ⟨gb336,0,none⟩ = some (.int .i64 a2_0) ∧ w'.cell? ⟨gb336,1,none⟩ = some (.int .i64 a2_1) ∧ w'.cell? ⟨gb336,2,none⟩ = some (.int .i64 a2_2) ∧ w'.cell? ⟨gb336,3,none⟩ = some (.int .i64 a2_3) ∧ w'.cell? ⟨gb336,4,none⟩ = some (.int .i64 a2_4) ∧ w'.cell? ⟨gb336,5,none⟩ = some (.int .i64 a2_5) ∧ w'.cell? ⟨gb336,6,none⟩ = some (.int .i64 a2_6) ∧ w'.cell? ⟨gb336,7,none⟩ = some (.int .i64 a2_7) ∧ w'.cell? ⟨gb334,0,none⟩ = some (.int .i64 a0_0) ∧ w'.cell? ⟨gb334,1,none⟩ = some (.int .i64 a0_1) ∧ w'.cell? ⟨gb334,2,none⟩ = some (.int .i64 a0_2) ∧ w'.cell? ⟨gb334,3,none⟩ = some (.int .i64 a0_3) ∧ w'.cell? ⟨gb334,4,none⟩ = some (.int .i64 a0_4) ∧ w'.cell? ⟨gb334,5,none⟩ = some (.int .i64 a0_5) ∧ w'.cell? ⟨gb334,6,none⟩ = some (.int .i64 a0_6) ∧ w'.cell? ⟨gb334,7,none⟩ = some (.int .i64 a0_7) ∧ w'.cell? ⟨gb334,8,none⟩ = some (.int .i64 a0_8) ∧ w'.cell? ⟨gb334,9,none⟩ = some (.int .i64 a0_9) ∧ w'.cell? ⟨gb334,10,none⟩ = some (.int .i64 a0_10) ∧ w'.cell? ⟨gb334,11,none⟩ = some (.int .i64 a0_11) ∧ w'.cell? ⟨gb334,12,none⟩ = some (.slice A0_12 l0_12.length c0_12) ∧ w'.cell? ⟨gb334,13,none⟩ = some (.int .i64 a0_13) ∧ w'.cell? ⟨gb359,0,none⟩ = some (.int .i64 t356) ∧ w'.cell? ⟨gb359,1,none⟩ = some (.int .i64 t357)) (ds:=[]) #[false,false,false,false,false,false,false,false,false] (by kernel_rfl) rfl rfl ⟨(bc BK336.out 0).trans rfl,(bc BK336.out 1).trans rfl,(bc BK336.out 2).trans rfl,(bc BK336.out 3).trans rfl,(bc BK336.out 4).trans rfl,(bc BK336.out 5).trans rfl,(bc BK336.out 6).trans rfl,(bc BK336.out 7).trans rfl,(bc BK334.out 0).trans rfl,(bc BK334.out 1).trans rfl,(bc BK334.out 2).trans rfl,(bc BK334.out 3).trans rfl,(bc BK334.out 4).trans rfl,(bc BK334.out 5).trans rfl,(bc BK334.out 6).trans rfl,(bc BK334.out 7).trans rfl,(bc BK334.out 8).trans rfl,(bc BK334.out 9).trans rfl,(bc BK334.out 10).trans rfl,(bc BK334.out 11).trans rfl,(bc BK334.out 12).trans rfl,(bc BK334.out 13).trans rfl,(bc BK359.out 0).trans rfl,(bc BK359.out 1).trans rfl⟩ (fun hHeld => ?_);refine with_tabW paint_At.tab16 paint_At.bits16 (fun HT_ HW_ => ?_);generalize wc.drew = w144 at HO_380003 BK334 BK335 BK336 BK337 BK338 BK355 BK359 BK379 HB hHeld ⊢;refine pure_ (i:=2) (N:=some 81) (v:=?_) (a':=?_) #[false,false,true,false,false,false,false,false,false] rfl rfl (any_of HT_.out (by kernel_rfl)) (fun _ _ _ h => h) (Or.inl ⟨by rfl,?_⟩) ?_ ?_
                      rotate_left
                      · intro w'
                        go_simp
                        with_reducible rfl
                      rotate_left
                      · simp only [Act.put,q1,q2,q3,i64_w,i32_w]
                        rfl
                      refine take_ (i:=0) (N:=some 79) (v:=?_) (a':=?_) #[true,false,true,false,false,false,false,false,false] rfl rfl (take_ofW HT_.out HW_.out (by kernel_rfl)) (fun _ _ _ h => h) (Or.inl ⟨by rfl,?_⟩) hHeld ?_ ?_
                      rotate_left
                      · rintro w' ⟨s0,s1,s2,s3,s4,s5,s6,s7,s8,s9,s10,s11,s12,s13,s14,s15,s16,s17,s18,s19,s20,s21,s22,s23⟩
                        go_simp
                        with_reducible rfl
                      rotate_left
                      · simp only [Act.put,q1,q2,q3,i64_w,i32_w]
                        rfl
                      refine take_ (i:=1) (N:=some 80) (v:=?_) (a':=?_) #[true,true,true,false,false,false,false,false,false] rfl rfl (take_ofW HT_.out HW_.out (by kernel_rfl)) (fun _ _ _ h => h) (Or.inl ⟨by rfl,?_⟩) hHeld ?_ ?_
                      rotate_left
                      · rintro w' ⟨s0,s1,s2,s3,s4,s5,s6,s7,s8,s9,s10,s11,s12,s13,s14,s15,s16,s17,s18,s19,s20,s21,s22,s23⟩
                        go_simp
                        with_reducible rfl
                      rotate_left
                      · simp only [Act.put,q1,q2,q3,i64_w,i32_w]
                        rfl
                      refine take_ (i:=3) (N:=some 82) (v:=?_) (a':=?_) #[true,true,true,true,false,false,false,false,false] rfl rfl (take_ofW HT_.out HW_.out (by kernel_rfl)) (fun _ _ _ h => h) (Or.inl ⟨by rfl,?_⟩) hHeld ?_ ?_
                      rotate_left
                      · rintro w' ⟨s0,s1,s2,s3,s4,s5,s6,s7,s8,s9,s10,s11,s12,s13,s14,s15,s16,s17,s18,s19,s20,s21,s22,s23⟩
                        go_simp
                        with_reducible rfl
                      rotate_left
                      · simp only [Act.put,q1,q2,q3,i64_w,i32_w]
                        rfl
                      refine one_ (i:=4) (N:=some 83) #[true,true,true,true,true,false,false,false,false] rfl rfl (one_of HT_.out (by kernel_rfl)) (by decide) (fun K hK => ?_);refine goes_ Try.func33 (by kernel_rfl) rfl #[.agg #[.int .i64 a0_0,.int .i64 a0_1,.int .i64 a0_2,.int .i64 a0_3,.int .i64 a0_4,.int .i64 a0_5,.int .i64 a0_6,.int .i64 a0_7,.int .i64 a0_8,.int .i64 a0_9,.int .i64 a0_10,.int .i64 a0_11,.slice A0_12 l0_12.length c0_12,.int .i64 a0_13],.slice A3 l3.length c3,.agg #[.int .i64 t356,.int .i64 t357]] (by rfl) rfl rfl (by (try simp only [List.map_toArray,List.map_cons,List.map_nil]);first|done|rfl|(simp only [List.length_drop,List.length_take];rfl)) ?_
                      with_reducible refine (paint_picture.calls kj100 a0_0 a0_1 a0_2 a0_3 a0_4 a0_5 a0_6 a0_7 a0_8 a0_9 a0_10 a0_11 _ _ l0_12 a0_13 _ _ l3 t356 t357 t381 t382 t383 t384 _ ?side1 ?side2 ?side3 ?side4 A140.out).mono ?_
                      (case side1 => repeat (first|exact (Kd.C_below HR0_12.out HB.out)|(with_reducible refine Kd.C_alloc ?_ _)|(with_reducible refine Kd.C_drewN ?_ _)|(with_reducible refine Kd.C_drew ?_)))
                      (case side2 => exact HC0_12.out)
                      (case side3 => repeat (first|exact (Kd.C_below HR3.out HB.out)|(with_reducible refine Kd.C_alloc ?_ _)|(with_reducible refine Kd.C_drewN ?_ _)|(with_reducible refine Kd.C_drew ?_)))
                      (case side4 => exact HC3.out)
                      rintro e w145 ⟨rfl,hb⟩
                      refine ⟨_,rfl,?_⟩;replace HO_380003:=am (Kd.V_below (by (with_reducible repeat (first|apply Kd.V_alloc|apply Kd.V_drewN|apply Kd.V_drew));exact HO_380003.out) hb);replace BK334:=am (bw (by exact BK334.out) hb);replace BK335:=am (bw (by exact BK335.out) hb);replace BK336:=am (bw (by exact BK336.out) hb);replace BK337:=am (bw (by exact BK337.out) hb);replace BK338:=am (bw (by exact BK338.out) hb);replace BK355:=am (bw (by exact BK355.out) hb);replace BK359:=am (bw (by exact BK359.out) hb);replace BK379:=am (bw (by exact BK379.out) hb);replace HB:=am (ss (by repeat (first|(with_reducible first|exact HB.out|apply sa|apply sn|apply sd|refine sy ?_ (by assumption))|exact HB.out)) hb);(try clear hb);(try clear hb2);(try clear hk);(try clear hi);refine hK.out _ _ ⟨(bc BK336.out 0).trans rfl,(bc BK336.out 1).trans rfl,(bc BK336.out 2).trans rfl,(bc BK336.out 3).trans rfl,(bc BK336.out 4).trans rfl,(bc BK336.out 5).trans rfl,(bc BK336.out 6).trans rfl,(bc BK336.out 7).trans rfl,(bc BK334.out 0).trans rfl,(bc BK334.out 1).trans rfl,(bc BK334.out 2).trans rfl,(bc BK334.out 3).trans rfl,(bc BK334.out 4).trans rfl,(bc BK334.out 5).trans rfl,(bc BK334.out 6).trans rfl,(bc BK334.out 7).trans rfl,(bc BK334.out 8).trans rfl,(bc BK334.out 9).trans rfl,(bc BK334.out 10).trans rfl,(bc BK334.out 11).trans rfl,(bc BK334.out 12).trans rfl,(bc BK334.out 13).trans rfl,(bc BK359.out 0).trans rfl,(bc BK359.out 1).trans rfl⟩ (fun hHeld => ?_);clear hK K;refine norm_ (a':=?_) ?_ ?_
                      rotate_left
                      · show Act.put _ (some 83) _ = _
                        simp only [Act.put,q1,q2,q3,i64_w,i32_w]
                        rfl
                      refine one_ (i:=5) (N:=some 84) #[true,true,true,true,true,true,false,false,false] rfl rfl (one_of HT_.out (by kernel_rfl)) (by decide) (fun K hK => ?_);refine goes_ Try.func10 (by kernel_rfl) rfl #[.agg #[.int .i64 t381,.int .i64 t382,.int .i64 t383,.int .i64 t384]] (by rfl) rfl rfl (by (try simp only [List.map_toArray,List.map_cons,List.map_nil]);first|done|rfl|(simp only [List.length_drop,List.length_take];rfl)) ?_
                      with_reducible refine (paint_Clear.calls kj100 t381 t382 t383 t384 t385 t386 t387 t388 _ A141.out).mono ?_
                      rintro e w146 ⟨rfl,hb⟩
                      refine ⟨_,rfl,?_⟩;replace HO_380003:=am (Kd.V_below (by (with_reducible repeat (first|apply Kd.V_alloc|apply Kd.V_drewN|apply Kd.V_drew));exact HO_380003.out) hb);replace BK334:=am (bw (by exact BK334.out) hb);replace BK335:=am (bw (by exact BK335.out) hb);replace BK336:=am (bw (by exact BK336.out) hb);replace BK337:=am (bw (by exact BK337.out) hb);replace BK338:=am (bw (by exact BK338.out) hb);replace BK355:=am (bw (by exact BK355.out) hb);replace BK359:=am (bw (by exact BK359.out) hb);replace BK379:=am (bw (by exact BK379.out) hb);replace HB:=am (ss (by repeat (first|(with_reducible first|exact HB.out|apply sa|apply sn|apply sd|refine sy ?_ (by assumption))|exact HB.out)) hb);(try clear hb);(try clear hb2);(try clear hk);(try clear hi);refine hK.out _ _ ⟨(bc BK336.out 0).trans rfl,(bc BK336.out 1).trans rfl,(bc BK336.out 2).trans rfl,(bc BK336.out 3).trans rfl,(bc BK336.out 4).trans rfl,(bc BK336.out 5).trans rfl,(bc BK336.out 6).trans rfl,(bc BK336.out 7).trans rfl,(bc BK334.out 0).trans rfl,(bc BK334.out 1).trans rfl,(bc BK334.out 2).trans rfl,(bc BK334.out 3).trans rfl,(bc BK334.out 4).trans rfl,(bc BK334.out 5).trans rfl,(bc BK334.out 6).trans rfl,(bc BK334.out 7).trans rfl,(bc BK334.out 8).trans rfl,(bc BK334.out 9).trans rfl,(bc BK334.out 10).trans rfl,(bc BK334.out 11).trans rfl,(bc BK334.out 12).trans rfl,(bc BK334.out 13).trans rfl,(bc BK359.out 0).trans rfl,(bc BK359.out 1).trans rfl⟩ (fun hHeld => ?_);clear hK K;refine norm_ (a':=?_) ?_ ?_
                      rotate_left
                      · show Act.put _ (some 84) _ = _
                        simp only [Act.put,q1,q2,q3,i64_w,i32_w]
                        rfl
                      refine one_ (i:=6) (N:=some 85) #[true,true,true,true,true,true,true,false,false] rfl rfl (one_of HT_.out (by kernel_rfl)) (by decide) (fun K hK => ?_);refine goes_ Try.func29 (by kernel_rfl) rfl #[.agg #[.int .i64 a2_0,.int .i64 a2_1,.int .i64 a2_2,.int .i64 a2_3,.int .i64 a2_4,.int .i64 a2_5,.int .i64 a2_6,.int .i64 a2_7],.agg #[.int .i64 t385,.int .i64 t386,.int .i64 t387,.int .i64 t388]] (by rfl) rfl rfl (by (try simp only [List.map_toArray,List.map_cons,List.map_nil]);first|done|rfl|(simp only [List.length_drop,List.length_take];rfl)) ?_
                      with_reducible refine (affine_Color.calls kj100 a2_0 a2_1 a2_2 a2_3 a2_4 a2_5 a2_6 a2_7 t385 t386 t387 t388 t389 t390 t391 t392 _ A142.out).mono ?_
                      rintro e w147 ⟨rfl,hb⟩
                      refine ⟨_,rfl,?_⟩;replace HO_380003:=am (Kd.V_below (by (with_reducible repeat (first|apply Kd.V_alloc|apply Kd.V_drewN|apply Kd.V_drew));exact HO_380003.out) hb);replace BK334:=am (bw (by exact BK334.out) hb);replace BK335:=am (bw (by exact BK335.out) hb);replace BK336:=am (bw (by exact BK336.out) hb);replace BK337:=am (bw (by exact BK337.out) hb);replace BK338:=am (bw (by exact BK338.out) hb);replace BK355:=am (bw (by exact BK355.out) hb);replace BK359:=am (bw (by exact BK359.out) hb);replace BK379:=am (bw (by exact BK379.out) hb);replace HB:=am (ss (by repeat (first|(with_reducible first|exact HB.out|apply sa|apply sn|apply sd|refine sy ?_ (by assumption))|exact HB.out)) hb);(try clear hb);(try clear hb2);(try clear hk);(try clear hi);refine hK.out _ _ ⟨(bc BK336.out 0).trans rfl,(bc BK336.out 1).trans rfl,(bc BK336.out 2).trans rfl,(bc BK336.out 3).trans rfl,(bc BK336.out 4).trans rfl,(bc BK336.out 5).trans rfl,(bc BK336.out 6).trans rfl,(bc BK336.out 7).trans rfl,(bc BK334.out 0).trans rfl,(bc BK334.out 1).trans rfl,(bc BK334.out 2).trans rfl,(bc BK334.out 3).trans rfl,(bc BK334.out 4).trans rfl,(bc BK334.out 5).trans rfl,(bc BK334.out 6).trans rfl,(bc BK334.out 7).trans rfl,(bc BK334.out 8).trans rfl,(bc BK334.out 9).trans rfl,(bc BK334.out 10).trans rfl,(bc BK334.out 11).trans rfl,(bc BK334.out 12).trans rfl,(bc BK334.out 13).trans rfl,(bc BK359.out 0).trans rfl,(bc BK359.out 1).trans rfl⟩ (fun hHeld => ?_);clear hK K;refine norm_ (a':=?_) ?_ ?_
                      rotate_left
                      · show Act.put _ (some 85) _ = _
                        simp only [Act.put,q1,q2,q3,i64_w,i32_w]
                        rfl
                      refine one_ (i:=7) (N:=some 86) #[true,true,true,true,true,true,true,true,false] rfl rfl (one_of HT_.out (by kernel_rfl)) (by decide) (fun K hK => ?_);refine goes_ Try.func9 (by kernel_rfl) rfl #[.agg #[.int .i64 t389,.int .i64 t390,.int .i64 t391,.int .i64 t392]] (by rfl) rfl rfl (by (try simp only [List.map_toArray,List.map_cons,List.map_nil]);first|done|rfl|(simp only [List.length_drop,List.length_take];rfl)) ?_
                      with_reducible refine (paint_Faint.calls kj100 t389 t390 t391 t392 t393 t394 t395 t396 _ A143.out).mono ?_
                      rintro e w148 ⟨rfl,hb⟩
                      refine ⟨_,rfl,?_⟩;replace HO_380003:=am (Kd.V_below (by (with_reducible repeat (first|apply Kd.V_alloc|apply Kd.V_drewN|apply Kd.V_drew));exact HO_380003.out) hb);replace BK334:=am (bw (by exact BK334.out) hb);replace BK335:=am (bw (by exact BK335.out) hb);replace BK336:=am (bw (by exact BK336.out) hb);replace BK337:=am (bw (by exact BK337.out) hb);replace BK338:=am (bw (by exact BK338.out) hb);replace BK355:=am (bw (by exact BK355.out) hb);replace BK359:=am (bw (by exact BK359.out) hb);replace BK379:=am (bw (by exact BK379.out) hb);replace HB:=am (ss (by repeat (first|(with_reducible first|exact HB.out|apply sa|apply sn|apply sd|refine sy ?_ (by assumption))|exact HB.out)) hb);(try clear hb);(try clear hb2);(try clear hk);(try clear hi);refine hK.out _ _ ⟨(bc BK336.out 0).trans rfl,(bc BK336.out 1).trans rfl,(bc BK336.out 2).trans rfl,(bc BK336.out 3).trans rfl,(bc BK336.out 4).trans rfl,(bc BK336.out 5).trans rfl,(bc BK336.out 6).trans rfl,(bc BK336.out 7).trans rfl,(bc BK334.out 0).trans rfl,(bc BK334.out 1).trans rfl,(bc BK334.out 2).trans rfl,(bc BK334.out 3).trans rfl,(bc BK334.out 4).trans rfl,(bc BK334.out 5).trans rfl,(bc BK334.out 6).trans rfl,(bc BK334.out 7).trans rfl,(bc BK334.out 8).trans rfl,(bc BK334.out 9).trans rfl,(bc BK334.out 10).trans rfl,(bc BK334.out 11).trans rfl,(bc BK334.out 12).trans rfl,(bc BK334.out 13).trans rfl,(bc BK359.out 0).trans rfl,(bc BK359.out 1).trans rfl⟩ (fun hHeld => ?_);clear hK K;refine norm_ (a':=?_) ?_ ?_
                      rotate_left
                      · show Act.put _ (some 86) _ = _
                        simp only [Act.put,q1,q2,q3,i64_w,i32_w]
                        rfl
                      refine one_ (i:=8) (N:=none) #[true,true,true,true,true,true,true,true,true] rfl rfl (one_of HT_.out (by kernel_rfl)) (by decide) (fun K hK => ?_);have hs149 : w148.cell? ⟨gb338,0,none⟩ = some (.int .i64 0):=(bc BK338.out 0).trans rfl;have hfs149:=bz BK338.out 0;have hns149_0:=NB334_338.out;have hns149_1:=NB335_338.out;have hns149_2:=NB336_338.out;have hns149_3:=NB337_338.out;have hns149_5:=NB355_338.out;have hns149_6:=NB359_338.out;have hns149_7:=NB379_338.out;have hms149_0:=NB338_334.out;have hms149_1:=NB338_335.out;have hms149_2:=NB338_336.out;have hms149_3:=NB338_337.out;have hms149_5:=NB338_355.out;have hms149_6:=NB338_359.out;have hms149_7:=NB338_379.out;have hs150 : w148.cell? ⟨gb338,1,none⟩ = some (.int .i64 0):=(bc BK338.out 1).trans rfl;have hfs150:=bz BK338.out 1;have hns150_0:=NB334_338.out;have hns150_1:=NB335_338.out;have hns150_2:=NB336_338.out;have hns150_3:=NB337_338.out;have hns150_5:=NB355_338.out;have hns150_6:=NB359_338.out;have hns150_7:=NB379_338.out;have hms150_0:=NB338_334.out;have hms150_1:=NB338_335.out;have hms150_2:=NB338_336.out;have hms150_3:=NB338_337.out;have hms150_5:=NB338_355.out;have hms150_6:=NB338_359.out;have hms150_7:=NB338_379.out;have hs151 : w148.cell? ⟨gb338,2,none⟩ = some (.int .i64 0):=(bc BK338.out 2).trans rfl;have hfs151:=bz BK338.out 2;have hns151_0:=NB334_338.out;have hns151_1:=NB335_338.out;have hns151_2:=NB336_338.out;have hns151_3:=NB337_338.out;have hns151_5:=NB355_338.out;have hns151_6:=NB359_338.out;have hns151_7:=NB379_338.out;have hms151_0:=NB338_334.out;have hms151_1:=NB338_335.out;have hms151_2:=NB338_336.out;have hms151_3:=NB338_337.out;have hms151_5:=NB338_355.out;have hms151_6:=NB338_359.out;have hms151_7:=NB338_379.out;have hs152 : w148.cell? ⟨gb338,3,none⟩ = some (.int .i64 0):=(bc BK338.out 3).trans rfl;have hfs152:=bz BK338.out 3;have hns152_0:=NB334_338.out;have hns152_1:=NB335_338.out;have hns152_2:=NB336_338.out;have hns152_3:=NB337_338.out;have hns152_5:=NB355_338.out;have hns152_6:=NB359_338.out;have hns152_7:=NB379_338.out;have hms152_0:=NB338_334.out;have hms152_1:=NB338_335.out;have hms152_2:=NB338_336.out;have hms152_3:=NB338_337.out;have hms152_5:=NB338_355.out;have hms152_6:=NB338_359.out;have hms152_7:=NB338_379.out;refine skip_ (w1:=?_) (by rfl) rfl ?_ ?_
                      rotate_left
                      · go_simp
                        rfl
                      refine hK.out _ _ ⟨((cell_far (p:=⟨gb338,_,none⟩) NB336_338.out _).trans (((cell_far (p:=⟨gb338,_,none⟩) NB336_338.out _).trans (((cell_far (p:=⟨gb338,_,none⟩) NB336_338.out _).trans (((cell_far (p:=⟨gb338,_,none⟩) NB336_338.out _).trans (hHeld.1)))))))),((cell_far (p:=⟨gb338,_,none⟩) NB336_338.out _).trans (((cell_far (p:=⟨gb338,_,none⟩) NB336_338.out _).trans (((cell_far (p:=⟨gb338,_,none⟩) NB336_338.out _).trans (((cell_far (p:=⟨gb338,_,none⟩) NB336_338.out _).trans (hHeld.2.1)))))))),((cell_far (p:=⟨gb338,_,none⟩) NB336_338.out _).trans (((cell_far (p:=⟨gb338,_,none⟩) NB336_338.out _).trans (((cell_far (p:=⟨gb338,_,none⟩) NB336_338.out _).trans (((cell_far (p:=⟨gb338,_,none⟩) NB336_338.out _).trans (hHeld.2.2.1)))))))),((cell_far (p:=⟨gb338,_,none⟩) NB336_338.out _).trans (((cell_far (p:=⟨gb338,_,none⟩) NB336_338.out _).trans (((cell_far (p:=⟨gb338,_,none⟩) NB336_338.out _).trans (((cell_far (p:=⟨gb338,_,none⟩) NB336_338.out _).trans (hHeld.2.2.2.1)))))))),((cell_far (p:=⟨gb338,_,none⟩) NB336_338.out _).trans (((cell_far (p:=⟨gb338,_,none⟩) NB336_338.out _).trans (((cell_far (p:=⟨gb338,_,none⟩) NB336_338.out _).trans (((cell_far (p:=⟨gb338,_,none⟩) NB336_338.out _).trans (hHeld.2.2.2.2.1)))))))),((cell_far (p:=⟨gb338,_,none⟩) NB336_338.out _).trans (((cell_far (p:=⟨gb338,_,none⟩) NB336_338.out _).trans (((cell_far (p:=⟨gb338,_,none⟩) NB336_338.out _).trans (((cell_far (p:=⟨gb338,_,none⟩) NB336_338.out _).trans (hHeld.2.2.2.2.2.1)))))))),((cell_far (p:=⟨gb338,_,none⟩) NB336_338.out _).trans (((cell_far (p:=⟨gb338,_,none⟩) NB336_338.out _).trans (((cell_far (p:=⟨gb338,_,none⟩) NB336_338.out _).trans (((cell_far (p:=⟨gb338,_,none⟩) NB336_338.out _).trans (hHeld.2.2.2.2.2.2.1)))))))),((cell_far (p:=⟨gb338,_,none⟩) NB336_338.out _).trans (((cell_far (p:=⟨gb338,_,none⟩) NB336_338.out _).trans (((cell_far (p:=⟨gb338,_,none⟩) NB336_338.out _).trans (((cell_far (p:=⟨gb338,_,none⟩) NB336_338.out _).trans (hHeld.2.2.2.2.2.2.2.1)))))))),((cell_far (p:=⟨gb338,_,none⟩) NB334_338.out _).trans (((cell_far (p:=⟨gb338,_,none⟩) NB334_338.out _).trans (((cell_far (p:=⟨gb338,_,none⟩) NB334_338.out _).trans (((cell_far (p:=⟨gb338,_,none⟩) NB334_338.out _).trans (hHeld.2.2.2.2.2.2.2.2.1)))))))),((cell_far (p:=⟨gb338,_,none⟩) NB334_338.out _).trans (((cell_far (p:=⟨gb338,_,none⟩) NB334_338.out _).trans (((cell_far (p:=⟨gb338,_,none⟩) NB334_338.out _).trans (((cell_far (p:=⟨gb338,_,none⟩) NB334_338.out _).trans (hHeld.2.2.2.2.2.2.2.2.2.1)))))))),((cell_far (p:=⟨gb338,_,none⟩) NB334_338.out _).trans (((cell_far (p:=⟨gb338,_,none⟩) NB334_338.out _).trans (((cell_far (p:=⟨gb338,_,none⟩) NB334_338.out _).trans (((cell_far (p:=⟨gb338,_,none⟩) NB334_338.out _).trans (hHeld.2.2.2.2.2.2.2.2.2.2.1)))))))),((cell_far (p:=⟨gb338,_,none⟩) NB334_338.out _).trans (((cell_far (p:=⟨gb338,_,none⟩) NB334_338.out _).trans (((cell_far (p:=⟨gb338,_,none⟩) NB334_338.out _).trans (((cell_far (p:=⟨gb338,_,none⟩) NB334_338.out _).trans (hHeld.2.2.2.2.2.2.2.2.2.2.2.1)))))))),((cell_far (p:=⟨gb338,_,none⟩) NB334_338.out _).trans (((cell_far (p:=⟨gb338,_,none⟩) NB334_338.out _).trans (((cell_far (p:=⟨gb338,_,none⟩) NB334_338.out _).trans (((cell_far (p:=⟨gb338,_,none⟩) NB334_338.out _).trans (hHeld.2.2.2.2.2.2.2.2.2.2.2.2.1)))))))),((cell_far (p:=⟨gb338,_,none⟩) NB334_338.out _).trans (((cell_far (p:=⟨gb338,_,none⟩) NB334_338.out _).trans (((cell_far (p:=⟨gb338,_,none⟩) NB334_338.out _).trans (((cell_far (p:=⟨gb338,_,none⟩) NB334_338.out _).trans (hHeld.2.2.2.2.2.2.2.2.2.2.2.2.2.1)))))))),((cell_far (p:=⟨gb338,_,none⟩) NB334_338.out _).trans (((cell_far (p:=⟨gb338,_,none⟩) NB334_338.out _).trans (((cell_far (p:=⟨gb338,_,none⟩) NB334_338.out _).trans (((cell_far (p:=⟨gb338,_,none⟩) NB334_338.out _).trans (hHeld.2.2.2.2.2.2.2.2.2.2.2.2.2.2.1)))))))),((cell_far (p:=⟨gb338,_,none⟩) NB334_338.out _).trans (((cell_far (p:=⟨gb338,_,none⟩) NB334_338.out _).trans (((cell_far (p:=⟨gb338,_,none⟩) NB334_338.out _).trans (((cell_far (p:=⟨gb338,_,none⟩) NB334_338.out _).trans (hHeld.2.2.2.2.2.2.2.2.2.2.2.2.2.2.2.1)))))))),((cell_far (p:=⟨gb338,_,none⟩) NB334_338.out _).trans (((cell_far (p:=⟨gb338,_,none⟩) NB334_338.out _).trans (((cell_far (p:=⟨gb338,_,none⟩) NB334_338.out _).trans (((cell_far (p:=⟨gb338,_,none⟩) NB334_338.out _).trans (hHeld.2.2.2.2.2.2.2.2.2.2.2.2.2.2.2.2.1)))))))),((cell_far (p:=⟨gb338,_,none⟩) NB334_338.out _).trans (((cell_far (p:=⟨gb338,_,none⟩) NB334_338.out _).trans (((cell_far (p:=⟨gb338,_,none⟩) NB334_338.out _).trans (((cell_far (p:=⟨gb338,_,none⟩) NB334_338.out _).trans (hHeld.2.2.2.2.2.2.2.2.2.2.2.2.2.2.2.2.2.1)))))))),((cell_far (p:=⟨gb338,_,none⟩) NB334_338.out _).trans (((cell_far (p:=⟨gb338,_,none⟩) NB334_338.out _).trans (((cell_far (p:=⟨gb338,_,none⟩) NB334_338.out _).trans (((cell_far (p:=⟨gb338,_,none⟩) NB334_338.out _).trans (hHeld.2.2.2.2.2.2.2.2.2.2.2.2.2.2.2.2.2.2.1)))))))),((cell_far (p:=⟨gb338,_,none⟩) NB334_338.out _).trans (((cell_far (p:=⟨gb338,_,none⟩) NB334_338.out _).trans (((cell_far (p:=⟨gb338,_,none⟩) NB334_338.out _).trans (((cell_far (p:=⟨gb338,_,none⟩) NB334_338.out _).trans (hHeld.2.2.2.2.2.2.2.2.2.2.2.2.2.2.2.2.2.2.2.1)))))))),((cell_far (p:=⟨gb338,_,none⟩) NB334_338.out _).trans (((cell_far (p:=⟨gb338,_,none⟩) NB334_338.out _).trans (((cell_far (p:=⟨gb338,_,none⟩) NB334_338.out _).trans (((cell_far (p:=⟨gb338,_,none⟩) NB334_338.out _).trans (hHeld.2.2.2.2.2.2.2.2.2.2.2.2.2.2.2.2.2.2.2.2.1)))))))),((cell_far (p:=⟨gb338,_,none⟩) NB334_338.out _).trans (((cell_far (p:=⟨gb338,_,none⟩) NB334_338.out _).trans (((cell_far (p:=⟨gb338,_,none⟩) NB334_338.out _).trans (((cell_far (p:=⟨gb338,_,none⟩) NB334_338.out _).trans (hHeld.2.2.2.2.2.2.2.2.2.2.2.2.2.2.2.2.2.2.2.2.2.1)))))))),((cell_far (p:=⟨gb338,_,none⟩) NB359_338.out _).trans (((cell_far (p:=⟨gb338,_,none⟩) NB359_338.out _).trans (((cell_far (p:=⟨gb338,_,none⟩) NB359_338.out _).trans (((cell_far (p:=⟨gb338,_,none⟩) NB359_338.out _).trans (hHeld.2.2.2.2.2.2.2.2.2.2.2.2.2.2.2.2.2.2.2.2.2.2.1)))))))),((cell_far (p:=⟨gb338,_,none⟩) NB359_338.out _).trans (((cell_far (p:=⟨gb338,_,none⟩) NB359_338.out _).trans (((cell_far (p:=⟨gb338,_,none⟩) NB359_338.out _).trans (((cell_far (p:=⟨gb338,_,none⟩) NB359_338.out _).trans (hHeld.2.2.2.2.2.2.2.2.2.2.2.2.2.2.2.2.2.2.2.2.2.2.2))))))))⟩ (fun hHeld => ?_);clear hK K;refine done_ (done_of HT_.out (by kernel_rfl)) ?_
                      try go_wp2
                      refine bodyPost_ret (results_cell_row rfl _ _ gb338 23 #[.int .i64 t393,.int .i64 t394,.int .i64 t395,.int .i64 t396] (0,0) _ rfl (bp (bp (bp (bp BK338.out 0 _ rfl) 1 _ rfl) 2 _ rfl) 3 _ rfl) Try.underlying23 rfl (by kernel_rfl)) rfl ?_
                      exact ⟨by first|rfl|(simp [errW_none,errW_some] <;> rfl)|(simp [*,errW_none,errW_some] <;> rfl),by repeat (first|(with_reducible first|exact HB.out|apply sa|apply sn|apply sd|refine sy ?_ (by assumption))|exact HB.out)⟩
        · replace c35:=Bool.eq_false_iff.mpr c35
          subst c35
          have H1 : (some (0,0,0,0)) = some (r1,r2,r3,r4):=by rw [if_neg (show ¬ (false = true) by decide)] at H;exact H
          clear H;have H:=H1;clear H1;simp only [Option.some.injEq,Prod.mk.injEq] at H;obtain ⟨rfl,rfl,rfl,rfl⟩:=H
          go_enter Try.func20,Try.ntmps20
          go_wp2_with (first|((with_reducible refine gate_dst (N:=5) rfl ?_);refine box_event ?hg (N:=5) ?hd (cs:=#[.int .i64 a0_0,.int .i64 a0_1,.int .i64 a0_2,.int .i64 a0_3,.int .i64 a0_4,.int .i64 a0_5,.int .i64 a0_6,.int .i64 a0_7,.int .i64 a0_8,.int .i64 a0_9,.int .i64 a0_10,.int .i64 a0_11,.slice A0_12 l0_12.length c0_12,.int .i64 a0_13]) (t:=31) ?hr ?_;(case hd => rfl);(case hg => rfl);(case hr => first|(go_simp;done)|(go_simp;rfl));intro gb334 hg w153 hbox hb;have BK334:=am (hbox);have GW334:=am ((by rw [hg];exact (sz (by repeat (first|(with_reducible first|exact HB.out|apply sa|apply sn|apply sd)|exact HB.out))) : w.heap.size ≤ gb334));have GE334:=am ((by rw [hg];exact (sz (by repeat (first|(with_reducible first|exact HB.out|apply sa|apply sn|apply sd)|exact HB.out))) : w.heap.size ≤ gb334));replace HB:=am (ss (by repeat (first|(with_reducible first|exact HB.out|apply sa|apply sn|apply sd)|exact HB.out)) hb);clear hb hbox hg)|((with_reducible refine gate_dst (N:=6) rfl ?_);refine box_event ?hg (N:=6) ?hd (cs:=#[.int .i64 a1_0,.int .i64 a1_1,.int .i64 a1_2,.int .i64 a1_3,.int .i64 a1_4,.int .i64 a1_5]) (t:=28) ?hr ?_;(case hd => rfl);(case hg => rfl);(case hr => first|(go_simp;done)|(go_simp;rfl));intro gb335 hg w154 hbox hb;have BK335:=am (hbox);obtain ⟨h1_,GW335⟩:=sg (by repeat (first|(with_reducible first|exact HB.out|apply sa|apply sn|apply sd|refine sx ?_ GE334.out)|exact HB.out)) hb hg;replace HB:=h1_;clear h1_;have GE335:=GW335;have NB334_335:=nb (by exact BK334.out) hg;have NB335_334:=ng (by exact BK334.out) hg;replace BK334:=am (bw (by exact BK334.out) hb);clear hb hbox hg)|((with_reducible refine gate_dst (N:=7) rfl ?_);refine box_event ?hg (N:=7) ?hd (cs:=#[.int .i64 a2_0,.int .i64 a2_1,.int .i64 a2_2,.int .i64 a2_3,.int .i64 a2_4,.int .i64 a2_5,.int .i64 a2_6,.int .i64 a2_7]) (t:=34) ?hr ?_;(case hd => rfl);(case hg => rfl);(case hr => first|(go_simp;done)|(go_simp;rfl));intro gb336 hg w155 hbox hb;have BK336:=am (hbox);obtain ⟨h1_,GW336⟩:=sg (by repeat (first|(with_reducible first|exact HB.out|apply sa|apply sn|apply sd|refine sy ?_ (by assumption))|exact HB.out)) hb hg;replace HB:=h1_;clear h1_;have GE336:=GW336;have NB334_336:=nb (by exact BK334.out) hg;replace BK334:=am (bw (by exact BK334.out) hb);have NB336_334:=am (Ne.symm NB334_336.out);have NB335_336:=nb (by exact BK335.out) hg;have NB336_335:=ng (by exact BK335.out) hg;replace BK335:=am (bw (by exact BK335.out) hb);clear hb hbox hg)|((with_reducible refine gate_dst (N:=9) rfl ?_);refine box_event ?hg (N:=9) ?hd (cs:=#[.int .i64 a4_0,.int .i64 a4_1]) (t:=37) ?hr ?_;(case hd => rfl);(case hg => rfl);(case hr => first|(go_simp;done)|(go_simp;rfl));intro gb337 hg w156 hbox hb;have BK337:=am (hbox);obtain ⟨h1_,GW337⟩:=sg (by repeat (first|(with_reducible first|exact HB.out|apply sa|apply sn|apply sd|refine sy ?_ (by assumption))|exact HB.out)) hb hg;replace HB:=h1_;clear h1_;have GE337:=GW337;have NB334_337:=nb (by exact BK334.out) hg;replace BK334:=am (bw (by exact BK334.out) hb);have NB337_334:=am (Ne.symm NB334_337.out);have NB335_337:=nb (by exact BK335.out) hg;replace BK335:=am (bw (by exact BK335.out) hb);have NB337_335:=am (Ne.symm NB335_337.out);have NB336_337:=nb (by exact BK336.out) hg;have NB337_336:=ng (by exact BK336.out) hg;replace BK336:=am (bw (by exact BK336.out) hb);clear hb hbox hg)|((with_reducible refine gate_dst (N:=10) rfl ?_);refine box_event ?hg (N:=10) ?hd (cs:=#[.int .i64 0,.int .i64 0,.int .i64 0,.int .i64 0]) (t:=23) ?hr ?_;(case hd => rfl);(case hg => rfl);(case hr => first|(go_simp;done)|(go_simp;rfl));intro gb338 hg w157 hbox hb;have BK338:=am (hbox);obtain ⟨h1_,GW338⟩:=sg (by repeat (first|(with_reducible first|exact HB.out|apply sa|apply sn|apply sd|refine sy ?_ (by assumption))|exact HB.out)) hb hg;replace HB:=h1_;clear h1_;have GE338:=GW338;have NB334_338:=nb (by exact BK334.out) hg;replace BK334:=am (bw (by exact BK334.out) hb);have NB338_334:=am (Ne.symm NB334_338.out);have NB335_338:=nb (by exact BK335.out) hg;replace BK335:=am (bw (by exact BK335.out) hb);have NB338_335:=am (Ne.symm NB335_338.out);have NB336_338:=nb (by exact BK336.out) hg;replace BK336:=am (bw (by exact BK336.out) hb);have NB338_336:=am (Ne.symm NB336_338.out);have NB337_338:=nb (by exact BK337.out) hg;have NB338_337:=ng (by exact BK337.out) hg;replace BK337:=am (bw (by exact BK337.out) hb);clear hb hbox hg;have hnb158:=NB334_335.out;have hnc158:=NB335_334.out;have hnb159:=NB334_336.out;have hnc159:=NB336_334.out;have hnb160:=NB334_337.out;have hnc160:=NB337_334.out;have hnb161:=NB334_338.out;have hnc161:=NB338_334.out;obtain ⟨hcz162_0,hcz162_1,hcz162_2,hcz162_3,hcz162_4,hcz162_5,hcz162_6,hcz162_7,hcz162_8,hcz162_9,hcz162_10,hcz162_11,hcz162_12,hcz162_13⟩:=cq14 BK334.out;obtain ⟨hfz162_0,hfz162_1,hfz162_2,hfz162_3,hfz162_4,hfz162_5,hfz162_6,hfz162_7,hfz162_8,hfz162_9,hfz162_10,hfz162_11,hfz162_12,hfz162_13⟩:=fq14 BK334.out)|((with_reducible refine gate_callee (f:=28) rfl ?_);refine goesL_ (some 18) rfl rfl Try.func28 (by kernel_rfl) rfl #[.agg #[.int .i64 a0_0,.int .i64 a0_1,.int .i64 a0_2,.int .i64 a0_3,.int .i64 a0_4,.int .i64 a0_5,.int .i64 a0_6,.int .i64 a0_7,.int .i64 a0_8,.int .i64 a0_9,.int .i64 a0_10,.int .i64 a0_11,.slice A0_12 l0_12.length c0_12,.int .i64 a0_13]] rfl (by (try simp only [List.map_toArray,List.map_cons,List.map_nil]);first|done|rfl|(simp only [List.length_drop,List.length_take];rfl)) ?_;(with_reducible refine (style_RightFill.calls k a0_0 a0_1 a0_2 a0_3 a0_4 a0_5 a0_6 a0_7 a0_8 a0_9 a0_10 a0_11 _ _ l0_12 a0_13 true _ ?side1 ?side2 A6.out).mono ?_);(case side1 => repeat (first|exact (Kd.C_below HR0_12.out HB.out)|(with_reducible refine Kd.C_alloc ?_ _)|(with_reducible refine Kd.C_drewN ?_ _)|(with_reducible refine Kd.C_drew ?_)));(case side2 => exact HC0_12.out);rintro e w163 ⟨rfl,hb⟩;refine ⟨_,rfl,?_⟩;replace BK334:=am (bw (by exact BK334.out) hb);replace BK335:=am (bw (by exact BK335.out) hb);replace BK336:=am (bw (by exact BK336.out) hb);replace BK337:=am (bw (by exact BK337.out) hb);replace BK338:=am (bw (by exact BK338.out) hb);replace HB:=am (ss (by repeat (first|(with_reducible first|exact HB.out|apply sa|apply sn|apply sd|refine sy ?_ (by assumption))|exact HB.out)) hb);(try clear hb);(try clear hb2);(try clear hk);(try clear hi);obtain ⟨hcz164_0,hcz164_1,hcz164_2,hcz164_3,hcz164_4,hcz164_5,hcz164_6,hcz164_7,hcz164_8,hcz164_9,hcz164_10,hcz164_11,hcz164_12,hcz164_13⟩:=cq14 BK334.out;obtain ⟨hfz164_0,hfz164_1,hfz164_2,hfz164_3,hfz164_4,hfz164_5,hfz164_6,hfz164_7,hfz164_8,hfz164_9,hfz164_10,hfz164_11,hfz164_12,hfz164_13⟩:=fq14 BK334.out;have hnb165:=NB335_336.out;have hnc165:=NB336_335.out;have hnb166:=NB335_337.out;have hnc166:=NB337_335.out;have hnb167:=NB335_338.out;have hnc167:=NB338_335.out;obtain ⟨hcz168_0,hcz168_1,hcz168_2,hcz168_3,hcz168_4,hcz168_5⟩:=cq6 BK335.out;obtain ⟨hfz168_0,hfz168_1,hfz168_2,hfz168_3,hfz168_4,hfz168_5⟩:=fq6 BK335.out)|((with_reducible refine gate_callee (f:=30) rfl ?_);refine goesL_ (some 33) rfl rfl Try.func30 (by kernel_rfl) rfl #[.agg #[.int .i64 a1_0,.int .i64 a1_1,.int .i64 a1_2,.int .i64 a1_3,.int .i64 a1_4,.int .i64 a1_5],.agg #[.int .i64 a0_5,.int .i64 a0_6,.int .i64 a0_7,.int .i64 a0_8,.int .i64 a0_9,.int .i64 a0_10]] rfl (by (try simp only [List.map_toArray,List.map_cons,List.map_nil]);first|done|rfl|(simp only [List.length_drop,List.length_take];rfl)) ?_;(with_reducible refine (affine_Compose.calls k a1_0 a1_1 a1_2 a1_3 a1_4 a1_5 a0_5 a0_6 a0_7 a0_8 a0_9 a0_10 t348 t349 t350 t351 t352 t353 t354 _ A32.out).mono ?_);rintro e w169 ⟨rfl,hb⟩;refine ⟨_,rfl,?_⟩;replace BK334:=am (bw (by exact BK334.out) hb);replace BK335:=am (bw (by exact BK335.out) hb);replace BK336:=am (bw (by exact BK336.out) hb);replace BK337:=am (bw (by exact BK337.out) hb);replace BK338:=am (bw (by exact BK338.out) hb);replace HB:=am (ss (by repeat (first|(with_reducible first|exact HB.out|apply sa|apply sn|apply sd|refine sy ?_ (by assumption))|exact HB.out)) hb);(try clear hb);(try clear hb2);(try clear hk);(try clear hi))|((with_reducible refine gate_dst (N:=11) rfl ?_);refine box_event ?hg (N:=11) ?hd (cs:=#[.int .i64 0,.int .i64 0,.int .i64 0,.int .i64 0,.int .i64 0,.int .i64 0]) (t:=28) ?hr ?_;(case hd => rfl);(case hg => rfl);(case hr => first|(go_simp;done)|(go_simp;rfl));intro gb355 hg w170 hbox hb;have BK355:=am (hbox);obtain ⟨h1_,GW355⟩:=sg (by repeat (first|(with_reducible first|exact HB.out|apply sa|apply sn|apply sd|refine sy ?_ (by assumption))|exact HB.out)) hb hg;replace HB:=h1_;clear h1_;have GE355:=GW355;have NB334_355:=nb (by exact BK334.out) hg;replace BK334:=am (bw (by exact BK334.out) hb);have NB355_334:=am (Ne.symm NB334_355.out);have NB335_355:=nb (by exact BK335.out) hg;replace BK335:=am (bw (by exact BK335.out) hb);have NB355_335:=am (Ne.symm NB335_355.out);have NB336_355:=nb (by exact BK336.out) hg;replace BK336:=am (bw (by exact BK336.out) hb);have NB355_336:=am (Ne.symm NB336_355.out);have NB337_355:=nb (by exact BK337.out) hg;replace BK337:=am (bw (by exact BK337.out) hb);have NB355_337:=am (Ne.symm NB337_355.out);have NB338_355:=nb (by exact BK338.out) hg;have NB355_338:=ng (by exact BK338.out) hg;replace BK338:=am (bw (by exact BK338.out) hb);clear hb hbox hg;have hnb171:=NB355_334.out;have hnc171:=NB334_355.out;have hnb172:=NB355_335.out;have hnc172:=NB335_355.out;have hnb173:=NB355_336.out;have hnc173:=NB336_355.out;have hnb174:=NB355_337.out;have hnc174:=NB337_355.out;have hnb175:=NB355_338.out;have hnc175:=NB338_355.out;obtain ⟨hcz176_0,hcz176_1,hcz176_2,hcz176_3,hcz176_4,hcz176_5⟩:=cq6 BK355.out;obtain ⟨hfz176_0,hfz176_1,hfz176_2,hfz176_3,hfz176_4,hfz176_5⟩:=fq6 BK355.out;have hnb177:=NB337_336.out;have hnc177:=NB336_337.out;have hnb178:=NB337_338.out;have hnc178:=NB338_337.out;obtain ⟨hcz179_0,hcz179_1⟩:=cq2 BK337.out;obtain ⟨hfz179_0,hfz179_1⟩:=fq2 BK337.out)|((with_reducible refine gate_callee (f:=31) rfl ?_);refine goesL_ (some 42) rfl rfl Try.func31 (by kernel_rfl) rfl #[.agg #[.int .i64 t348,.int .i64 t349,.int .i64 t350,.int .i64 t351,.int .i64 t352,.int .i64 t353],.agg #[.int .i64 a4_0,.int .i64 a4_1]] rfl (by (try simp only [List.map_toArray,List.map_cons,List.map_nil]);first|done|rfl|(simp only [List.length_drop,List.length_take];rfl)) ?_;(with_reducible refine (affine_Back.calls k t348 t349 t350 t351 t352 t353 a4_0 a4_1 t356 t357 false _ A34.out).mono ?_);rintro e w180 ⟨rfl,hb⟩;refine ⟨_,rfl,?_⟩;replace BK334:=am (wz BK334.out (by (with_reducible repeat (first|refine bn ?_ _|refine bd ?_|refine ba ?_ _|refine bf ?_ NB334_355.out _));exact BK334.out) hb);replace BK335:=am (wz BK335.out (by (with_reducible repeat (first|refine bn ?_ _|refine bd ?_|refine ba ?_ _|refine bf ?_ NB335_355.out _));exact BK335.out) hb);replace BK336:=am (wz BK336.out (by (with_reducible repeat (first|refine bn ?_ _|refine bd ?_|refine ba ?_ _|refine bf ?_ NB336_355.out _));exact BK336.out) hb);replace BK337:=am (wz BK337.out (by (with_reducible repeat (first|refine bn ?_ _|refine bd ?_|refine ba ?_ _|refine bf ?_ NB337_355.out _));exact BK337.out) hb);replace BK338:=am (wz BK338.out (by (with_reducible repeat (first|refine bn ?_ _|refine bd ?_|refine ba ?_ _|refine bf ?_ NB338_355.out _));exact BK338.out) hb);replace BK355:=am (bw (g:=gb355) (o:=.cells #[.int .i64 t348,.int .i64 t349,.int .i64 t350,.int .i64 t351,.int .i64 t352,.int .i64 t353] 28 (0,0)) (bp (bp (bp (bp (bp (bp BK355.out 0 _ rfl) 1 _ rfl) 2 _ rfl) 3 _ rfl) 4 _ rfl) 5 _ rfl) hb);replace HB:=am (ss (by repeat (first|(with_reducible first|exact HB.out|apply sa|apply sn|apply sd|refine sy ?_ (by assumption))|exact HB.out)) hb);(try clear hb);(try clear hb2);(try clear hk);(try clear hi))|((with_reducible refine gate_dst (N:=13) rfl ?_);refine box_event ?hg (N:=13) ?hd (cs:=#[.int .i64 0,.int .i64 0]) (t:=37) ?hr ?_;(case hd => rfl);(case hg => rfl);(case hr => first|(go_simp;done)|(go_simp;rfl));intro gb359 hg w181 hbox hb;have BK359:=am (hbox);obtain ⟨h1_,GW359⟩:=sg (by repeat (first|(with_reducible first|exact HB.out|apply sa|apply sn|apply sd|refine sy ?_ (by assumption))|exact HB.out)) hb hg;replace HB:=h1_;clear h1_;have GE359:=GW359;have NB334_359:=nb (by exact BK334.out) hg;replace BK334:=am (bw (by exact BK334.out) hb);have NB359_334:=am (Ne.symm NB334_359.out);have NB335_359:=nb (by exact BK335.out) hg;replace BK335:=am (bw (by exact BK335.out) hb);have NB359_335:=am (Ne.symm NB335_359.out);have NB336_359:=nb (by exact BK336.out) hg;replace BK336:=am (bw (by exact BK336.out) hb);have NB359_336:=am (Ne.symm NB336_359.out);have NB337_359:=nb (by exact BK337.out) hg;replace BK337:=am (bw (by exact BK337.out) hb);have NB359_337:=am (Ne.symm NB337_359.out);have NB338_359:=nb (by exact BK338.out) hg;replace BK338:=am (bw (by exact BK338.out) hb);have NB359_338:=am (Ne.symm NB338_359.out);have NB355_359:=nb (by exact BK355.out) hg;have NB359_355:=ng (by exact BK355.out) hg;replace BK355:=am (bw (by exact BK355.out) hb);clear hb hbox hg;have hnb182:=NB359_334.out;have hnc182:=NB334_359.out;have hnb183:=NB359_335.out;have hnc183:=NB335_359.out;have hnb184:=NB359_336.out;have hnc184:=NB336_359.out;have hnb185:=NB359_337.out;have hnc185:=NB337_359.out;have hnb186:=NB359_338.out;have hnc186:=NB338_359.out;have hnb187:=NB359_355.out;have hnc187:=NB355_359.out;obtain ⟨hcz188_0,hcz188_1⟩:=cq2 BK359.out;obtain ⟨hfz188_0,hfz188_1⟩:=fq2 BK359.out;have hnb189:=NB338_336.out;have hnc189:=NB336_338.out;obtain ⟨hcz190_0,hcz190_1,hcz190_2,hcz190_3⟩:=cq4 BK338.out;obtain ⟨hfz190_0,hfz190_1,hfz190_2,hfz190_3⟩:=fq4 BK338.out))
          refine bodyPost_ret (results_cell_row rfl _ _ gb338 23 #[.int .i64 0,.int .i64 0,.int .i64 0,.int .i64 0] (0,0) _ rfl (by (with_reducible repeat (first|refine bn ?_ _|refine bd ?_|refine ba ?_ _));refine bp (cs:=#[.int .i64 0,.int .i64 0,.int .i64 0,.int .i64 0]) ?_ 3 _ rfl;(with_reducible repeat (first|refine bn ?_ _|refine bd ?_|refine ba ?_ _));refine bp (cs:=#[.int .i64 0,.int .i64 0,.int .i64 0,.int .i64 0]) ?_ 2 _ rfl;(with_reducible repeat (first|refine bn ?_ _|refine bd ?_|refine ba ?_ _));refine bp (cs:=#[.int .i64 0,.int .i64 0,.int .i64 0,.int .i64 0]) ?_ 1 _ rfl;(with_reducible repeat (first|refine bn ?_ _|refine bd ?_|refine ba ?_ _));refine bp (cs:=#[.int .i64 0,.int .i64 0,.int .i64 0,.int .i64 0]) ?_ 0 _ rfl;(with_reducible repeat (first|refine bn ?_ _|refine bd ?_|refine ba ?_ _));refine bf ?_ NB338_359.out _;(with_reducible repeat (first|refine bn ?_ _|refine bd ?_|refine ba ?_ _));refine bf ?_ NB338_359.out _;(with_reducible repeat (first|refine bn ?_ _|refine bd ?_|refine ba ?_ _));exact BK338.out) Try.underlying23 rfl (by kernel_rfl)) rfl ?_
          exact ⟨by first|rfl|(simp [errW_none,errW_some] <;> rfl)|(simp [*,errW_none,errW_some] <;> rfl),by repeat (first|(with_reducible first|exact HB.out|apply sa|apply sn|apply sd|refine sy ?_ (by assumption))|exact HB.out)⟩
      · rw [if_neg c33] at H
        have c33b0 : (t354 == 0) = false:=beq_eq_false_iff_ne.mpr c33;have c33b1 : (t354 != 0) = true:=bne_iff_ne.mpr c33;simp only [Option.some.injEq,Prod.mk.injEq] at H;obtain ⟨rfl,rfl,rfl,rfl⟩:=H
        go_enter Try.func20,Try.ntmps20
        go_wp2_with (first|((with_reducible refine gate_dst (N:=5) rfl ?_);refine box_event ?hg (N:=5) ?hd (cs:=#[.int .i64 a0_0,.int .i64 a0_1,.int .i64 a0_2,.int .i64 a0_3,.int .i64 a0_4,.int .i64 a0_5,.int .i64 a0_6,.int .i64 a0_7,.int .i64 a0_8,.int .i64 a0_9,.int .i64 a0_10,.int .i64 a0_11,.slice A0_12 l0_12.length c0_12,.int .i64 a0_13]) (t:=31) ?hr ?_;(case hd => rfl);(case hg => rfl);(case hr => first|(go_simp;done)|(go_simp;rfl));intro gb334 hg w191 hbox hb;have BK334:=am (hbox);have GW334:=am ((by rw [hg];exact (sz (by repeat (first|(with_reducible first|exact HB.out|apply sa|apply sn|apply sd)|exact HB.out))) : w.heap.size ≤ gb334));have GE334:=am ((by rw [hg];exact (sz (by repeat (first|(with_reducible first|exact HB.out|apply sa|apply sn|apply sd)|exact HB.out))) : w.heap.size ≤ gb334));replace HB:=am (ss (by repeat (first|(with_reducible first|exact HB.out|apply sa|apply sn|apply sd)|exact HB.out)) hb);clear hb hbox hg)|((with_reducible refine gate_dst (N:=6) rfl ?_);refine box_event ?hg (N:=6) ?hd (cs:=#[.int .i64 a1_0,.int .i64 a1_1,.int .i64 a1_2,.int .i64 a1_3,.int .i64 a1_4,.int .i64 a1_5]) (t:=28) ?hr ?_;(case hd => rfl);(case hg => rfl);(case hr => first|(go_simp;done)|(go_simp;rfl));intro gb335 hg w192 hbox hb;have BK335:=am (hbox);obtain ⟨h1_,GW335⟩:=sg (by repeat (first|(with_reducible first|exact HB.out|apply sa|apply sn|apply sd|refine sx ?_ GE334.out)|exact HB.out)) hb hg;replace HB:=h1_;clear h1_;have GE335:=GW335;have NB334_335:=nb (by exact BK334.out) hg;have NB335_334:=ng (by exact BK334.out) hg;replace BK334:=am (bw (by exact BK334.out) hb);clear hb hbox hg)|((with_reducible refine gate_dst (N:=7) rfl ?_);refine box_event ?hg (N:=7) ?hd (cs:=#[.int .i64 a2_0,.int .i64 a2_1,.int .i64 a2_2,.int .i64 a2_3,.int .i64 a2_4,.int .i64 a2_5,.int .i64 a2_6,.int .i64 a2_7]) (t:=34) ?hr ?_;(case hd => rfl);(case hg => rfl);(case hr => first|(go_simp;done)|(go_simp;rfl));intro gb336 hg w193 hbox hb;have BK336:=am (hbox);obtain ⟨h1_,GW336⟩:=sg (by repeat (first|(with_reducible first|exact HB.out|apply sa|apply sn|apply sd|refine sy ?_ (by assumption))|exact HB.out)) hb hg;replace HB:=h1_;clear h1_;have GE336:=GW336;have NB334_336:=nb (by exact BK334.out) hg;replace BK334:=am (bw (by exact BK334.out) hb);have NB336_334:=am (Ne.symm NB334_336.out);have NB335_336:=nb (by exact BK335.out) hg;have NB336_335:=ng (by exact BK335.out) hg;replace BK335:=am (bw (by exact BK335.out) hb);clear hb hbox hg)|((with_reducible refine gate_dst (N:=9) rfl ?_);refine box_event ?hg (N:=9) ?hd (cs:=#[.int .i64 a4_0,.int .i64 a4_1]) (t:=37) ?hr ?_;(case hd => rfl);(case hg => rfl);(case hr => first|(go_simp;done)|(go_simp;rfl));intro gb337 hg w194 hbox hb;have BK337:=am (hbox);obtain ⟨h1_,GW337⟩:=sg (by repeat (first|(with_reducible first|exact HB.out|apply sa|apply sn|apply sd|refine sy ?_ (by assumption))|exact HB.out)) hb hg;replace HB:=h1_;clear h1_;have GE337:=GW337;have NB334_337:=nb (by exact BK334.out) hg;replace BK334:=am (bw (by exact BK334.out) hb);have NB337_334:=am (Ne.symm NB334_337.out);have NB335_337:=nb (by exact BK335.out) hg;replace BK335:=am (bw (by exact BK335.out) hb);have NB337_335:=am (Ne.symm NB335_337.out);have NB336_337:=nb (by exact BK336.out) hg;have NB337_336:=ng (by exact BK336.out) hg;replace BK336:=am (bw (by exact BK336.out) hb);clear hb hbox hg)|((with_reducible refine gate_dst (N:=10) rfl ?_);refine box_event ?hg (N:=10) ?hd (cs:=#[.int .i64 0,.int .i64 0,.int .i64 0,.int .i64 0]) (t:=23) ?hr ?_;(case hd => rfl);(case hg => rfl);(case hr => first|(go_simp;done)|(go_simp;rfl));intro gb338 hg w195 hbox hb;have BK338:=am (hbox);obtain ⟨h1_,GW338⟩:=sg (by repeat (first|(with_reducible first|exact HB.out|apply sa|apply sn|apply sd|refine sy ?_ (by assumption))|exact HB.out)) hb hg;replace HB:=h1_;clear h1_;have GE338:=GW338;have NB334_338:=nb (by exact BK334.out) hg;replace BK334:=am (bw (by exact BK334.out) hb);have NB338_334:=am (Ne.symm NB334_338.out);have NB335_338:=nb (by exact BK335.out) hg;replace BK335:=am (bw (by exact BK335.out) hb);have NB338_335:=am (Ne.symm NB335_338.out);have NB336_338:=nb (by exact BK336.out) hg;replace BK336:=am (bw (by exact BK336.out) hb);have NB338_336:=am (Ne.symm NB336_338.out);have NB337_338:=nb (by exact BK337.out) hg;have NB338_337:=ng (by exact BK337.out) hg;replace BK337:=am (bw (by exact BK337.out) hb);clear hb hbox hg;have hnb196:=NB334_335.out;have hnc196:=NB335_334.out;have hnb197:=NB334_336.out;have hnc197:=NB336_334.out;have hnb198:=NB334_337.out;have hnc198:=NB337_334.out;have hnb199:=NB334_338.out;have hnc199:=NB338_334.out;obtain ⟨hcz200_0,hcz200_1,hcz200_2,hcz200_3,hcz200_4,hcz200_5,hcz200_6,hcz200_7,hcz200_8,hcz200_9,hcz200_10,hcz200_11,hcz200_12,hcz200_13⟩:=cq14 BK334.out;obtain ⟨hfz200_0,hfz200_1,hfz200_2,hfz200_3,hfz200_4,hfz200_5,hfz200_6,hfz200_7,hfz200_8,hfz200_9,hfz200_10,hfz200_11,hfz200_12,hfz200_13⟩:=fq14 BK334.out)|((with_reducible refine gate_callee (f:=28) rfl ?_);refine goesL_ (some 18) rfl rfl Try.func28 (by kernel_rfl) rfl #[.agg #[.int .i64 a0_0,.int .i64 a0_1,.int .i64 a0_2,.int .i64 a0_3,.int .i64 a0_4,.int .i64 a0_5,.int .i64 a0_6,.int .i64 a0_7,.int .i64 a0_8,.int .i64 a0_9,.int .i64 a0_10,.int .i64 a0_11,.slice A0_12 l0_12.length c0_12,.int .i64 a0_13]] rfl (by (try simp only [List.map_toArray,List.map_cons,List.map_nil]);first|done|rfl|(simp only [List.length_drop,List.length_take];rfl)) ?_;(with_reducible refine (style_RightFill.calls k a0_0 a0_1 a0_2 a0_3 a0_4 a0_5 a0_6 a0_7 a0_8 a0_9 a0_10 a0_11 _ _ l0_12 a0_13 true _ ?side1 ?side2 A6.out).mono ?_);(case side1 => repeat (first|exact (Kd.C_below HR0_12.out HB.out)|(with_reducible refine Kd.C_alloc ?_ _)|(with_reducible refine Kd.C_drewN ?_ _)|(with_reducible refine Kd.C_drew ?_)));(case side2 => exact HC0_12.out);rintro e w201 ⟨rfl,hb⟩;refine ⟨_,rfl,?_⟩;replace BK334:=am (bw (by exact BK334.out) hb);replace BK335:=am (bw (by exact BK335.out) hb);replace BK336:=am (bw (by exact BK336.out) hb);replace BK337:=am (bw (by exact BK337.out) hb);replace BK338:=am (bw (by exact BK338.out) hb);replace HB:=am (ss (by repeat (first|(with_reducible first|exact HB.out|apply sa|apply sn|apply sd|refine sy ?_ (by assumption))|exact HB.out)) hb);(try clear hb);(try clear hb2);(try clear hk);(try clear hi);obtain ⟨hcz202_0,hcz202_1,hcz202_2,hcz202_3,hcz202_4,hcz202_5,hcz202_6,hcz202_7,hcz202_8,hcz202_9,hcz202_10,hcz202_11,hcz202_12,hcz202_13⟩:=cq14 BK334.out;obtain ⟨hfz202_0,hfz202_1,hfz202_2,hfz202_3,hfz202_4,hfz202_5,hfz202_6,hfz202_7,hfz202_8,hfz202_9,hfz202_10,hfz202_11,hfz202_12,hfz202_13⟩:=fq14 BK334.out;have hnb203:=NB335_336.out;have hnc203:=NB336_335.out;have hnb204:=NB335_337.out;have hnc204:=NB337_335.out;have hnb205:=NB335_338.out;have hnc205:=NB338_335.out;obtain ⟨hcz206_0,hcz206_1,hcz206_2,hcz206_3,hcz206_4,hcz206_5⟩:=cq6 BK335.out;obtain ⟨hfz206_0,hfz206_1,hfz206_2,hfz206_3,hfz206_4,hfz206_5⟩:=fq6 BK335.out)|((with_reducible refine gate_callee (f:=30) rfl ?_);refine goesL_ (some 33) rfl rfl Try.func30 (by kernel_rfl) rfl #[.agg #[.int .i64 a1_0,.int .i64 a1_1,.int .i64 a1_2,.int .i64 a1_3,.int .i64 a1_4,.int .i64 a1_5],.agg #[.int .i64 a0_5,.int .i64 a0_6,.int .i64 a0_7,.int .i64 a0_8,.int .i64 a0_9,.int .i64 a0_10]] rfl (by (try simp only [List.map_toArray,List.map_cons,List.map_nil]);first|done|rfl|(simp only [List.length_drop,List.length_take];rfl)) ?_;(with_reducible refine (affine_Compose.calls k a1_0 a1_1 a1_2 a1_3 a1_4 a1_5 a0_5 a0_6 a0_7 a0_8 a0_9 a0_10 t348 t349 t350 t351 t352 t353 t354 _ A32.out).mono ?_);rintro e w207 ⟨rfl,hb⟩;refine ⟨_,rfl,?_⟩;replace BK334:=am (bw (by exact BK334.out) hb);replace BK335:=am (bw (by exact BK335.out) hb);replace BK336:=am (bw (by exact BK336.out) hb);replace BK337:=am (bw (by exact BK337.out) hb);replace BK338:=am (bw (by exact BK338.out) hb);replace HB:=am (ss (by repeat (first|(with_reducible first|exact HB.out|apply sa|apply sn|apply sd|refine sy ?_ (by assumption))|exact HB.out)) hb);(try clear hb);(try clear hb2);(try clear hk);(try clear hi))|((with_reducible refine gate_dst (N:=11) rfl ?_);refine box_event ?hg (N:=11) ?hd (cs:=#[.int .i64 0,.int .i64 0,.int .i64 0,.int .i64 0,.int .i64 0,.int .i64 0]) (t:=28) ?hr ?_;(case hd => rfl);(case hg => rfl);(case hr => first|(go_simp;done)|(go_simp;rfl));intro gb355 hg w208 hbox hb;have BK355:=am (hbox);obtain ⟨h1_,GW355⟩:=sg (by repeat (first|(with_reducible first|exact HB.out|apply sa|apply sn|apply sd|refine sy ?_ (by assumption))|exact HB.out)) hb hg;replace HB:=h1_;clear h1_;have GE355:=GW355;have NB334_355:=nb (by exact BK334.out) hg;replace BK334:=am (bw (by exact BK334.out) hb);have NB355_334:=am (Ne.symm NB334_355.out);have NB335_355:=nb (by exact BK335.out) hg;replace BK335:=am (bw (by exact BK335.out) hb);have NB355_335:=am (Ne.symm NB335_355.out);have NB336_355:=nb (by exact BK336.out) hg;replace BK336:=am (bw (by exact BK336.out) hb);have NB355_336:=am (Ne.symm NB336_355.out);have NB337_355:=nb (by exact BK337.out) hg;replace BK337:=am (bw (by exact BK337.out) hb);have NB355_337:=am (Ne.symm NB337_355.out);have NB338_355:=nb (by exact BK338.out) hg;have NB355_338:=ng (by exact BK338.out) hg;replace BK338:=am (bw (by exact BK338.out) hb);clear hb hbox hg;have hnb209:=NB355_334.out;have hnc209:=NB334_355.out;have hnb210:=NB355_335.out;have hnc210:=NB335_355.out;have hnb211:=NB355_336.out;have hnc211:=NB336_355.out;have hnb212:=NB355_337.out;have hnc212:=NB337_355.out;have hnb213:=NB355_338.out;have hnc213:=NB338_355.out;obtain ⟨hcz214_0,hcz214_1,hcz214_2,hcz214_3,hcz214_4,hcz214_5⟩:=cq6 BK355.out;obtain ⟨hfz214_0,hfz214_1,hfz214_2,hfz214_3,hfz214_4,hfz214_5⟩:=fq6 BK355.out;have hnb215:=NB338_336.out;have hnc215:=NB336_338.out;have hnb216:=NB338_337.out;have hnc216:=NB337_338.out;obtain ⟨hcz217_0,hcz217_1,hcz217_2,hcz217_3⟩:=cq4 BK338.out;obtain ⟨hfz217_0,hfz217_1,hfz217_2,hfz217_3⟩:=fq4 BK338.out))
        refine bodyPost_ret (results_cell_row rfl _ _ gb338 23 #[.int .i64 0,.int .i64 0,.int .i64 0,.int .i64 0] (0,0) _ rfl (by (with_reducible repeat (first|refine bn ?_ _|refine bd ?_|refine ba ?_ _));refine bp (cs:=#[.int .i64 0,.int .i64 0,.int .i64 0,.int .i64 0]) ?_ 3 _ rfl;(with_reducible repeat (first|refine bn ?_ _|refine bd ?_|refine ba ?_ _));refine bp (cs:=#[.int .i64 0,.int .i64 0,.int .i64 0,.int .i64 0]) ?_ 2 _ rfl;(with_reducible repeat (first|refine bn ?_ _|refine bd ?_|refine ba ?_ _));refine bp (cs:=#[.int .i64 0,.int .i64 0,.int .i64 0,.int .i64 0]) ?_ 1 _ rfl;(with_reducible repeat (first|refine bn ?_ _|refine bd ?_|refine ba ?_ _));refine bp (cs:=#[.int .i64 0,.int .i64 0,.int .i64 0,.int .i64 0]) ?_ 0 _ rfl;(with_reducible repeat (first|refine bn ?_ _|refine bd ?_|refine ba ?_ _));refine bf ?_ NB338_355.out _;(with_reducible repeat (first|refine bn ?_ _|refine bd ?_|refine ba ?_ _));refine bf ?_ NB338_355.out _;(with_reducible repeat (first|refine bn ?_ _|refine bd ?_|refine ba ?_ _));refine bf ?_ NB338_355.out _;(with_reducible repeat (first|refine bn ?_ _|refine bd ?_|refine ba ?_ _));refine bf ?_ NB338_355.out _;(with_reducible repeat (first|refine bn ?_ _|refine bd ?_|refine ba ?_ _));refine bf ?_ NB338_355.out _;(with_reducible repeat (first|refine bn ?_ _|refine bd ?_|refine ba ?_ _));refine bf ?_ NB338_355.out _;(with_reducible repeat (first|refine bn ?_ _|refine bd ?_|refine ba ?_ _));exact BK338.out) Try.underlying23 rfl (by kernel_rfl)) rfl ?_
        exact ⟨by first|rfl|(simp [errW_none,errW_some] <;> rfl)|(simp [*,errW_none,errW_some] <;> rfl),by repeat (first|(with_reducible first|exact HB.out|apply sa|apply sn|apply sd|refine sy ?_ (by assumption))|exact HB.out)⟩
  · replace c7:=Bool.eq_false_iff.mpr c7
    subst c7
    have H1 : (some (0,0,0,0)) = some (r1,r2,r3,r4):=by rw [if_neg (show ¬ (false = true) by decide)] at H;exact H
    clear H;have H:=H1;clear H1;simp only [Option.some.injEq,Prod.mk.injEq] at H;obtain ⟨rfl,rfl,rfl,rfl⟩:=H
    go_enter Try.func20,Try.ntmps20
    go_wp2_with (first|((with_reducible refine gate_dst (N:=5) rfl ?_);refine box_event ?hg (N:=5) ?hd (cs:=#[.int .i64 a0_0,.int .i64 a0_1,.int .i64 a0_2,.int .i64 a0_3,.int .i64 a0_4,.int .i64 a0_5,.int .i64 a0_6,.int .i64 a0_7,.int .i64 a0_8,.int .i64 a0_9,.int .i64 a0_10,.int .i64 a0_11,.slice A0_12 l0_12.length c0_12,.int .i64 a0_13]) (t:=31) ?hr ?_;(case hd => rfl);(case hg => rfl);(case hr => first|(go_simp;done)|(go_simp;rfl));intro gb334 hg w218 hbox hb;have BK334:=am (hbox);have GW334:=am ((by rw [hg];exact (sz (by repeat (first|(with_reducible first|exact HB.out|apply sa|apply sn|apply sd)|exact HB.out))) : w.heap.size ≤ gb334));have GE334:=am ((by rw [hg];exact (sz (by repeat (first|(with_reducible first|exact HB.out|apply sa|apply sn|apply sd)|exact HB.out))) : w.heap.size ≤ gb334));replace HB:=am (ss (by repeat (first|(with_reducible first|exact HB.out|apply sa|apply sn|apply sd)|exact HB.out)) hb);clear hb hbox hg)|((with_reducible refine gate_dst (N:=6) rfl ?_);refine box_event ?hg (N:=6) ?hd (cs:=#[.int .i64 a1_0,.int .i64 a1_1,.int .i64 a1_2,.int .i64 a1_3,.int .i64 a1_4,.int .i64 a1_5]) (t:=28) ?hr ?_;(case hd => rfl);(case hg => rfl);(case hr => first|(go_simp;done)|(go_simp;rfl));intro gb335 hg w219 hbox hb;have BK335:=am (hbox);obtain ⟨h1_,GW335⟩:=sg (by repeat (first|(with_reducible first|exact HB.out|apply sa|apply sn|apply sd|refine sx ?_ GE334.out)|exact HB.out)) hb hg;replace HB:=h1_;clear h1_;have GE335:=GW335;have NB334_335:=nb (by exact BK334.out) hg;have NB335_334:=ng (by exact BK334.out) hg;replace BK334:=am (bw (by exact BK334.out) hb);clear hb hbox hg)|((with_reducible refine gate_dst (N:=7) rfl ?_);refine box_event ?hg (N:=7) ?hd (cs:=#[.int .i64 a2_0,.int .i64 a2_1,.int .i64 a2_2,.int .i64 a2_3,.int .i64 a2_4,.int .i64 a2_5,.int .i64 a2_6,.int .i64 a2_7]) (t:=34) ?hr ?_;(case hd => rfl);(case hg => rfl);(case hr => first|(go_simp;done)|(go_simp;rfl));intro gb336 hg w220 hbox hb;have BK336:=am (hbox);obtain ⟨h1_,GW336⟩:=sg (by repeat (first|(with_reducible first|exact HB.out|apply sa|apply sn|apply sd|refine sy ?_ (by assumption))|exact HB.out)) hb hg;replace HB:=h1_;clear h1_;have GE336:=GW336;have NB334_336:=nb (by exact BK334.out) hg;replace BK334:=am (bw (by exact BK334.out) hb);have NB336_334:=am (Ne.symm NB334_336.out);have NB335_336:=nb (by exact BK335.out) hg;have NB336_335:=ng (by exact BK335.out) hg;replace BK335:=am (bw (by exact BK335.out) hb);clear hb hbox hg)|((with_reducible refine gate_dst (N:=9) rfl ?_);refine box_event ?hg (N:=9) ?hd (cs:=#[.int .i64 a4_0,.int .i64 a4_1]) (t:=37) ?hr ?_;(case hd => rfl);(case hg => rfl);(case hr => first|(go_simp;done)|(go_simp;rfl));intro gb337 hg w221 hbox hb;have BK337:=am (hbox);obtain ⟨h1_,GW337⟩:=sg (by repeat (first|(with_reducible first|exact HB.out|apply sa|apply sn|apply sd|refine sy ?_ (by assumption))|exact HB.out)) hb hg;replace HB:=h1_;clear h1_;have GE337:=GW337;have NB334_337:=nb (by exact BK334.out) hg;replace BK334:=am (bw (by exact BK334.out) hb);have NB337_334:=am (Ne.symm NB334_337.out);have NB335_337:=nb (by exact BK335.out) hg;replace BK335:=am (bw (by exact BK335.out) hb);have NB337_335:=am (Ne.symm NB335_337.out);have NB336_337:=nb (by exact BK336.out) hg;have NB337_336:=ng (by exact BK336.out) hg;replace BK336:=am (bw (by exact BK336.out) hb);clear hb hbox hg)|((with_reducible refine gate_dst (N:=10) rfl ?_);refine box_event ?hg (N:=10) ?hd (cs:=#[.int .i64 0,.int .i64 0,.int .i64 0,.int .i64 0]) (t:=23) ?hr ?_;(case hd => rfl);(case hg => rfl);(case hr => first|(go_simp;done)|(go_simp;rfl));intro gb338 hg w222 hbox hb;have BK338:=am (hbox);obtain ⟨h1_,GW338⟩:=sg (by repeat (first|(with_reducible first|exact HB.out|apply sa|apply sn|apply sd|refine sy ?_ (by assumption))|exact HB.out)) hb hg;replace HB:=h1_;clear h1_;have GE338:=GW338;have NB334_338:=nb (by exact BK334.out) hg;replace BK334:=am (bw (by exact BK334.out) hb);have NB338_334:=am (Ne.symm NB334_338.out);have NB335_338:=nb (by exact BK335.out) hg;replace BK335:=am (bw (by exact BK335.out) hb);have NB338_335:=am (Ne.symm NB335_338.out);have NB336_338:=nb (by exact BK336.out) hg;replace BK336:=am (bw (by exact BK336.out) hb);have NB338_336:=am (Ne.symm NB336_338.out);have NB337_338:=nb (by exact BK337.out) hg;have NB338_337:=ng (by exact BK337.out) hg;replace BK337:=am (bw (by exact BK337.out) hb);clear hb hbox hg;have hnb223:=NB334_335.out;have hnc223:=NB335_334.out;have hnb224:=NB334_336.out;have hnc224:=NB336_334.out;have hnb225:=NB334_337.out;have hnc225:=NB337_334.out;have hnb226:=NB334_338.out;have hnc226:=NB338_334.out;obtain ⟨hcz227_0,hcz227_1,hcz227_2,hcz227_3,hcz227_4,hcz227_5,hcz227_6,hcz227_7,hcz227_8,hcz227_9,hcz227_10,hcz227_11,hcz227_12,hcz227_13⟩:=cq14 BK334.out;obtain ⟨hfz227_0,hfz227_1,hfz227_2,hfz227_3,hfz227_4,hfz227_5,hfz227_6,hfz227_7,hfz227_8,hfz227_9,hfz227_10,hfz227_11,hfz227_12,hfz227_13⟩:=fq14 BK334.out)|((with_reducible refine gate_callee (f:=28) rfl ?_);refine goesL_ (some 18) rfl rfl Try.func28 (by kernel_rfl) rfl #[.agg #[.int .i64 a0_0,.int .i64 a0_1,.int .i64 a0_2,.int .i64 a0_3,.int .i64 a0_4,.int .i64 a0_5,.int .i64 a0_6,.int .i64 a0_7,.int .i64 a0_8,.int .i64 a0_9,.int .i64 a0_10,.int .i64 a0_11,.slice A0_12 l0_12.length c0_12,.int .i64 a0_13]] rfl (by (try simp only [List.map_toArray,List.map_cons,List.map_nil]);first|done|rfl|(simp only [List.length_drop,List.length_take];rfl)) ?_;(with_reducible refine (style_RightFill.calls k a0_0 a0_1 a0_2 a0_3 a0_4 a0_5 a0_6 a0_7 a0_8 a0_9 a0_10 a0_11 _ _ l0_12 a0_13 false _ ?side1 ?side2 A6.out).mono ?_);(case side1 => repeat (first|exact (Kd.C_below HR0_12.out HB.out)|(with_reducible refine Kd.C_alloc ?_ _)|(with_reducible refine Kd.C_drewN ?_ _)|(with_reducible refine Kd.C_drew ?_)));(case side2 => exact HC0_12.out);rintro e w228 ⟨rfl,hb⟩;refine ⟨_,rfl,?_⟩;replace BK334:=am (bw (by exact BK334.out) hb);replace BK335:=am (bw (by exact BK335.out) hb);replace BK336:=am (bw (by exact BK336.out) hb);replace BK337:=am (bw (by exact BK337.out) hb);replace BK338:=am (bw (by exact BK338.out) hb);replace HB:=am (ss (by repeat (first|(with_reducible first|exact HB.out|apply sa|apply sn|apply sd|refine sy ?_ (by assumption))|exact HB.out)) hb);(try clear hb);(try clear hb2);(try clear hk);(try clear hi);have hnb229:=NB338_335.out;have hnc229:=NB335_338.out;have hnb230:=NB338_336.out;have hnc230:=NB336_338.out;have hnb231:=NB338_337.out;have hnc231:=NB337_338.out;obtain ⟨hcz232_0,hcz232_1,hcz232_2,hcz232_3⟩:=cq4 BK338.out;obtain ⟨hfz232_0,hfz232_1,hfz232_2,hfz232_3⟩:=fq4 BK338.out))
    refine bodyPost_ret (results_cell_row rfl _ _ gb338 23 #[.int .i64 0,.int .i64 0,.int .i64 0,.int .i64 0] (0,0) _ rfl (bp (bp (bp (bp BK338.out 0 _ rfl) 1 _ rfl) 2 _ rfl) 3 _ rfl) Try.underlying23 rfl (by kernel_rfl)) rfl ?_
    exact ⟨by first|rfl|(simp [errW_none,errW_some] <;> rfl)|(simp [*,errW_none,errW_some] <;> rfl),by repeat (first|(with_reducible first|exact HB.out|apply sa|apply sn|apply sd|refine sy ?_ (by assumption))|exact HB.out)⟩
end Go.Proofs.Ytmdfcinjmlagcaa.P
