/- Printed by printx.py (wip/tool) out of the translation: plain functions that tell what the program answers, and the proofs that the program comes to these answers, for all arguments of their kinds. Lean checks it. -/
import Derived.Test.YtaognlikgbcejaaShort
import Derived.Test.YtaognlikgbcejaaTwo
import Derived.Test.YtaognlikgbcejaaPx0
import Derived.Test.YtaognlikgbcejaaPx1
import Derived.Test.YtaognlikgbcejaaPx3
import Derived.Test.YtaognlikgbcejaaPx4
import Derived.Test.YtaognlikgbcejaaPx7
import Derived.Test.YtaognlikgbcejaaPx8
import Derived.Test.YtaognlikgbcejaaPx9
import Derived.Test.YtaognlikgbcejaaPx11
import Derived.Test.YtaognlikgbcejaaPx14
import Derived.Test.YtaognlikgbcejaaPx16
import Derived.Test.YtaognlikgbcejaaPx19
namespace Go.Proofs.Ytaognlikgbcejaa.P
open Go.RowKit Go.Proofs.YtaognlikgbcejaaW.PrintWords Go.Proofs.YtaognlikgbcejaaW.PrintLast Go.Proofs.YtaognlikgbcejaaW.PrintMore
attribute [local go_sem] max2_int min2_int max_two min_two max_three min_three max_four min_four max_five min_five max_six min_six   -- for this text's walks alone
set_option linter.unusedVariables false
set_option linter.unusedSimpArgs false

attribute [local go_sem high] eqA23 eqA41 eqA43
/-! ### celluloidlaw14_AffineSame: function 9 -/
mutual
def celluloidlaw14_AffineSame.j0 : Nat → Bool → Int → Int → Int → Int → Int → Int → Int → Int → Int → Int → Int → Int → Int → Int → Int → Int → Int → Int → Int → Int → Int → Int → Int → Int → Int → Int → Int → Int → Option (Bool)
  | 0,_,_,_,_,_,_,_,_,_,_,_,_,_,_,_,_,_,_,_,_,_,_,_,_,_,_,_,_,_ => none
  | k + 1,x49,x503000,x503001,x503002,x503003,x503004,x503005,x504000,x504001,x504002,x504003,x504004,x504005,x504006,x504007,x505000,x505001,x505002,x505003,x506000,x506001,x507000,x507001,x507002,x507003,x507004,x507005,x507006,x507007 => if x49 = true then (some false) else ((celluloidref07_Cx.f k x504000 x504001 x504002 x504003 x504004 x504005 x504006 x504007).bind fun t536 => (if t536 = true then ((affine_ComposeCx.f k x504000 x504001 x504002 x504003 x504004 x504005 x504006 x504007 x507000 x507001 x507002 x507003 x507004 x507005 x507006 x507007).bind fun bt537 => (if ((!(bt537.1 == x504000) || (!(bt537.2.1 == x504001) || (!(bt537.2.2.1 == x504002) || (!(bt537.2.2.2.1 == x504003))))) || ((!(bt537.2.2.2.2.1 == x504004) || (!(bt537.2.2.2.2.2.1 == x504005) || (!(bt537.2.2.2.2.2.2.1 == x504006) || (!(bt537.2.2.2.2.2.2.2 == x504007))))))) = true then (celluloidlaw14_AffineSame.j1 k true x503000 x503001 x503002 x503003 x503004 x503005 x505000 x505001 x505002 x505003 x506000 x506001 x507000 x507001 x507002 x507003 x507004 x507005 x507006 x507007) else ((affine_ComposeCx.f k x507000 x507001 x507002 x507003 x507004 x507005 x507006 x507007 x504000 x504001 x504002 x504003 x504004 x504005 x504006 x504007).bind fun bt545 => (celluloidlaw14_AffineSame.j1 k ((!(bt545.1 == x504000) || (!(bt545.2.1 == x504001) || (!(bt545.2.2.1 == x504002) || (!(bt545.2.2.2.1 == x504003))))) || ((!(bt545.2.2.2.2.1 == x504004) || (!(bt545.2.2.2.2.2.1 == x504005) || (!(bt545.2.2.2.2.2.2.1 == x504006) || (!(bt545.2.2.2.2.2.2.2 == x504007))))))) x503000 x503001 x503002 x503003 x503004 x503005 x505000 x505001 x505002 x505003 x506000 x506001 x507000 x507001 x507002 x507003 x507004 x507005 x507006 x507007)))) else (celluloidlaw14_AffineSame.j1 k false x503000 x503001 x503002 x503003 x503004 x503005 x505000 x505001 x505002 x505003 x506000 x506001 x507000 x507001 x507002 x507003 x507004 x507005 x507006 x507007)))
def celluloidlaw14_AffineSame.j1 : Nat → Bool → Int → Int → Int → Int → Int → Int → Int → Int → Int → Int → Int → Int → Int → Int → Int → Int → Int → Int → Int → Int → Option (Bool)
  | 0,_,_,_,_,_,_,_,_,_,_,_,_,_,_,_,_,_,_,_,_,_ => none
  | k + 1,x65,x503000,x503001,x503002,x503003,x503004,x503005,x505000,x505001,x505002,x505003,x506000,x506001,x507000,x507001,x507002,x507003,x507004,x507005,x507006,x507007 => if x65 = true then (some false) else ((celluloidref07_RGBA.f k x505000 x505001 x505002 x505003).bind fun t553 => (if t553 = true then ((affine_Color.f k x507000 x507001 x507002 x507003 x507004 x507005 x507006 x507007 x505000 x505001 x505002 x505003).bind fun bt554 => (celluloidlaw14_AffineSame.j2 k (!(bt554.1 == x505000) || (!(bt554.2.1 == x505001) || (!(bt554.2.2.1 == x505002) || (!(bt554.2.2.2 == x505003))))) x503000 x503001 x503002 x503003 x503004 x503005 x506000 x506001)) else (celluloidlaw14_AffineSame.j2 k false x503000 x503001 x503002 x503003 x503004 x503005 x506000 x506001)))
def celluloidlaw14_AffineSame.j2 : Nat → Bool → Int → Int → Int → Int → Int → Int → Int → Int → Option (Bool)
  | 0,_,_,_,_,_,_,_,_,_ => none
  | k + 1,x74,x503000,x503001,x503002,x503003,x503004,x503005,x506000,x506001 => if x74 = true then (some false) else ((affine_Grid.f k x503000 x503001 x503002 x503003 x503004 x503005 x506000 x506001).bind fun bt558 => (if bt558.2.2 = 0 then (if (Int.tmod bt558.1 2) = 0 then (if (Int.tmod bt558.2.1 2) = 0 then ((celluloidlaw14_awake.f k).bind fun t562 => (some t562)) else (some false)) else (some false)) else ((celluloidlaw14_awake.f k).bind fun t563 => (some t563))))
end
def celluloidlaw14_AffineSame.f (k : Nat) (a0_0 : Int) (a0_1 : Int) (a0_2 : Int) (a0_3 : Int) (a0_4 : Int) (a0_5 : Int) (a1_0 : Int) (a1_1 : Int) (a1_2 : Int) (a1_3 : Int) (a1_4 : Int) (a1_5 : Int) (a1_6 : Int) (a1_7 : Int) (a2_0 : Int) (a2_1 : Int) (a2_2 : Int) (a2_3 : Int) (a3_0 : Int) (a3_1 : Int) : Option (Bool):=(celluloidlaw14_same.f).bind fun bt507 => ((affine_Compose.f k a0_0 a0_1 a0_2 a0_3 a0_4 a0_5 bt507.1 bt507.2.1 bt507.2.2.1 bt507.2.2.2.1 bt507.2.2.2.2.1 bt507.2.2.2.2.2).bind fun bt513 => ((celluloidlaw14_same.f).bind fun bt521 => ((affine_Compose.f k bt521.1 bt521.2.1 bt521.2.2.1 bt521.2.2.2.1 bt521.2.2.2.2.1 bt521.2.2.2.2.2 a0_0 a0_1 a0_2 a0_3 a0_4 a0_5).bind fun bt527 => ((celluloidref07_Matrix.f a0_0 a0_1 a0_2 a0_3 a0_4 a0_5).bind fun t535 => (if t535 = true then (if (!(bt513.1 == a0_0) || (!(bt513.2.1 == a0_1) || (!(bt513.2.2.1 == a0_2) || (!(bt513.2.2.2.1 == a0_3) || (!(bt513.2.2.2.2.1 == a0_4) || (!(bt513.2.2.2.2.2.1 == a0_5))))))) = true then (celluloidlaw14_AffineSame.j0 k true a0_0 a0_1 a0_2 a0_3 a0_4 a0_5 a1_0 a1_1 a1_2 a1_3 a1_4 a1_5 a1_6 a1_7 a2_0 a2_1 a2_2 a2_3 a3_0 a3_1 256 256 256 256 0 0 0 0) else (if (!(bt527.1 == a0_0) || (!(bt527.2.1 == a0_1) || (!(bt527.2.2.1 == a0_2) || (!(bt527.2.2.2.1 == a0_3) || (!(bt527.2.2.2.2.1 == a0_4) || (!(bt527.2.2.2.2.2.1 == a0_5))))))) = true then (celluloidlaw14_AffineSame.j0 k true a0_0 a0_1 a0_2 a0_3 a0_4 a0_5 a1_0 a1_1 a1_2 a1_3 a1_4 a1_5 a1_6 a1_7 a2_0 a2_1 a2_2 a2_3 a3_0 a3_1 256 256 256 256 0 0 0 0) else (if bt513.2.2.2.2.2.2 = 0 then (celluloidlaw14_AffineSame.j0 k (bt527.2.2.2.2.2.2 != 0) a0_0 a0_1 a0_2 a0_3 a0_4 a0_5 a1_0 a1_1 a1_2 a1_3 a1_4 a1_5 a1_6 a1_7 a2_0 a2_1 a2_2 a2_3 a3_0 a3_1 256 256 256 256 0 0 0 0) else (celluloidlaw14_AffineSame.j0 k true a0_0 a0_1 a0_2 a0_3 a0_4 a0_5 a1_0 a1_1 a1_2 a1_3 a1_4 a1_5 a1_6 a1_7 a2_0 a2_1 a2_2 a2_3 a3_0 a3_1 256 256 256 256 0 0 0 0)))) else (celluloidlaw14_AffineSame.j0 k false a0_0 a0_1 a0_2 a0_3 a0_4 a0_5 a1_0 a1_1 a1_2 a1_3 a1_4 a1_5 a1_6 a1_7 a2_0 a2_1 a2_2 a2_3 a3_0 a3_1 256 256 256 256 0 0 0 0))))))
theorem celluloidlaw14_AffineSame.mono_l : ∀ k,(∀ y0 y1 y2 y3 y4 y5 y6 y7 y8 y9 y10 y11 y12 y13 y14 y15 y16 y17 y18 y19 y20 y21 y22 y23 y24 y25 y26 y27 y28,LeO (celluloidlaw14_AffineSame.j0 k y0 y1 y2 y3 y4 y5 y6 y7 y8 y9 y10 y11 y12 y13 y14 y15 y16 y17 y18 y19 y20 y21 y22 y23 y24 y25 y26 y27 y28) (celluloidlaw14_AffineSame.j0 (k + 1) y0 y1 y2 y3 y4 y5 y6 y7 y8 y9 y10 y11 y12 y13 y14 y15 y16 y17 y18 y19 y20 y21 y22 y23 y24 y25 y26 y27 y28)) ∧ (∀ y0 y1 y2 y3 y4 y5 y6 y7 y8 y9 y10 y11 y12 y13 y14 y15 y16 y17 y18 y19 y20,LeO (celluloidlaw14_AffineSame.j1 k y0 y1 y2 y3 y4 y5 y6 y7 y8 y9 y10 y11 y12 y13 y14 y15 y16 y17 y18 y19 y20) (celluloidlaw14_AffineSame.j1 (k + 1) y0 y1 y2 y3 y4 y5 y6 y7 y8 y9 y10 y11 y12 y13 y14 y15 y16 y17 y18 y19 y20)) ∧ (∀ y0 y1 y2 y3 y4 y5 y6 y7 y8,LeO (celluloidlaw14_AffineSame.j2 k y0 y1 y2 y3 y4 y5 y6 y7 y8) (celluloidlaw14_AffineSame.j2 (k + 1) y0 y1 y2 y3 y4 y5 y6 y7 y8))
  | 0 => ⟨fun _ _ _ _ _ _ _ _ _ _ _ _ _ _ _ _ _ _ _ _ _ _ _ _ _ _ _ _ _ r h => by simp [celluloidlaw14_AffineSame.j0] at h,fun _ _ _ _ _ _ _ _ _ _ _ _ _ _ _ _ _ _ _ _ _ r h => by simp [celluloidlaw14_AffineSame.j1] at h,fun _ _ _ _ _ _ _ _ _ r h => by simp [celluloidlaw14_AffineSame.j2] at h⟩
  | k + 1 => by
    obtain ⟨ih0,ih1,ih2⟩:=celluloidlaw14_AffineSame.mono_l k;refine ⟨?_,?_,?_⟩
    · intro y0 y1 y2 y3 y4 y5 y6 y7 y8 y9 y10 y11 y12 y13 y14 y15 y16 y17 y18 y19 y20 y21 y22 y23 y24 y25 y26 y27 y28
      unfold celluloidlaw14_AffineSame.j0
      repeat' first
      | (with_reducible exact ih0 _ _ _ _ _ _ _ _ _ _ _ _ _ _ _ _ _ _ _ _ _ _ _ _ _ _ _ _ _)
      | (with_reducible exact ih1 _ _ _ _ _ _ _ _ _ _ _ _ _ _ _ _ _ _ _ _ _)
      | (with_reducible exact ih2 _ _ _ _ _ _ _ _ _)
      | (with_reducible exact affine_Color.mono _ _ _ _ _ _ _ _ _ _ _ _ _)
      | (with_reducible exact affine_Compose.mono _ _ _ _ _ _ _ _ _ _ _ _ _)
      | (with_reducible exact affine_ComposeCx.mono _ _ _ _ _ _ _ _ _ _ _ _ _ _ _ _ _)
      | (with_reducible exact affine_Grid.mono _ _ _ _ _ _ _ _ _)
      | (with_reducible exact celluloidlaw14_awake.mono _)
      | (with_reducible exact celluloidref07_Cx.mono _ _ _ _ _ _ _ _ _)
      | (with_reducible exact celluloidref07_RGBA.mono _ _ _ _ _)
      | (with_reducible exact LeO.refl _)
      | (with_reducible exact LeO.none _)
      | (with_reducible refine LeO.ite ?_ ?_)
      | (with_reducible refine LeO.bind ?_ (fun _ => ?_))
      | exact ih0 _ _ _ _ _ _ _ _ _ _ _ _ _ _ _ _ _ _ _ _ _ _ _ _ _ _ _ _ _
      | exact ih1 _ _ _ _ _ _ _ _ _ _ _ _ _ _ _ _ _ _ _ _ _
      | exact ih2 _ _ _ _ _ _ _ _ _
      | exact affine_Color.mono _ _ _ _ _ _ _ _ _ _ _ _ _
      | exact affine_Compose.mono _ _ _ _ _ _ _ _ _ _ _ _ _
      | exact affine_ComposeCx.mono _ _ _ _ _ _ _ _ _ _ _ _ _ _ _ _ _
      | exact affine_Grid.mono _ _ _ _ _ _ _ _ _
      | exact celluloidlaw14_awake.mono _
      | exact celluloidref07_Cx.mono _ _ _ _ _ _ _ _ _
      | exact celluloidref07_RGBA.mono _ _ _ _ _
      | exact LeO.none _
      | refine LeO.ite ?_ ?_
      | refine LeO.bind ?_ (fun _ => ?_)
    · intro y0 y1 y2 y3 y4 y5 y6 y7 y8 y9 y10 y11 y12 y13 y14 y15 y16 y17 y18 y19 y20
      unfold celluloidlaw14_AffineSame.j1
      repeat' first
      | (with_reducible exact ih0 _ _ _ _ _ _ _ _ _ _ _ _ _ _ _ _ _ _ _ _ _ _ _ _ _ _ _ _ _)
      | (with_reducible exact ih1 _ _ _ _ _ _ _ _ _ _ _ _ _ _ _ _ _ _ _ _ _)
      | (with_reducible exact ih2 _ _ _ _ _ _ _ _ _)
      | (with_reducible exact affine_Color.mono _ _ _ _ _ _ _ _ _ _ _ _ _)
      | (with_reducible exact affine_Compose.mono _ _ _ _ _ _ _ _ _ _ _ _ _)
      | (with_reducible exact affine_ComposeCx.mono _ _ _ _ _ _ _ _ _ _ _ _ _ _ _ _ _)
      | (with_reducible exact affine_Grid.mono _ _ _ _ _ _ _ _ _)
      | (with_reducible exact celluloidlaw14_awake.mono _)
      | (with_reducible exact celluloidref07_Cx.mono _ _ _ _ _ _ _ _ _)
      | (with_reducible exact celluloidref07_RGBA.mono _ _ _ _ _)
      | (with_reducible exact LeO.refl _)
      | (with_reducible exact LeO.none _)
      | (with_reducible refine LeO.ite ?_ ?_)
      | (with_reducible refine LeO.bind ?_ (fun _ => ?_))
      | exact ih0 _ _ _ _ _ _ _ _ _ _ _ _ _ _ _ _ _ _ _ _ _ _ _ _ _ _ _ _ _
      | exact ih1 _ _ _ _ _ _ _ _ _ _ _ _ _ _ _ _ _ _ _ _ _
      | exact ih2 _ _ _ _ _ _ _ _ _
      | exact affine_Color.mono _ _ _ _ _ _ _ _ _ _ _ _ _
      | exact affine_Compose.mono _ _ _ _ _ _ _ _ _ _ _ _ _
      | exact affine_ComposeCx.mono _ _ _ _ _ _ _ _ _ _ _ _ _ _ _ _ _
      | exact affine_Grid.mono _ _ _ _ _ _ _ _ _
      | exact celluloidlaw14_awake.mono _
      | exact celluloidref07_Cx.mono _ _ _ _ _ _ _ _ _
      | exact celluloidref07_RGBA.mono _ _ _ _ _
      | exact LeO.none _
      | refine LeO.ite ?_ ?_
      | refine LeO.bind ?_ (fun _ => ?_)
    · intro y0 y1 y2 y3 y4 y5 y6 y7 y8
      unfold celluloidlaw14_AffineSame.j2
      repeat' first
      | (with_reducible exact ih0 _ _ _ _ _ _ _ _ _ _ _ _ _ _ _ _ _ _ _ _ _ _ _ _ _ _ _ _ _)
      | (with_reducible exact ih1 _ _ _ _ _ _ _ _ _ _ _ _ _ _ _ _ _ _ _ _ _)
      | (with_reducible exact ih2 _ _ _ _ _ _ _ _ _)
      | (with_reducible exact affine_Color.mono _ _ _ _ _ _ _ _ _ _ _ _ _)
      | (with_reducible exact affine_Compose.mono _ _ _ _ _ _ _ _ _ _ _ _ _)
      | (with_reducible exact affine_ComposeCx.mono _ _ _ _ _ _ _ _ _ _ _ _ _ _ _ _ _)
      | (with_reducible exact affine_Grid.mono _ _ _ _ _ _ _ _ _)
      | (with_reducible exact celluloidlaw14_awake.mono _)
      | (with_reducible exact celluloidref07_Cx.mono _ _ _ _ _ _ _ _ _)
      | (with_reducible exact celluloidref07_RGBA.mono _ _ _ _ _)
      | (with_reducible exact LeO.refl _)
      | (with_reducible exact LeO.none _)
      | (with_reducible refine LeO.ite ?_ ?_)
      | (with_reducible refine LeO.bind ?_ (fun _ => ?_))
      | exact ih0 _ _ _ _ _ _ _ _ _ _ _ _ _ _ _ _ _ _ _ _ _ _ _ _ _ _ _ _ _
      | exact ih1 _ _ _ _ _ _ _ _ _ _ _ _ _ _ _ _ _ _ _ _ _
      | exact ih2 _ _ _ _ _ _ _ _ _
      | exact affine_Color.mono _ _ _ _ _ _ _ _ _ _ _ _ _
      | exact affine_Compose.mono _ _ _ _ _ _ _ _ _ _ _ _ _
      | exact affine_ComposeCx.mono _ _ _ _ _ _ _ _ _ _ _ _ _ _ _ _ _
      | exact affine_Grid.mono _ _ _ _ _ _ _ _ _
      | exact celluloidlaw14_awake.mono _
      | exact celluloidref07_Cx.mono _ _ _ _ _ _ _ _ _
      | exact celluloidref07_RGBA.mono _ _ _ _ _
      | exact LeO.none _
      | refine LeO.ite ?_ ?_
      | refine LeO.bind ?_ (fun _ => ?_)
theorem celluloidlaw14_AffineSame.mono : ∀ a0 a1 a2 a3 a4 a5 a6 a7 a8 a9 a10 a11 a12 a13 a14 a15 a16 a17 a18 a19 k,LeO (celluloidlaw14_AffineSame.f k a0 a1 a2 a3 a4 a5 a6 a7 a8 a9 a10 a11 a12 a13 a14 a15 a16 a17 a18 a19) (celluloidlaw14_AffineSame.f (k + 1) a0 a1 a2 a3 a4 a5 a6 a7 a8 a9 a10 a11 a12 a13 a14 a15 a16 a17 a18 a19):=by
  intro a0 a1 a2 a3 a4 a5 a6 a7 a8 a9 a10 a11 a12 a13 a14 a15 a16 a17 a18 a19 k
  obtain ⟨ih0,ih1,ih2⟩:=celluloidlaw14_AffineSame.mono_l k
  unfold celluloidlaw14_AffineSame.f
  repeat' first
      | (with_reducible exact ih0 _ _ _ _ _ _ _ _ _ _ _ _ _ _ _ _ _ _ _ _ _ _ _ _ _ _ _ _ _)
      | (with_reducible exact ih1 _ _ _ _ _ _ _ _ _ _ _ _ _ _ _ _ _ _ _ _ _)
      | (with_reducible exact ih2 _ _ _ _ _ _ _ _ _)
      | (with_reducible exact affine_Color.mono _ _ _ _ _ _ _ _ _ _ _ _ _)
      | (with_reducible exact affine_Compose.mono _ _ _ _ _ _ _ _ _ _ _ _ _)
      | (with_reducible exact affine_ComposeCx.mono _ _ _ _ _ _ _ _ _ _ _ _ _ _ _ _ _)
      | (with_reducible exact affine_Grid.mono _ _ _ _ _ _ _ _ _)
      | (with_reducible exact celluloidlaw14_awake.mono _)
      | (with_reducible exact celluloidref07_Cx.mono _ _ _ _ _ _ _ _ _)
      | (with_reducible exact celluloidref07_RGBA.mono _ _ _ _ _)
      | (with_reducible exact LeO.refl _)
      | (with_reducible exact LeO.none _)
      | (with_reducible refine LeO.ite ?_ ?_)
      | (with_reducible refine LeO.bind ?_ (fun _ => ?_))
      | exact ih0 _ _ _ _ _ _ _ _ _ _ _ _ _ _ _ _ _ _ _ _ _ _ _ _ _ _ _ _ _
      | exact ih1 _ _ _ _ _ _ _ _ _ _ _ _ _ _ _ _ _ _ _ _ _
      | exact ih2 _ _ _ _ _ _ _ _ _
      | exact affine_Color.mono _ _ _ _ _ _ _ _ _ _ _ _ _
      | exact affine_Compose.mono _ _ _ _ _ _ _ _ _ _ _ _ _
      | exact affine_ComposeCx.mono _ _ _ _ _ _ _ _ _ _ _ _ _ _ _ _ _
      | exact affine_Grid.mono _ _ _ _ _ _ _ _ _
      | exact celluloidlaw14_awake.mono _
      | exact celluloidref07_Cx.mono _ _ _ _ _ _ _ _ _
      | exact celluloidref07_RGBA.mono _ _ _ _ _
      | exact LeO.none _
      | refine LeO.ite ?_ ?_
      | refine LeO.bind ?_ (fun _ => ?_)
def celluloidlaw14_AffineSame.T2 : Bool × List (List Nat × List Nat):=(true,[([],[]),([],[]),([0,1,1],[0,1]),([2],[2]),([3],[3]),([3],[3]),([],[]),([6,4,2,0,1,2,3,4,6],[4,6]),([5,7,0,1,2,3,4,5,6,7],[5])])
def celluloidlaw14_AffineSame.B2 : List Nat:=[0,0,3,7,15,15,0,95,255]
theorem celluloidlaw14_AffineSame.tab2 : rtab .any (opsOf Try.f9 2) = celluloidlaw14_AffineSame.T2:=by kernel_rfl
theorem celluloidlaw14_AffineSame.bits2 : waitsOk celluloidlaw14_AffineSame.T2.2 celluloidlaw14_AffineSame.B2 = true:=by kernel_rfl
def celluloidlaw14_AffineSame.T3 : Bool × List (List Nat × List Nat):=(true,[([],[]),([],[]),([0,1,0],[0,1]),([2],[2]),([3],[3]),([3],[3]),([],[]),([6,4,2,0,1,2,3,4,6],[4,6]),([5,7,0,1,2,3,4,5,6,7],[5])])
def celluloidlaw14_AffineSame.B3 : List Nat:=[0,0,3,7,15,15,0,95,255]
theorem celluloidlaw14_AffineSame.tab3 : rtab .any (opsOf Try.f9 3) = celluloidlaw14_AffineSame.T3:=by kernel_rfl
theorem celluloidlaw14_AffineSame.bits3 : waitsOk celluloidlaw14_AffineSame.T3.2 celluloidlaw14_AffineSame.B3 = true:=by kernel_rfl
def celluloidlaw14_AffineSame.T6 : Bool × List (List Nat × List Nat):=(true,[([],[]),([0],[0]),([1,1],[1]),([2],[2]),([2],[2]),([3,4,2,2],[2,3,4]),([2],[2]),([5,6,2],[2,5,6]),([7,5,2],[2,7]),([8],[8]),([8],[8]),([9,10,8,8],[8,9,10]),([8],[8]),([11,12,8],[8,11,12]),([8,13,2],[2,8,13]),([2,14],[2,14])])
def celluloidlaw14_AffineSame.B6 : List Nat:=[0,1,3,7,7,31,7,127,255,511,511,2047,511,8191,16383,32767]
theorem celluloidlaw14_AffineSame.tab6 : rtab .any (opsOf Try.f9 6) = celluloidlaw14_AffineSame.T6:=by kernel_rfl
theorem celluloidlaw14_AffineSame.bits6 : waitsOk celluloidlaw14_AffineSame.T6.2 celluloidlaw14_AffineSame.B6 = true:=by kernel_rfl
def celluloidlaw14_AffineSame.T8 : Bool × List (List Nat × List Nat):=(true,[([],[]),([0],[0]),([1,1],[1]),([2],[2]),([2],[2]),([3,4,2,2],[2,3,4]),([2],[2]),([5,6,2],[2,5,6]),([2,7],[2,7])])
def celluloidlaw14_AffineSame.B8 : List Nat:=[0,1,3,7,7,31,7,127,255]
theorem celluloidlaw14_AffineSame.tab8 : rtab .any (opsOf Try.f9 8) = celluloidlaw14_AffineSame.T8:=by kernel_rfl
theorem celluloidlaw14_AffineSame.bits8 : waitsOk celluloidlaw14_AffineSame.T8.2 celluloidlaw14_AffineSame.B8 = true:=by kernel_rfl
set_option maxHeartbeats 8000000 in
set_option maxRecDepth 100000 in
theorem celluloidlaw14_AffineSame.calls (k : Nat) (a0_0 : Int) (a0_1 : Int) (a0_2 : Int) (a0_3 : Int) (a0_4 : Int) (a0_5 : Int) (a1_0 : Int) (a1_1 : Int) (a1_2 : Int) (a1_3 : Int) (a1_4 : Int) (a1_5 : Int) (a1_6 : Int) (a1_7 : Int) (a2_0 : Int) (a2_1 : Int) (a2_2 : Int) (a2_3 : Int) (a3_0 : Int) (a3_1 : Int) (r : Bool) (w : World) (h : celluloidlaw14_AffineSame.f k a0_0 a0_1 a0_2 a0_3 a0_4 a0_5 a1_0 a1_1 a1_2 a1_3 a1_4 a1_5 a1_6 a1_7 a2_0 a2_1 a2_2 a2_3 a3_0 a3_1 = some r) :
    Calls Try.prog 9 #[.agg #[.int .i64 a0_0,.int .i64 a0_1,.int .i64 a0_2,.int .i64 a0_3,.int .i64 a0_4,.int .i64 a0_5],.agg #[.int .i64 a1_0,.int .i64 a1_1,.int .i64 a1_2,.int .i64 a1_3,.int .i64 a1_4,.int .i64 a1_5,.int .i64 a1_6,.int .i64 a1_7],.agg #[.int .i64 a2_0,.int .i64 a2_1,.int .i64 a2_2,.int .i64 a2_3],.agg #[.int .i64 a3_0,.int .i64 a3_1]] w fun e w' => e = .returned (.bool r) ∧ Below w.heap.size w w':=by
  have hu23:=Try.underlying23;have hu41:=Try.underlying41;have hu43:=Try.underlying43;have hu25:=Try.underlying25;have hu39:=Try.underlying39;have HB:=am (Below.refl w.heap.size w);have H : ((celluloidlaw14_same.f).bind fun bt507 => ((affine_Compose.f k a0_0 a0_1 a0_2 a0_3 a0_4 a0_5 bt507.1 bt507.2.1 bt507.2.2.1 bt507.2.2.2.1 bt507.2.2.2.2.1 bt507.2.2.2.2.2).bind fun bt513 => ((celluloidlaw14_same.f).bind fun bt521 => ((affine_Compose.f k bt521.1 bt521.2.1 bt521.2.2.1 bt521.2.2.2.1 bt521.2.2.2.2.1 bt521.2.2.2.2.2 a0_0 a0_1 a0_2 a0_3 a0_4 a0_5).bind fun bt527 => ((celluloidref07_Matrix.f a0_0 a0_1 a0_2 a0_3 a0_4 a0_5).bind fun t535 => (if t535 = true then (if (!(bt513.1 == a0_0) || (!(bt513.2.1 == a0_1) || (!(bt513.2.2.1 == a0_2) || (!(bt513.2.2.2.1 == a0_3) || (!(bt513.2.2.2.2.1 == a0_4) || (!(bt513.2.2.2.2.2.1 == a0_5))))))) = true then (celluloidlaw14_AffineSame.j0 k true a0_0 a0_1 a0_2 a0_3 a0_4 a0_5 a1_0 a1_1 a1_2 a1_3 a1_4 a1_5 a1_6 a1_7 a2_0 a2_1 a2_2 a2_3 a3_0 a3_1 256 256 256 256 0 0 0 0) else (if (!(bt527.1 == a0_0) || (!(bt527.2.1 == a0_1) || (!(bt527.2.2.1 == a0_2) || (!(bt527.2.2.2.1 == a0_3) || (!(bt527.2.2.2.2.1 == a0_4) || (!(bt527.2.2.2.2.2.1 == a0_5))))))) = true then (celluloidlaw14_AffineSame.j0 k true a0_0 a0_1 a0_2 a0_3 a0_4 a0_5 a1_0 a1_1 a1_2 a1_3 a1_4 a1_5 a1_6 a1_7 a2_0 a2_1 a2_2 a2_3 a3_0 a3_1 256 256 256 256 0 0 0 0) else (if bt513.2.2.2.2.2.2 = 0 then (celluloidlaw14_AffineSame.j0 k (bt527.2.2.2.2.2.2 != 0) a0_0 a0_1 a0_2 a0_3 a0_4 a0_5 a1_0 a1_1 a1_2 a1_3 a1_4 a1_5 a1_6 a1_7 a2_0 a2_1 a2_2 a2_3 a3_0 a3_1 256 256 256 256 0 0 0 0) else (celluloidlaw14_AffineSame.j0 k true a0_0 a0_1 a0_2 a0_3 a0_4 a0_5 a1_0 a1_1 a1_2 a1_3 a1_4 a1_5 a1_6 a1_7 a2_0 a2_1 a2_2 a2_3 a3_0 a3_1 256 256 256 256 0 0 0 0)))) else (celluloidlaw14_AffineSame.j0 k false a0_0 a0_1 a0_2 a0_3 a0_4 a0_5 a1_0 a1_1 a1_2 a1_3 a1_4 a1_5 a1_6 a1_7 a2_0 a2_1 a2_2 a2_3 a3_0 a3_1 256 256 256 256 0 0 0 0))))))) = some r:=h;clear h;replace H:=Option.bind_eq_some_iff.mp H;obtain ⟨⟨t507,t508,t509,t510,t511,t512⟩,A50,H⟩:=H;replace H : ((affine_Compose.f k a0_0 a0_1 a0_2 a0_3 a0_4 a0_5 t507 t508 t509 t510 t511 t512).bind fun bt513 => ((celluloidlaw14_same.f).bind fun bt521 => ((affine_Compose.f k bt521.1 bt521.2.1 bt521.2.2.1 bt521.2.2.2.1 bt521.2.2.2.2.1 bt521.2.2.2.2.2 a0_0 a0_1 a0_2 a0_3 a0_4 a0_5).bind fun bt527 => ((celluloidref07_Matrix.f a0_0 a0_1 a0_2 a0_3 a0_4 a0_5).bind fun t535 => (if t535 = true then (if (!(bt513.1 == a0_0) || (!(bt513.2.1 == a0_1) || (!(bt513.2.2.1 == a0_2) || (!(bt513.2.2.2.1 == a0_3) || (!(bt513.2.2.2.2.1 == a0_4) || (!(bt513.2.2.2.2.2.1 == a0_5))))))) = true then (celluloidlaw14_AffineSame.j0 k true a0_0 a0_1 a0_2 a0_3 a0_4 a0_5 a1_0 a1_1 a1_2 a1_3 a1_4 a1_5 a1_6 a1_7 a2_0 a2_1 a2_2 a2_3 a3_0 a3_1 256 256 256 256 0 0 0 0) else (if (!(bt527.1 == a0_0) || (!(bt527.2.1 == a0_1) || (!(bt527.2.2.1 == a0_2) || (!(bt527.2.2.2.1 == a0_3) || (!(bt527.2.2.2.2.1 == a0_4) || (!(bt527.2.2.2.2.2.1 == a0_5))))))) = true then (celluloidlaw14_AffineSame.j0 k true a0_0 a0_1 a0_2 a0_3 a0_4 a0_5 a1_0 a1_1 a1_2 a1_3 a1_4 a1_5 a1_6 a1_7 a2_0 a2_1 a2_2 a2_3 a3_0 a3_1 256 256 256 256 0 0 0 0) else (if bt513.2.2.2.2.2.2 = 0 then (celluloidlaw14_AffineSame.j0 k (bt527.2.2.2.2.2.2 != 0) a0_0 a0_1 a0_2 a0_3 a0_4 a0_5 a1_0 a1_1 a1_2 a1_3 a1_4 a1_5 a1_6 a1_7 a2_0 a2_1 a2_2 a2_3 a3_0 a3_1 256 256 256 256 0 0 0 0) else (celluloidlaw14_AffineSame.j0 k true a0_0 a0_1 a0_2 a0_3 a0_4 a0_5 a1_0 a1_1 a1_2 a1_3 a1_4 a1_5 a1_6 a1_7 a2_0 a2_1 a2_2 a2_3 a3_0 a3_1 256 256 256 256 0 0 0 0)))) else (celluloidlaw14_AffineSame.j0 k false a0_0 a0_1 a0_2 a0_3 a0_4 a0_5 a1_0 a1_1 a1_2 a1_3 a1_4 a1_5 a1_6 a1_7 a2_0 a2_1 a2_2 a2_3 a3_0 a3_1 256 256 256 256 0 0 0 0)))))) = some r:=H;have A5:=am A50;clear A50;replace H:=Option.bind_eq_some_iff.mp H;obtain ⟨⟨t513,t514,t515,t516,t517,t518,t519⟩,A60,H⟩:=H;replace H : ((celluloidlaw14_same.f).bind fun bt521 => ((affine_Compose.f k bt521.1 bt521.2.1 bt521.2.2.1 bt521.2.2.2.1 bt521.2.2.2.2.1 bt521.2.2.2.2.2 a0_0 a0_1 a0_2 a0_3 a0_4 a0_5).bind fun bt527 => ((celluloidref07_Matrix.f a0_0 a0_1 a0_2 a0_3 a0_4 a0_5).bind fun t535 => (if t535 = true then (if (!(t513 == a0_0) || (!(t514 == a0_1) || (!(t515 == a0_2) || (!(t516 == a0_3) || (!(t517 == a0_4) || (!(t518 == a0_5))))))) = true then (celluloidlaw14_AffineSame.j0 k true a0_0 a0_1 a0_2 a0_3 a0_4 a0_5 a1_0 a1_1 a1_2 a1_3 a1_4 a1_5 a1_6 a1_7 a2_0 a2_1 a2_2 a2_3 a3_0 a3_1 256 256 256 256 0 0 0 0) else (if (!(bt527.1 == a0_0) || (!(bt527.2.1 == a0_1) || (!(bt527.2.2.1 == a0_2) || (!(bt527.2.2.2.1 == a0_3) || (!(bt527.2.2.2.2.1 == a0_4) || (!(bt527.2.2.2.2.2.1 == a0_5))))))) = true then (celluloidlaw14_AffineSame.j0 k true a0_0 a0_1 a0_2 a0_3 a0_4 a0_5 a1_0 a1_1 a1_2 a1_3 a1_4 a1_5 a1_6 a1_7 a2_0 a2_1 a2_2 a2_3 a3_0 a3_1 256 256 256 256 0 0 0 0) else (if t519 = 0 then (celluloidlaw14_AffineSame.j0 k (bt527.2.2.2.2.2.2 != 0) a0_0 a0_1 a0_2 a0_3 a0_4 a0_5 a1_0 a1_1 a1_2 a1_3 a1_4 a1_5 a1_6 a1_7 a2_0 a2_1 a2_2 a2_3 a3_0 a3_1 256 256 256 256 0 0 0 0) else (celluloidlaw14_AffineSame.j0 k true a0_0 a0_1 a0_2 a0_3 a0_4 a0_5 a1_0 a1_1 a1_2 a1_3 a1_4 a1_5 a1_6 a1_7 a2_0 a2_1 a2_2 a2_3 a3_0 a3_1 256 256 256 256 0 0 0 0)))) else (celluloidlaw14_AffineSame.j0 k false a0_0 a0_1 a0_2 a0_3 a0_4 a0_5 a1_0 a1_1 a1_2 a1_3 a1_4 a1_5 a1_6 a1_7 a2_0 a2_1 a2_2 a2_3 a3_0 a3_1 256 256 256 256 0 0 0 0))))) = some r:=H;have A6:=am A60;clear A60;replace H:=Option.bind_eq_some_iff.mp H;obtain ⟨⟨t521,t522,t523,t524,t525,t526⟩,A70,H⟩:=H;replace H : ((affine_Compose.f k t521 t522 t523 t524 t525 t526 a0_0 a0_1 a0_2 a0_3 a0_4 a0_5).bind fun bt527 => ((celluloidref07_Matrix.f a0_0 a0_1 a0_2 a0_3 a0_4 a0_5).bind fun t535 => (if t535 = true then (if (!(t513 == a0_0) || (!(t514 == a0_1) || (!(t515 == a0_2) || (!(t516 == a0_3) || (!(t517 == a0_4) || (!(t518 == a0_5))))))) = true then (celluloidlaw14_AffineSame.j0 k true a0_0 a0_1 a0_2 a0_3 a0_4 a0_5 a1_0 a1_1 a1_2 a1_3 a1_4 a1_5 a1_6 a1_7 a2_0 a2_1 a2_2 a2_3 a3_0 a3_1 256 256 256 256 0 0 0 0) else (if (!(bt527.1 == a0_0) || (!(bt527.2.1 == a0_1) || (!(bt527.2.2.1 == a0_2) || (!(bt527.2.2.2.1 == a0_3) || (!(bt527.2.2.2.2.1 == a0_4) || (!(bt527.2.2.2.2.2.1 == a0_5))))))) = true then (celluloidlaw14_AffineSame.j0 k true a0_0 a0_1 a0_2 a0_3 a0_4 a0_5 a1_0 a1_1 a1_2 a1_3 a1_4 a1_5 a1_6 a1_7 a2_0 a2_1 a2_2 a2_3 a3_0 a3_1 256 256 256 256 0 0 0 0) else (if t519 = 0 then (celluloidlaw14_AffineSame.j0 k (bt527.2.2.2.2.2.2 != 0) a0_0 a0_1 a0_2 a0_3 a0_4 a0_5 a1_0 a1_1 a1_2 a1_3 a1_4 a1_5 a1_6 a1_7 a2_0 a2_1 a2_2 a2_3 a3_0 a3_1 256 256 256 256 0 0 0 0) else (celluloidlaw14_AffineSame.j0 k true a0_0 a0_1 a0_2 a0_3 a0_4 a0_5 a1_0 a1_1 a1_2 a1_3 a1_4 a1_5 a1_6 a1_7 a2_0 a2_1 a2_2 a2_3 a3_0 a3_1 256 256 256 256 0 0 0 0)))) else (celluloidlaw14_AffineSame.j0 k false a0_0 a0_1 a0_2 a0_3 a0_4 a0_5 a1_0 a1_1 a1_2 a1_3 a1_4 a1_5 a1_6 a1_7 a2_0 a2_1 a2_2 a2_3 a3_0 a3_1 256 256 256 256 0 0 0 0)))) = some r:=H;have A7:=am A70;clear A70;replace H:=Option.bind_eq_some_iff.mp H;obtain ⟨⟨t527,t528,t529,t530,t531,t532,t533⟩,A80,H⟩:=H;replace H : ((celluloidref07_Matrix.f a0_0 a0_1 a0_2 a0_3 a0_4 a0_5).bind fun t535 => (if t535 = true then (if (!(t513 == a0_0) || (!(t514 == a0_1) || (!(t515 == a0_2) || (!(t516 == a0_3) || (!(t517 == a0_4) || (!(t518 == a0_5))))))) = true then (celluloidlaw14_AffineSame.j0 k true a0_0 a0_1 a0_2 a0_3 a0_4 a0_5 a1_0 a1_1 a1_2 a1_3 a1_4 a1_5 a1_6 a1_7 a2_0 a2_1 a2_2 a2_3 a3_0 a3_1 256 256 256 256 0 0 0 0) else (if (!(t527 == a0_0) || (!(t528 == a0_1) || (!(t529 == a0_2) || (!(t530 == a0_3) || (!(t531 == a0_4) || (!(t532 == a0_5))))))) = true then (celluloidlaw14_AffineSame.j0 k true a0_0 a0_1 a0_2 a0_3 a0_4 a0_5 a1_0 a1_1 a1_2 a1_3 a1_4 a1_5 a1_6 a1_7 a2_0 a2_1 a2_2 a2_3 a3_0 a3_1 256 256 256 256 0 0 0 0) else (if t519 = 0 then (celluloidlaw14_AffineSame.j0 k (t533 != 0) a0_0 a0_1 a0_2 a0_3 a0_4 a0_5 a1_0 a1_1 a1_2 a1_3 a1_4 a1_5 a1_6 a1_7 a2_0 a2_1 a2_2 a2_3 a3_0 a3_1 256 256 256 256 0 0 0 0) else (celluloidlaw14_AffineSame.j0 k true a0_0 a0_1 a0_2 a0_3 a0_4 a0_5 a1_0 a1_1 a1_2 a1_3 a1_4 a1_5 a1_6 a1_7 a2_0 a2_1 a2_2 a2_3 a3_0 a3_1 256 256 256 256 0 0 0 0)))) else (celluloidlaw14_AffineSame.j0 k false a0_0 a0_1 a0_2 a0_3 a0_4 a0_5 a1_0 a1_1 a1_2 a1_3 a1_4 a1_5 a1_6 a1_7 a2_0 a2_1 a2_2 a2_3 a3_0 a3_1 256 256 256 256 0 0 0 0))) = some r:=H;have A8:=am A80;clear A80;have HC9:=am H;clear H
  go_enter Try.func9,Try.ntmps9
  try go_wp2_with (first|((with_reducible refine gate_dst (N:=4) rfl ?_);refine box_event ?hg (N:=4) ?hd (cs:=#[.int .i64 a0_0,.int .i64 a0_1,.int .i64 a0_2,.int .i64 a0_3,.int .i64 a0_4,.int .i64 a0_5]) (t:=23) ?hr ?_;(case hd => rfl);(case hg => rfl);(case hr => first|(go_simp;done)|(go_simp;rfl));intro gb502 hg w10 hbox hb;have BK502:=am (hbox);have GW502:=am ((by rw [hg];exact (sz (by repeat (first|(with_reducible first|exact HB.out|apply sa|apply sn|apply sd)|exact HB.out))) : w.heap.size ≤ gb502));have GE502:=am ((by rw [hg];exact (sz (by repeat (first|(with_reducible first|exact HB.out|apply sa|apply sn|apply sd)|exact HB.out))) : w.heap.size ≤ gb502));replace HB:=am (ss (by repeat (first|(with_reducible first|exact HB.out|apply sa|apply sn|apply sd)|exact HB.out)) hb);clear hb hbox hg)|((with_reducible refine gate_dst (N:=5) rfl ?_);refine box_event ?hg (N:=5) ?hd (cs:=#[.int .i64 a1_0,.int .i64 a1_1,.int .i64 a1_2,.int .i64 a1_3,.int .i64 a1_4,.int .i64 a1_5,.int .i64 a1_6,.int .i64 a1_7]) (t:=41) ?hr ?_;(case hd => rfl);(case hg => rfl);(case hr => first|(go_simp;done)|(go_simp;rfl));intro gb503 hg w11 hbox hb;have BK503:=am (hbox);obtain ⟨h1_,GW503⟩:=sg (by repeat (first|(with_reducible first|exact HB.out|apply sa|apply sn|apply sd|refine sx ?_ GE502.out)|exact HB.out)) hb hg;replace HB:=h1_;clear h1_;have GE503:=GW503;have NB502_503:=nb (by exact BK502.out) hg;have NB503_502:=ng (by exact BK502.out) hg;replace BK502:=am (bw (by exact BK502.out) hb);clear hb hbox hg)|((with_reducible refine gate_dst (N:=6) rfl ?_);refine box_event ?hg (N:=6) ?hd (cs:=#[.int .i64 a2_0,.int .i64 a2_1,.int .i64 a2_2,.int .i64 a2_3]) (t:=43) ?hr ?_;(case hd => rfl);(case hg => rfl);(case hr => first|(go_simp;done)|(go_simp;rfl));intro gb504 hg w12 hbox hb;have BK504:=am (hbox);obtain ⟨h1_,GW504⟩:=sg (by repeat (first|(with_reducible first|exact HB.out|apply sa|apply sn|apply sd|refine sy ?_ (by assumption))|exact HB.out)) hb hg;replace HB:=h1_;clear h1_;have GE504:=GW504;have NB502_504:=nb (by exact BK502.out) hg;replace BK502:=am (bw (by exact BK502.out) hb);have NB504_502:=am (Ne.symm NB502_504.out);have NB503_504:=nb (by exact BK503.out) hg;have NB504_503:=ng (by exact BK503.out) hg;replace BK503:=am (bw (by exact BK503.out) hb);clear hb hbox hg)|((with_reducible refine gate_dst (N:=7) rfl ?_);refine box_event ?hg (N:=7) ?hd (cs:=#[.int .i64 a3_0,.int .i64 a3_1]) (t:=25) ?hr ?_;(case hd => rfl);(case hg => rfl);(case hr => first|(go_simp;done)|(go_simp;rfl));intro gb505 hg w13 hbox hb;have BK505:=am (hbox);obtain ⟨h1_,GW505⟩:=sg (by repeat (first|(with_reducible first|exact HB.out|apply sa|apply sn|apply sd|refine sy ?_ (by assumption))|exact HB.out)) hb hg;replace HB:=h1_;clear h1_;have GE505:=GW505;have NB502_505:=nb (by exact BK502.out) hg;replace BK502:=am (bw (by exact BK502.out) hb);have NB505_502:=am (Ne.symm NB502_505.out);have NB503_505:=nb (by exact BK503.out) hg;replace BK503:=am (bw (by exact BK503.out) hb);have NB505_503:=am (Ne.symm NB503_505.out);have NB504_505:=nb (by exact BK504.out) hg;have NB505_504:=ng (by exact BK504.out) hg;replace BK504:=am (bw (by exact BK504.out) hb);clear hb hbox hg)|((with_reducible refine gate_dst (N:=9) rfl ?_);refine box_event ?hg (N:=9) ?hd (cs:=#[.int .i64 0,.int .i64 0,.int .i64 0,.int .i64 0,.int .i64 0,.int .i64 0,.int .i64 0,.int .i64 0]) (t:=41) ?hr ?_;(case hd => rfl);(case hg => rfl);(case hr => first|(go_simp;done)|(go_simp;rfl));intro gb506 hg w14 hbox hb;have BK506:=am (hbox);obtain ⟨h1_,GW506⟩:=sg (by repeat (first|(with_reducible first|exact HB.out|apply sa|apply sn|apply sd|refine sy ?_ (by assumption))|exact HB.out)) hb hg;replace HB:=h1_;clear h1_;have GE506:=GW506;have NB502_506:=nb (by exact BK502.out) hg;replace BK502:=am (bw (by exact BK502.out) hb);have NB506_502:=am (Ne.symm NB502_506.out);have NB503_506:=nb (by exact BK503.out) hg;replace BK503:=am (bw (by exact BK503.out) hb);have NB506_503:=am (Ne.symm NB503_506.out);have NB504_506:=nb (by exact BK504.out) hg;replace BK504:=am (bw (by exact BK504.out) hb);have NB506_504:=am (Ne.symm NB504_506.out);have NB505_506:=nb (by exact BK505.out) hg;have NB506_505:=ng (by exact BK505.out) hg;replace BK505:=am (bw (by exact BK505.out) hb);clear hb hbox hg;have hnb15:=NB506_502.out;have hnc15:=NB502_506.out;have hnb16:=NB506_503.out;have hnc16:=NB503_506.out;have hnb17:=NB506_504.out;have hnc17:=NB504_506.out;have hnb18:=NB506_505.out;have hnc18:=NB505_506.out;obtain ⟨hcz19_0,hcz19_1,hcz19_2,hcz19_3,hcz19_4,hcz19_5,hcz19_6,hcz19_7⟩:=cq8 BK506.out;obtain ⟨hfz19_0,hfz19_1,hfz19_2,hfz19_3,hfz19_4,hfz19_5,hfz19_6,hfz19_7⟩:=fq8 BK506.out))
  have n0_ : Aside0 (((((((((w14.setCell ⟨gb506,0,none⟩ (.int .i64 256)).setCell ⟨gb506,1,none⟩ (.int .i64 256)).setCell ⟨gb506,2,none⟩ (.int .i64 256)).setCell ⟨gb506,3,none⟩ (.int .i64 256)).setCell ⟨gb506,4,none⟩ (.int .i64 0)).setCell ⟨gb506,5,none⟩ (.int .i64 0)).setCell ⟨gb506,6,none⟩ (.int .i64 0)).setCell ⟨gb506,7,none⟩ (.int .i64 0)).heap[gb502]? = some (.cells #[.int .i64 a0_0,.int .i64 a0_1,.int .i64 a0_2,.int .i64 a0_3,.int .i64 a0_4,.int .i64 a0_5] 23 (0,0))):=⟨by (with_reducible repeat (first|refine bn ?_ _|refine bd ?_|refine ba ?_ _|refine bf ?_ NB502_506.out _));exact BK502.out⟩;have n1_ : Aside0 (((((((((w14.setCell ⟨gb506,0,none⟩ (.int .i64 256)).setCell ⟨gb506,1,none⟩ (.int .i64 256)).setCell ⟨gb506,2,none⟩ (.int .i64 256)).setCell ⟨gb506,3,none⟩ (.int .i64 256)).setCell ⟨gb506,4,none⟩ (.int .i64 0)).setCell ⟨gb506,5,none⟩ (.int .i64 0)).setCell ⟨gb506,6,none⟩ (.int .i64 0)).setCell ⟨gb506,7,none⟩ (.int .i64 0)).heap[gb503]? = some (.cells #[.int .i64 a1_0,.int .i64 a1_1,.int .i64 a1_2,.int .i64 a1_3,.int .i64 a1_4,.int .i64 a1_5,.int .i64 a1_6,.int .i64 a1_7] 41 (0,0))):=⟨by (with_reducible repeat (first|refine bn ?_ _|refine bd ?_|refine ba ?_ _|refine bf ?_ NB503_506.out _));exact BK503.out⟩;have n2_ : Aside0 (((((((((w14.setCell ⟨gb506,0,none⟩ (.int .i64 256)).setCell ⟨gb506,1,none⟩ (.int .i64 256)).setCell ⟨gb506,2,none⟩ (.int .i64 256)).setCell ⟨gb506,3,none⟩ (.int .i64 256)).setCell ⟨gb506,4,none⟩ (.int .i64 0)).setCell ⟨gb506,5,none⟩ (.int .i64 0)).setCell ⟨gb506,6,none⟩ (.int .i64 0)).setCell ⟨gb506,7,none⟩ (.int .i64 0)).heap[gb504]? = some (.cells #[.int .i64 a2_0,.int .i64 a2_1,.int .i64 a2_2,.int .i64 a2_3] 43 (0,0))):=⟨by (with_reducible repeat (first|refine bn ?_ _|refine bd ?_|refine ba ?_ _|refine bf ?_ NB504_506.out _));exact BK504.out⟩;have n3_ : Aside0 (((((((((w14.setCell ⟨gb506,0,none⟩ (.int .i64 256)).setCell ⟨gb506,1,none⟩ (.int .i64 256)).setCell ⟨gb506,2,none⟩ (.int .i64 256)).setCell ⟨gb506,3,none⟩ (.int .i64 256)).setCell ⟨gb506,4,none⟩ (.int .i64 0)).setCell ⟨gb506,5,none⟩ (.int .i64 0)).setCell ⟨gb506,6,none⟩ (.int .i64 0)).setCell ⟨gb506,7,none⟩ (.int .i64 0)).heap[gb505]? = some (.cells #[.int .i64 a3_0,.int .i64 a3_1] 25 (0,0))):=⟨by (with_reducible repeat (first|refine bn ?_ _|refine bd ?_|refine ba ?_ _|refine bf ?_ NB505_506.out _));exact BK505.out⟩;have n4_ : Aside0 (((((((((w14.setCell ⟨gb506,0,none⟩ (.int .i64 256)).setCell ⟨gb506,1,none⟩ (.int .i64 256)).setCell ⟨gb506,2,none⟩ (.int .i64 256)).setCell ⟨gb506,3,none⟩ (.int .i64 256)).setCell ⟨gb506,4,none⟩ (.int .i64 0)).setCell ⟨gb506,5,none⟩ (.int .i64 0)).setCell ⟨gb506,6,none⟩ (.int .i64 0)).setCell ⟨gb506,7,none⟩ (.int .i64 0)).heap[gb506]? = some (.cells #[.int .i64 256,.int .i64 256,.int .i64 256,.int .i64 256,.int .i64 0,.int .i64 0,.int .i64 0,.int .i64 0] 41 (0,0))):=⟨by (with_reducible repeat (first|refine bn ?_ _|refine bd ?_|refine ba ?_ _));refine bp (cs:=#[.int .i64 256,.int .i64 256,.int .i64 256,.int .i64 256,.int .i64 0,.int .i64 0,.int .i64 0,.int .i64 0]) ?_ 7 _ rfl;(with_reducible repeat (first|refine bn ?_ _|refine bd ?_|refine ba ?_ _));refine bp (cs:=#[.int .i64 256,.int .i64 256,.int .i64 256,.int .i64 256,.int .i64 0,.int .i64 0,.int .i64 0,.int .i64 0]) ?_ 6 _ rfl;(with_reducible repeat (first|refine bn ?_ _|refine bd ?_|refine ba ?_ _));refine bp (cs:=#[.int .i64 256,.int .i64 256,.int .i64 256,.int .i64 256,.int .i64 0,.int .i64 0,.int .i64 0,.int .i64 0]) ?_ 5 _ rfl;(with_reducible repeat (first|refine bn ?_ _|refine bd ?_|refine ba ?_ _));refine bp (cs:=#[.int .i64 256,.int .i64 256,.int .i64 256,.int .i64 256,.int .i64 0,.int .i64 0,.int .i64 0,.int .i64 0]) ?_ 4 _ rfl;(with_reducible repeat (first|refine bn ?_ _|refine bd ?_|refine ba ?_ _));refine bp (cs:=#[.int .i64 256,.int .i64 256,.int .i64 256,.int .i64 0,.int .i64 0,.int .i64 0,.int .i64 0,.int .i64 0]) ?_ 3 _ rfl;(with_reducible repeat (first|refine bn ?_ _|refine bd ?_|refine ba ?_ _));refine bp (cs:=#[.int .i64 256,.int .i64 256,.int .i64 0,.int .i64 0,.int .i64 0,.int .i64 0,.int .i64 0,.int .i64 0]) ?_ 2 _ rfl;(with_reducible repeat (first|refine bn ?_ _|refine bd ?_|refine ba ?_ _));refine bp (cs:=#[.int .i64 256,.int .i64 0,.int .i64 0,.int .i64 0,.int .i64 0,.int .i64 0,.int .i64 0,.int .i64 0]) ?_ 1 _ rfl;(with_reducible repeat (first|refine bn ?_ _|refine bd ?_|refine ba ?_ _));refine bp (cs:=#[.int .i64 0,.int .i64 0,.int .i64 0,.int .i64 0,.int .i64 0,.int .i64 0,.int .i64 0,.int .i64 0]) ?_ 0 _ rfl;(with_reducible repeat (first|refine bn ?_ _|refine bd ?_|refine ba ?_ _));exact BK506.out⟩;have n5_ : Aside0 (Below w.heap.size w ((((((((w14.setCell ⟨gb506,0,none⟩ (.int .i64 256)).setCell ⟨gb506,1,none⟩ (.int .i64 256)).setCell ⟨gb506,2,none⟩ (.int .i64 256)).setCell ⟨gb506,3,none⟩ (.int .i64 256)).setCell ⟨gb506,4,none⟩ (.int .i64 0)).setCell ⟨gb506,5,none⟩ (.int .i64 0)).setCell ⟨gb506,6,none⟩ (.int .i64 0)).setCell ⟨gb506,7,none⟩ (.int .i64 0))):=⟨by repeat (first|(with_reducible first|exact HB.out|apply sa|apply sn|apply sd|refine sy ?_ (by assumption))|exact HB.out)⟩;(try clear BK502);(try clear BK503);(try clear BK504);(try clear BK505);(try clear BK506);(try clear HB);generalize ((((((((w14.setCell ⟨gb506,0,none⟩ (.int .i64 256)).setCell ⟨gb506,1,none⟩ (.int .i64 256)).setCell ⟨gb506,2,none⟩ (.int .i64 256)).setCell ⟨gb506,3,none⟩ (.int .i64 256)).setCell ⟨gb506,4,none⟩ (.int .i64 0)).setCell ⟨gb506,5,none⟩ (.int .i64 0)).setCell ⟨gb506,6,none⟩ (.int .i64 0)).setCell ⟨gb506,7,none⟩ (.int .i64 0)) = w20 at n0_ n1_ n2_ n3_ n4_ n5_ ⊢;have BK502:=n0_;have BK503:=n1_;have BK504:=n2_;have BK505:=n3_;have BK506:=n4_;have HB:=n5_;clear n0_ n1_ n2_ n3_ n4_ n5_;replace BK502:=am (bd BK502.out);replace BK503:=am (bd BK503.out);replace BK504:=am (bd BK504.out);replace BK505:=am (bd BK505.out);replace BK506:=am (bd BK506.out);replace HB:=am (sd HB.out);refine start_ (n:=9) (S:=fun w' => w'.cell? ⟨gb502,0,none⟩ = some (.int .i64 a0_0) ∧ w'.cell? ⟨gb502,1,none⟩ = some (.int .i64 a0_1) ∧ w'.cell? ⟨gb502,2,none⟩ = some (.int .i64 a0_2) ∧ w'.cell? ⟨gb502,3,none⟩ = some (.int .i64 a0_3) ∧ w'.cell? ⟨gb502,4,none⟩ = some (.int .i64 a0_4) ∧ w'.cell? ⟨gb502,5,none⟩ = some (.int .i64 a0_5)) (ds:=[]) #[false,false,false,false,false,false,false,false,false] (by kernel_rfl) rfl rfl ⟨(bc BK502.out 0).trans rfl,(bc BK502.out 1).trans rfl,(bc BK502.out 2).trans rfl,(bc BK502.out 3).trans rfl,(bc BK502.out 4).trans rfl,(bc BK502.out 5).trans rfl⟩ (fun hHeld => ?_);refine with_tabW celluloidlaw14_AffineSame.tab2 celluloidlaw14_AffineSame.bits2 (fun HT_ HW_ => ?_);generalize w20.drew = w21 at BK502 BK503 BK504 BK505 BK506 HB hHeld ⊢;refine take_ (i:=0) (N:=some 19) (v:=?_) (a':=?_) #[true,false,false,false,false,false,false,false,false] rfl rfl (take_ofW HT_.out HW_.out (by kernel_rfl)) (fun _ _ _ h => h) (Or.inl ⟨by rfl,?_⟩) hHeld ?_ ?_
  rotate_left
  · rintro w' ⟨s0,s1,s2,s3,s4,s5⟩
    go_simp
    with_reducible rfl
  rotate_left
  · simp only [Act.put,q1,q2,q3,i64_w,i32_w]
    rfl
  refine join_ (σ:=Nat) 2 #[true,true,true,true,true,true,true,false,false] (fun s_ => [(20,.agg #[.int .i64 t507,.int .i64 t508,.int .i64 t509,.int .i64 t510,.int .i64 t511,.int .i64 t512]),(21,.tuple #[.agg #[.int .i64 t513,.int .i64 t514,.int .i64 t515,.int .i64 t516,.int .i64 t517,.int .i64 t518],.int .i64 t519]),(10,.pointer (some ⟨s_,0,none⟩)),(18,.tuple #[.agg #[.int .i64 t513,.int .i64 t514,.int .i64 t515,.int .i64 t516,.int .i64 t517,.int .i64 t518],.int .i64 t519]),(22,.agg #[.int .i64 t513,.int .i64 t514,.int .i64 t515,.int .i64 t516,.int .i64 t517,.int .i64 t518]),(23,.int .i64 t519)]) (fun s_ w' => (w'.cell? ⟨gb502,0,none⟩ = some (.int .i64 a0_0) ∧ w'.cell? ⟨gb502,1,none⟩ = some (.int .i64 a0_1) ∧ w'.cell? ⟨gb502,2,none⟩ = some (.int .i64 a0_2) ∧ w'.cell? ⟨gb502,3,none⟩ = some (.int .i64 a0_3) ∧ w'.cell? ⟨gb502,4,none⟩ = some (.int .i64 a0_4) ∧ w'.cell? ⟨gb502,5,none⟩ = some (.int .i64 a0_5)) ∧ (w'.heap[gb502]? = some (.cells #[.int .i64 a0_0,.int .i64 a0_1,.int .i64 a0_2,.int .i64 a0_3,.int .i64 a0_4,.int .i64 a0_5] 23 (0,0))) ∧ (w'.heap[gb503]? = some (.cells #[.int .i64 a1_0,.int .i64 a1_1,.int .i64 a1_2,.int .i64 a1_3,.int .i64 a1_4,.int .i64 a1_5,.int .i64 a1_6,.int .i64 a1_7] 41 (0,0))) ∧ (w'.heap[gb504]? = some (.cells #[.int .i64 a2_0,.int .i64 a2_1,.int .i64 a2_2,.int .i64 a2_3] 43 (0,0))) ∧ (w'.heap[gb505]? = some (.cells #[.int .i64 a3_0,.int .i64 a3_1] 25 (0,0))) ∧ (w'.heap[gb506]? = some (.cells #[.int .i64 256,.int .i64 256,.int .i64 256,.int .i64 256,.int .i64 0,.int .i64 0,.int .i64 0,.int .i64 0] 41 (0,0))) ∧ (w'.heap[s_]? = some (.cells #[.int .i64 0,.int .i64 0,.int .i64 0,.int .i64 0,.int .i64 0,.int .i64 0] 23 (0,0))) ∧ (w.heap.size ≤ s_) ∧ (w.heap.size ≤ s_) ∧ (gb502 ≠ s_) ∧ (s_ ≠ gb502) ∧ (gb503 ≠ s_) ∧ (s_ ≠ gb503) ∧ (gb504 ≠ s_) ∧ (s_ ≠ gb504) ∧ (gb505 ≠ s_) ∧ (s_ ≠ gb505) ∧ (gb506 ≠ s_) ∧ (s_ ≠ gb506) ∧ (Below w.heap.size w w')) ?_ ?_
  rotate_left
  · intro hCont
    refine two_ (i:=1) (j:=6) (Ni:=some 20) (Nj:=some 10) #[true,true,false,false,false,false,false,false,false] #[true,false,false,false,false,false,true,false,false] rfl rfl rfl rfl (two_of HT_.out (by kernel_rfl)) (by decide) (by decide) (fun K hK => ?_) (fun K hK => ?_)
    · skip
      refine goes_ Try.func30 (by kernel_rfl) rfl #[] (by rfl) rfl rfl (by (try simp only [List.map_toArray,List.map_cons,List.map_nil]);first|done|rfl|(simp only [List.length_drop,List.length_take];rfl)) ?_
      with_reducible refine (celluloidlaw14_same.calls  t507 t508 t509 t510 t511 t512 _ A5.out).mono ?_
      rintro e w22 ⟨rfl,hb⟩
      refine ⟨_,rfl,?_⟩;replace BK502:=am (bw (by exact BK502.out) hb);replace BK503:=am (bw (by exact BK503.out) hb);replace BK504:=am (bw (by exact BK504.out) hb);replace BK505:=am (bw (by exact BK505.out) hb);replace BK506:=am (bw (by exact BK506.out) hb);replace HB:=am (ss (by repeat (first|(with_reducible first|exact HB.out|apply sa|apply sn|apply sd|refine sy ?_ (by assumption))|exact HB.out)) hb);(try clear hb);(try clear hb2);(try clear hk);(try clear hi);refine hK.out _ _ ⟨(bc BK502.out 0).trans rfl,(bc BK502.out 1).trans rfl,(bc BK502.out 2).trans rfl,(bc BK502.out 3).trans rfl,(bc BK502.out 4).trans rfl,(bc BK502.out 5).trans rfl⟩ (fun hHeld => ?_);clear hK K;refine norm_ (a':=?_) ?_ ?_
      rotate_left
      · show Act.put _ (some 20) _ = _
        simp only [Act.put,q1,q2,q3,i64_w,i32_w]
        rfl
      refine two_ (i:=2) (j:=6) (Ni:=some 21) (Nj:=some 10) #[true,true,true,false,false,false,false,false,false] #[true,true,false,false,false,false,true,false,false] rfl rfl rfl rfl (two_of HT_.out (by kernel_rfl)) (by decide) (by decide) (fun K hK => ?_) (fun K hK => ?_)
      · skip
        refine goes_ Try.func26 (by kernel_rfl) rfl #[.agg #[.int .i64 a0_0,.int .i64 a0_1,.int .i64 a0_2,.int .i64 a0_3,.int .i64 a0_4,.int .i64 a0_5],.agg #[.int .i64 t507,.int .i64 t508,.int .i64 t509,.int .i64 t510,.int .i64 t511,.int .i64 t512]] (by rfl) rfl rfl (by (try simp only [List.map_toArray,List.map_cons,List.map_nil]);first|done|rfl|(simp only [List.length_drop,List.length_take];rfl)) ?_
        with_reducible refine (affine_Compose.calls k a0_0 a0_1 a0_2 a0_3 a0_4 a0_5 t507 t508 t509 t510 t511 t512 t513 t514 t515 t516 t517 t518 t519 _ A6.out).mono ?_
        rintro e w23 ⟨rfl,hb⟩
        refine ⟨_,rfl,?_⟩;replace BK502:=am (bw (by exact BK502.out) hb);replace BK503:=am (bw (by exact BK503.out) hb);replace BK504:=am (bw (by exact BK504.out) hb);replace BK505:=am (bw (by exact BK505.out) hb);replace BK506:=am (bw (by exact BK506.out) hb);replace HB:=am (ss (by repeat (first|(with_reducible first|exact HB.out|apply sa|apply sn|apply sd|refine sy ?_ (by assumption))|exact HB.out)) hb);(try clear hb);(try clear hb2);(try clear hk);(try clear hi);refine hK.out _ _ ⟨(bc BK502.out 0).trans rfl,(bc BK502.out 1).trans rfl,(bc BK502.out 2).trans rfl,(bc BK502.out 3).trans rfl,(bc BK502.out 4).trans rfl,(bc BK502.out 5).trans rfl⟩ (fun hHeld => ?_);clear hK K;refine norm_ (a':=?_) ?_ ?_
        rotate_left
        · show Act.put _ (some 21) _ = _
          simp only [Act.put,q1,q2,q3,i64_w,i32_w]
          rfl
        refine pure_ (i:=3) (N:=some 18) (v:=?_) (a':=?_) #[true,true,true,true,false,false,false,false,false] rfl rfl (any_of HT_.out (by kernel_rfl)) (fun _ _ _ h => h) (Or.inl ⟨by rfl,?_⟩) ?_ ?_
        rotate_left
        · intro w'
          go_simp
          with_reducible rfl
        rotate_left
        · simp only [Act.put,q1,q2,q3,i64_w,i32_w]
          rfl
        refine pure_ (i:=4) (N:=some 22) (v:=?_) (a':=?_) #[true,true,true,true,true,false,false,false,false] rfl rfl (any_of HT_.out (by kernel_rfl)) (fun _ _ _ h => h) (Or.inl ⟨by rfl,?_⟩) ?_ ?_
        rotate_left
        · intro w'
          go_simp
          with_reducible rfl
        rotate_left
        · simp only [Act.put,q1,q2,q3,i64_w,i32_w]
          rfl
        refine pure_ (i:=5) (N:=some 23) (v:=?_) (a':=?_) #[true,true,true,true,true,true,false,false,false] rfl rfl (any_of HT_.out (by kernel_rfl)) (fun _ _ _ h => h) (Or.inl ⟨by rfl,?_⟩) ?_ ?_
        rotate_left
        · intro w'
          go_simp
          with_reducible rfl
        rotate_left
        · simp only [Act.put,q1,q2,q3,i64_w,i32_w]
          rfl
        refine one_ (i:=6) (N:=some 10) #[true,true,true,true,true,true,true,false,false] rfl rfl (one_of HT_.out (by kernel_rfl)) (by decide) (fun K hK => ?_);refine box_step ?hg (N:=10) ?hd (cs:=#[.int .i64 0,.int .i64 0,.int .i64 0,.int .i64 0,.int .i64 0,.int .i64 0]) (t:=23) ?hr ?_;(case hd => rfl);(case hg => rfl);(case hr => first|(go_simp;done)|(go_simp;rfl))
        intro gb520 hg w24 hbox hb
        have BK520:=am (hbox);have GW520:=am ((by rw [hg];exact (sz (by repeat (first|(with_reducible first|exact HB.out|apply sa|apply sn|apply sd|refine sy ?_ (by assumption))|exact HB.out))) : w.heap.size ≤ gb520));have GE520:=am ((by rw [hg];exact (sz (by repeat (first|(with_reducible first|exact HB.out|apply sa|apply sn|apply sd|refine sy ?_ (by assumption))|exact HB.out))) : w.heap.size ≤ gb520));replace HB:=am (ss (by repeat (first|(with_reducible first|exact HB.out|apply sa|apply sn|apply sd|refine sy ?_ (by assumption))|exact HB.out)) hb);have NB502_520:=nb (by exact BK502.out) hg;have NB520_502:=ng (by exact BK502.out) hg;replace BK502:=am (bw (by exact BK502.out) hb);have NB503_520:=nb (by exact BK503.out) hg;have NB520_503:=ng (by exact BK503.out) hg;replace BK503:=am (bw (by exact BK503.out) hb);have NB504_520:=nb (by exact BK504.out) hg;have NB520_504:=ng (by exact BK504.out) hg;replace BK504:=am (bw (by exact BK504.out) hb);have NB505_520:=nb (by exact BK505.out) hg;have NB520_505:=ng (by exact BK505.out) hg;replace BK505:=am (bw (by exact BK505.out) hb);have NB506_520:=nb (by exact BK506.out) hg;have NB520_506:=ng (by exact BK506.out) hg;replace BK506:=am (bw (by exact BK506.out) hb);clear hb hbox hg;refine hK.out _ _ ⟨(bc BK502.out 0).trans rfl,(bc BK502.out 1).trans rfl,(bc BK502.out 2).trans rfl,(bc BK502.out 3).trans rfl,(bc BK502.out 4).trans rfl,(bc BK502.out 5).trans rfl⟩ (fun hHeld => ?_);clear hK K;refine norm_ (a':=?_) ?_ ?_
        rotate_left
        · show Act.put _ (some 10) _ = _
          simp only [Act.put,q1,q2,q3,i64_w,i32_w]
          rfl
        exact norm_ (by simp only [putAll,Act.put,q1,q2,q3]) (hCont (gb520) _ ⟨hHeld,(by exact BK502.out),(by exact BK503.out),(by exact BK504.out),(by exact BK505.out),(by exact BK506.out),(by exact BK520.out),GW520.out,GE520.out,NB502_520.out,NB520_502.out,NB503_520.out,NB520_503.out,NB504_520.out,NB520_504.out,NB505_520.out,NB520_505.out,NB506_520.out,NB520_506.out,(by repeat (first|(with_reducible first|exact HB.out|apply sa|apply sn|apply sd|refine sy ?_ (by assumption))|exact HB.out))⟩)
      · skip
        refine box_step ?hg (N:=10) ?hd (cs:=#[.int .i64 0,.int .i64 0,.int .i64 0,.int .i64 0,.int .i64 0,.int .i64 0]) (t:=23) ?hr ?_;(case hd => rfl);(case hg => rfl);(case hr => first|(go_simp;done)|(go_simp;rfl))
        intro gb520 hg w23 hbox hb
        have BK520:=am (hbox);have GW520:=am ((by rw [hg];exact (sz (by repeat (first|(with_reducible first|exact HB.out|apply sa|apply sn|apply sd|refine sy ?_ (by assumption))|exact HB.out))) : w.heap.size ≤ gb520));have GE520:=am ((by rw [hg];exact (sz (by repeat (first|(with_reducible first|exact HB.out|apply sa|apply sn|apply sd|refine sy ?_ (by assumption))|exact HB.out))) : w.heap.size ≤ gb520));replace HB:=am (ss (by repeat (first|(with_reducible first|exact HB.out|apply sa|apply sn|apply sd|refine sy ?_ (by assumption))|exact HB.out)) hb);have NB502_520:=nb (by exact BK502.out) hg;have NB520_502:=ng (by exact BK502.out) hg;replace BK502:=am (bw (by exact BK502.out) hb);have NB503_520:=nb (by exact BK503.out) hg;have NB520_503:=ng (by exact BK503.out) hg;replace BK503:=am (bw (by exact BK503.out) hb);have NB504_520:=nb (by exact BK504.out) hg;have NB520_504:=ng (by exact BK504.out) hg;replace BK504:=am (bw (by exact BK504.out) hb);have NB505_520:=nb (by exact BK505.out) hg;have NB520_505:=ng (by exact BK505.out) hg;replace BK505:=am (bw (by exact BK505.out) hb);have NB506_520:=nb (by exact BK506.out) hg;have NB520_506:=ng (by exact BK506.out) hg;replace BK506:=am (bw (by exact BK506.out) hb);clear hb hbox hg;refine hK.out _ _ ⟨(bc BK502.out 0).trans rfl,(bc BK502.out 1).trans rfl,(bc BK502.out 2).trans rfl,(bc BK502.out 3).trans rfl,(bc BK502.out 4).trans rfl,(bc BK502.out 5).trans rfl⟩ (fun hHeld => ?_);clear hK K;refine norm_ (a':=?_) ?_ ?_
        rotate_left
        · show Act.put _ (some 10) _ = _
          simp only [Act.put,q1,q2,q3,i64_w,i32_w]
          rfl
        refine one_ (i:=2) (N:=some 21) #[true,true,true,false,false,false,true,false,false] rfl rfl (one_of HT_.out (by kernel_rfl)) (by decide) (fun K hK => ?_);refine goes_ Try.func26 (by kernel_rfl) rfl #[.agg #[.int .i64 a0_0,.int .i64 a0_1,.int .i64 a0_2,.int .i64 a0_3,.int .i64 a0_4,.int .i64 a0_5],.agg #[.int .i64 t507,.int .i64 t508,.int .i64 t509,.int .i64 t510,.int .i64 t511,.int .i64 t512]] (by rfl) rfl rfl (by (try simp only [List.map_toArray,List.map_cons,List.map_nil]);first|done|rfl|(simp only [List.length_drop,List.length_take];rfl)) ?_
        with_reducible refine (affine_Compose.calls k a0_0 a0_1 a0_2 a0_3 a0_4 a0_5 t507 t508 t509 t510 t511 t512 t513 t514 t515 t516 t517 t518 t519 _ A6.out).mono ?_
        rintro e w24 ⟨rfl,hb⟩
        refine ⟨_,rfl,?_⟩;replace BK502:=am (bw (by exact BK502.out) hb);replace BK503:=am (bw (by exact BK503.out) hb);replace BK504:=am (bw (by exact BK504.out) hb);replace BK505:=am (bw (by exact BK505.out) hb);replace BK506:=am (bw (by exact BK506.out) hb);replace BK520:=am (bw (by exact BK520.out) hb);replace HB:=am (ss (by repeat (first|(with_reducible first|exact HB.out|apply sa|apply sn|apply sd|refine sy ?_ (by assumption))|exact HB.out)) hb);(try clear hb);(try clear hb2);(try clear hk);(try clear hi);refine hK.out _ _ ⟨(bc BK502.out 0).trans rfl,(bc BK502.out 1).trans rfl,(bc BK502.out 2).trans rfl,(bc BK502.out 3).trans rfl,(bc BK502.out 4).trans rfl,(bc BK502.out 5).trans rfl⟩ (fun hHeld => ?_);clear hK K;refine norm_ (a':=?_) ?_ ?_
        rotate_left
        · show Act.put _ (some 21) _ = _
          simp only [Act.put,q1,q2,q3,i64_w,i32_w]
          rfl
        refine pure_ (i:=3) (N:=some 18) (v:=?_) (a':=?_) #[true,true,true,true,false,false,true,false,false] rfl rfl (any_of HT_.out (by kernel_rfl)) (fun _ _ _ h => h) (Or.inl ⟨by rfl,?_⟩) ?_ ?_
        rotate_left
        · intro w'
          go_simp
          with_reducible rfl
        rotate_left
        · simp only [Act.put,q1,q2,q3,i64_w,i32_w]
          rfl
        refine pure_ (i:=4) (N:=some 22) (v:=?_) (a':=?_) #[true,true,true,true,true,false,true,false,false] rfl rfl (any_of HT_.out (by kernel_rfl)) (fun _ _ _ h => h) (Or.inl ⟨by rfl,?_⟩) ?_ ?_
        rotate_left
        · intro w'
          go_simp
          with_reducible rfl
        rotate_left
        · simp only [Act.put,q1,q2,q3,i64_w,i32_w]
          rfl
        refine pure_ (i:=5) (N:=some 23) (v:=?_) (a':=?_) #[true,true,true,true,true,true,true,false,false] rfl rfl (any_of HT_.out (by kernel_rfl)) (fun _ _ _ h => h) (Or.inl ⟨by rfl,?_⟩) ?_ ?_
        rotate_left
        · intro w'
          go_simp
          with_reducible rfl
        rotate_left
        · simp only [Act.put,q1,q2,q3,i64_w,i32_w]
          rfl
        exact norm_ (by simp only [putAll,Act.put,q1,q2,q3]) (hCont (gb520) _ ⟨hHeld,(by exact BK502.out),(by exact BK503.out),(by exact BK504.out),(by exact BK505.out),(by exact BK506.out),(by exact BK520.out),GW520.out,GE520.out,NB502_520.out,NB520_502.out,NB503_520.out,NB520_503.out,NB504_520.out,NB520_504.out,NB505_520.out,NB520_505.out,NB506_520.out,NB520_506.out,(by repeat (first|(with_reducible first|exact HB.out|apply sa|apply sn|apply sd|refine sy ?_ (by assumption))|exact HB.out))⟩)
    · skip
      refine box_step ?hg (N:=10) ?hd (cs:=#[.int .i64 0,.int .i64 0,.int .i64 0,.int .i64 0,.int .i64 0,.int .i64 0]) (t:=23) ?hr ?_;(case hd => rfl);(case hg => rfl);(case hr => first|(go_simp;done)|(go_simp;rfl))
      intro gb520 hg w22 hbox hb
      have BK520:=am (hbox);have GW520:=am ((by rw [hg];exact (sz (by repeat (first|(with_reducible first|exact HB.out|apply sa|apply sn|apply sd|refine sy ?_ (by assumption))|exact HB.out))) : w.heap.size ≤ gb520));have GE520:=am ((by rw [hg];exact (sz (by repeat (first|(with_reducible first|exact HB.out|apply sa|apply sn|apply sd|refine sy ?_ (by assumption))|exact HB.out))) : w.heap.size ≤ gb520));replace HB:=am (ss (by repeat (first|(with_reducible first|exact HB.out|apply sa|apply sn|apply sd|refine sy ?_ (by assumption))|exact HB.out)) hb);have NB502_520:=nb (by exact BK502.out) hg;have NB520_502:=ng (by exact BK502.out) hg;replace BK502:=am (bw (by exact BK502.out) hb);have NB503_520:=nb (by exact BK503.out) hg;have NB520_503:=ng (by exact BK503.out) hg;replace BK503:=am (bw (by exact BK503.out) hb);have NB504_520:=nb (by exact BK504.out) hg;have NB520_504:=ng (by exact BK504.out) hg;replace BK504:=am (bw (by exact BK504.out) hb);have NB505_520:=nb (by exact BK505.out) hg;have NB520_505:=ng (by exact BK505.out) hg;replace BK505:=am (bw (by exact BK505.out) hb);have NB506_520:=nb (by exact BK506.out) hg;have NB520_506:=ng (by exact BK506.out) hg;replace BK506:=am (bw (by exact BK506.out) hb);clear hb hbox hg;refine hK.out _ _ ⟨(bc BK502.out 0).trans rfl,(bc BK502.out 1).trans rfl,(bc BK502.out 2).trans rfl,(bc BK502.out 3).trans rfl,(bc BK502.out 4).trans rfl,(bc BK502.out 5).trans rfl⟩ (fun hHeld => ?_);clear hK K;refine norm_ (a':=?_) ?_ ?_
      rotate_left
      · show Act.put _ (some 10) _ = _
        simp only [Act.put,q1,q2,q3,i64_w,i32_w]
        rfl
      refine one_ (i:=1) (N:=some 20) #[true,true,false,false,false,false,true,false,false] rfl rfl (one_of HT_.out (by kernel_rfl)) (by decide) (fun K hK => ?_);refine goes_ Try.func30 (by kernel_rfl) rfl #[] (by rfl) rfl rfl (by (try simp only [List.map_toArray,List.map_cons,List.map_nil]);first|done|rfl|(simp only [List.length_drop,List.length_take];rfl)) ?_
      with_reducible refine (celluloidlaw14_same.calls  t507 t508 t509 t510 t511 t512 _ A5.out).mono ?_
      rintro e w23 ⟨rfl,hb⟩
      refine ⟨_,rfl,?_⟩;replace BK502:=am (bw (by exact BK502.out) hb);replace BK503:=am (bw (by exact BK503.out) hb);replace BK504:=am (bw (by exact BK504.out) hb);replace BK505:=am (bw (by exact BK505.out) hb);replace BK506:=am (bw (by exact BK506.out) hb);replace BK520:=am (bw (by exact BK520.out) hb);replace HB:=am (ss (by repeat (first|(with_reducible first|exact HB.out|apply sa|apply sn|apply sd|refine sy ?_ (by assumption))|exact HB.out)) hb);(try clear hb);(try clear hb2);(try clear hk);(try clear hi);refine hK.out _ _ ⟨(bc BK502.out 0).trans rfl,(bc BK502.out 1).trans rfl,(bc BK502.out 2).trans rfl,(bc BK502.out 3).trans rfl,(bc BK502.out 4).trans rfl,(bc BK502.out 5).trans rfl⟩ (fun hHeld => ?_);clear hK K;refine norm_ (a':=?_) ?_ ?_
      rotate_left
      · show Act.put _ (some 20) _ = _
        simp only [Act.put,q1,q2,q3,i64_w,i32_w]
        rfl
      refine one_ (i:=2) (N:=some 21) #[true,true,true,false,false,false,true,false,false] rfl rfl (one_of HT_.out (by kernel_rfl)) (by decide) (fun K hK => ?_);refine goes_ Try.func26 (by kernel_rfl) rfl #[.agg #[.int .i64 a0_0,.int .i64 a0_1,.int .i64 a0_2,.int .i64 a0_3,.int .i64 a0_4,.int .i64 a0_5],.agg #[.int .i64 t507,.int .i64 t508,.int .i64 t509,.int .i64 t510,.int .i64 t511,.int .i64 t512]] (by rfl) rfl rfl (by (try simp only [List.map_toArray,List.map_cons,List.map_nil]);first|done|rfl|(simp only [List.length_drop,List.length_take];rfl)) ?_
      with_reducible refine (affine_Compose.calls k a0_0 a0_1 a0_2 a0_3 a0_4 a0_5 t507 t508 t509 t510 t511 t512 t513 t514 t515 t516 t517 t518 t519 _ A6.out).mono ?_
      rintro e w24 ⟨rfl,hb⟩
      refine ⟨_,rfl,?_⟩;replace BK502:=am (bw (by exact BK502.out) hb);replace BK503:=am (bw (by exact BK503.out) hb);replace BK504:=am (bw (by exact BK504.out) hb);replace BK505:=am (bw (by exact BK505.out) hb);replace BK506:=am (bw (by exact BK506.out) hb);replace BK520:=am (bw (by exact BK520.out) hb);replace HB:=am (ss (by repeat (first|(with_reducible first|exact HB.out|apply sa|apply sn|apply sd|refine sy ?_ (by assumption))|exact HB.out)) hb);(try clear hb);(try clear hb2);(try clear hk);(try clear hi);refine hK.out _ _ ⟨(bc BK502.out 0).trans rfl,(bc BK502.out 1).trans rfl,(bc BK502.out 2).trans rfl,(bc BK502.out 3).trans rfl,(bc BK502.out 4).trans rfl,(bc BK502.out 5).trans rfl⟩ (fun hHeld => ?_);clear hK K;refine norm_ (a':=?_) ?_ ?_
      rotate_left
      · show Act.put _ (some 21) _ = _
        simp only [Act.put,q1,q2,q3,i64_w,i32_w]
        rfl
      refine pure_ (i:=3) (N:=some 18) (v:=?_) (a':=?_) #[true,true,true,true,false,false,true,false,false] rfl rfl (any_of HT_.out (by kernel_rfl)) (fun _ _ _ h => h) (Or.inl ⟨by rfl,?_⟩) ?_ ?_
      rotate_left
      · intro w'
        go_simp
        with_reducible rfl
      rotate_left
      · simp only [Act.put,q1,q2,q3,i64_w,i32_w]
        rfl
      refine pure_ (i:=4) (N:=some 22) (v:=?_) (a':=?_) #[true,true,true,true,true,false,true,false,false] rfl rfl (any_of HT_.out (by kernel_rfl)) (fun _ _ _ h => h) (Or.inl ⟨by rfl,?_⟩) ?_ ?_
      rotate_left
      · intro w'
        go_simp
        with_reducible rfl
      rotate_left
      · simp only [Act.put,q1,q2,q3,i64_w,i32_w]
        rfl
      refine pure_ (i:=5) (N:=some 23) (v:=?_) (a':=?_) #[true,true,true,true,true,true,true,false,false] rfl rfl (any_of HT_.out (by kernel_rfl)) (fun _ _ _ h => h) (Or.inl ⟨by rfl,?_⟩) ?_ ?_
      rotate_left
      · intro w'
        go_simp
        with_reducible rfl
      rotate_left
      · simp only [Act.put,q1,q2,q3,i64_w,i32_w]
        rfl
      exact norm_ (by simp only [putAll,Act.put,q1,q2,q3]) (hCont (gb520) _ ⟨hHeld,(by exact BK502.out),(by exact BK503.out),(by exact BK504.out),(by exact BK505.out),(by exact BK506.out),(by exact BK520.out),GW520.out,GE520.out,NB502_520.out,NB520_502.out,NB503_520.out,NB520_503.out,NB504_520.out,NB520_504.out,NB505_520.out,NB520_505.out,NB506_520.out,NB520_506.out,(by repeat (first|(with_reducible first|exact HB.out|apply sa|apply sn|apply sd|refine sy ?_ (by assumption))|exact HB.out))⟩)
  rintro gb520 w25 ⟨hS_,h0_,h1_,h2_,h3_,h4_,h5_,h6_,h7_,h8_,h9_,h10_,h11_,h12_,h13_,h14_,h15_,h16_,h17_,h18_⟩
  have n0_ : Aside0 (w25.heap[gb502]? = some (.cells #[.int .i64 a0_0,.int .i64 a0_1,.int .i64 a0_2,.int .i64 a0_3,.int .i64 a0_4,.int .i64 a0_5] 23 (0,0))):=⟨h0_⟩;have n1_ : Aside0 (w25.heap[gb503]? = some (.cells #[.int .i64 a1_0,.int .i64 a1_1,.int .i64 a1_2,.int .i64 a1_3,.int .i64 a1_4,.int .i64 a1_5,.int .i64 a1_6,.int .i64 a1_7] 41 (0,0))):=⟨h1_⟩;have n2_ : Aside0 (w25.heap[gb504]? = some (.cells #[.int .i64 a2_0,.int .i64 a2_1,.int .i64 a2_2,.int .i64 a2_3] 43 (0,0))):=⟨h2_⟩;have n3_ : Aside0 (w25.heap[gb505]? = some (.cells #[.int .i64 a3_0,.int .i64 a3_1] 25 (0,0))):=⟨h3_⟩;have n4_ : Aside0 (w25.heap[gb506]? = some (.cells #[.int .i64 256,.int .i64 256,.int .i64 256,.int .i64 256,.int .i64 0,.int .i64 0,.int .i64 0,.int .i64 0] 41 (0,0))):=⟨h4_⟩;have n5_ : Aside0 (w25.heap[gb520]? = some (.cells #[.int .i64 0,.int .i64 0,.int .i64 0,.int .i64 0,.int .i64 0,.int .i64 0] 23 (0,0))):=⟨h5_⟩;have n6_ : Aside0 (w.heap.size ≤ gb520):=⟨h6_⟩;have n7_ : Aside0 (w.heap.size ≤ gb520):=⟨h7_⟩;have n8_ : Aside0 (gb502 ≠ gb520):=⟨h8_⟩;have n9_ : Aside0 (gb520 ≠ gb502):=⟨h9_⟩;have n10_ : Aside0 (gb503 ≠ gb520):=⟨h10_⟩;have n11_ : Aside0 (gb520 ≠ gb503):=⟨h11_⟩;have n12_ : Aside0 (gb504 ≠ gb520):=⟨h12_⟩;have n13_ : Aside0 (gb520 ≠ gb504):=⟨h13_⟩;have n14_ : Aside0 (gb505 ≠ gb520):=⟨h14_⟩;have n15_ : Aside0 (gb520 ≠ gb505):=⟨h15_⟩;have n16_ : Aside0 (gb506 ≠ gb520):=⟨h16_⟩;have n17_ : Aside0 (gb520 ≠ gb506):=⟨h17_⟩;have n18_ : Aside0 (Below w.heap.size w w25):=⟨h18_⟩;clear BK502;clear BK503;clear BK504;clear BK505;clear BK506;clear HB;clear h0_ h1_ h2_ h3_ h4_ h5_ h6_ h7_ h8_ h9_ h10_ h11_ h12_ h13_ h14_ h15_ h16_ h17_ h18_;have BK502:=n0_;have BK503:=n1_;have BK504:=n2_;have BK505:=n3_;have BK506:=n4_;have BK520:=n5_;have GW520:=n6_;have GE520:=n7_;have NB502_520:=n8_;have NB520_502:=n9_;have NB503_520:=n10_;have NB520_503:=n11_;have NB504_520:=n12_;have NB520_504:=n13_;have NB505_520:=n14_;have NB520_505:=n15_;have NB506_520:=n16_;have NB520_506:=n17_;have HB:=n18_;clear n0_ n1_ n2_ n3_ n4_ n5_ n6_ n7_ n8_ n9_ n10_ n11_ n12_ n13_ n14_ n15_ n16_ n17_ n18_;have hHeld : w25.cell? ⟨gb502,0,none⟩ = some (.int .i64 a0_0) ∧ w25.cell? ⟨gb502,1,none⟩ = some (.int .i64 a0_1) ∧ w25.cell? ⟨gb502,2,none⟩ = some (.int .i64 a0_2) ∧ w25.cell? ⟨gb502,3,none⟩ = some (.int .i64 a0_3) ∧ w25.cell? ⟨gb502,4,none⟩ = some (.int .i64 a0_4) ∧ w25.cell? ⟨gb502,5,none⟩ = some (.int .i64 a0_5):=hS_;refine norm_ (a':=?_) ?_ ?_
  rotate_left
  · simp only [putAll,Act.put,q1,q2,q3]
    rfl
  refine one_ (i:=7) (N:=none) #[true,true,true,true,true,true,true,true,false] rfl rfl (one_of HT_.out (by kernel_rfl)) (by decide) (fun K hK => ?_);have hs26 : w25.cell? ⟨gb520,0,none⟩ = some (.int .i64 0):=(bc BK520.out 0).trans rfl;have hfs26:=bz BK520.out 0;have hns26_0:=NB502_520.out;have hns26_1:=NB503_520.out;have hns26_2:=NB504_520.out;have hns26_3:=NB505_520.out;have hns26_4:=NB506_520.out;have hms26_0:=NB520_502.out;have hms26_1:=NB520_503.out;have hms26_2:=NB520_504.out;have hms26_3:=NB520_505.out;have hms26_4:=NB520_506.out;have hs27 : w25.cell? ⟨gb520,1,none⟩ = some (.int .i64 0):=(bc BK520.out 1).trans rfl;have hfs27:=bz BK520.out 1;have hns27_0:=NB502_520.out;have hns27_1:=NB503_520.out;have hns27_2:=NB504_520.out;have hns27_3:=NB505_520.out;have hns27_4:=NB506_520.out;have hms27_0:=NB520_502.out;have hms27_1:=NB520_503.out;have hms27_2:=NB520_504.out;have hms27_3:=NB520_505.out;have hms27_4:=NB520_506.out;have hs28 : w25.cell? ⟨gb520,2,none⟩ = some (.int .i64 0):=(bc BK520.out 2).trans rfl;have hfs28:=bz BK520.out 2;have hns28_0:=NB502_520.out;have hns28_1:=NB503_520.out;have hns28_2:=NB504_520.out;have hns28_3:=NB505_520.out;have hns28_4:=NB506_520.out;have hms28_0:=NB520_502.out;have hms28_1:=NB520_503.out;have hms28_2:=NB520_504.out;have hms28_3:=NB520_505.out;have hms28_4:=NB520_506.out;have hs29 : w25.cell? ⟨gb520,3,none⟩ = some (.int .i64 0):=(bc BK520.out 3).trans rfl;have hfs29:=bz BK520.out 3;have hns29_0:=NB502_520.out;have hns29_1:=NB503_520.out;have hns29_2:=NB504_520.out;have hns29_3:=NB505_520.out;have hns29_4:=NB506_520.out;have hms29_0:=NB520_502.out;have hms29_1:=NB520_503.out;have hms29_2:=NB520_504.out;have hms29_3:=NB520_505.out;have hms29_4:=NB520_506.out;have hs30 : w25.cell? ⟨gb520,4,none⟩ = some (.int .i64 0):=(bc BK520.out 4).trans rfl;have hfs30:=bz BK520.out 4;have hns30_0:=NB502_520.out;have hns30_1:=NB503_520.out;have hns30_2:=NB504_520.out;have hns30_3:=NB505_520.out;have hns30_4:=NB506_520.out;have hms30_0:=NB520_502.out;have hms30_1:=NB520_503.out;have hms30_2:=NB520_504.out;have hms30_3:=NB520_505.out;have hms30_4:=NB520_506.out;have hs31 : w25.cell? ⟨gb520,5,none⟩ = some (.int .i64 0):=(bc BK520.out 5).trans rfl;have hfs31:=bz BK520.out 5;have hns31_0:=NB502_520.out;have hns31_1:=NB503_520.out;have hns31_2:=NB504_520.out;have hns31_3:=NB505_520.out;have hns31_4:=NB506_520.out;have hms31_0:=NB520_502.out;have hms31_1:=NB520_503.out;have hms31_2:=NB520_504.out;have hms31_3:=NB520_505.out;have hms31_4:=NB520_506.out;refine skip_ (w1:=?_) (by rfl) rfl ?_ ?_
  rotate_left
  · go_simp
    rfl
  refine hK.out _ _ ⟨((cell_far (p:=⟨gb520,_,none⟩) NB502_520.out _).trans (((cell_far (p:=⟨gb520,_,none⟩) NB502_520.out _).trans (((cell_far (p:=⟨gb520,_,none⟩) NB502_520.out _).trans (((cell_far (p:=⟨gb520,_,none⟩) NB502_520.out _).trans (((cell_far (p:=⟨gb520,_,none⟩) NB502_520.out _).trans (((cell_far (p:=⟨gb520,_,none⟩) NB502_520.out _).trans (hHeld.1)))))))))))),((cell_far (p:=⟨gb520,_,none⟩) NB502_520.out _).trans (((cell_far (p:=⟨gb520,_,none⟩) NB502_520.out _).trans (((cell_far (p:=⟨gb520,_,none⟩) NB502_520.out _).trans (((cell_far (p:=⟨gb520,_,none⟩) NB502_520.out _).trans (((cell_far (p:=⟨gb520,_,none⟩) NB502_520.out _).trans (((cell_far (p:=⟨gb520,_,none⟩) NB502_520.out _).trans (hHeld.2.1)))))))))))),((cell_far (p:=⟨gb520,_,none⟩) NB502_520.out _).trans (((cell_far (p:=⟨gb520,_,none⟩) NB502_520.out _).trans (((cell_far (p:=⟨gb520,_,none⟩) NB502_520.out _).trans (((cell_far (p:=⟨gb520,_,none⟩) NB502_520.out _).trans (((cell_far (p:=⟨gb520,_,none⟩) NB502_520.out _).trans (((cell_far (p:=⟨gb520,_,none⟩) NB502_520.out _).trans (hHeld.2.2.1)))))))))))),((cell_far (p:=⟨gb520,_,none⟩) NB502_520.out _).trans (((cell_far (p:=⟨gb520,_,none⟩) NB502_520.out _).trans (((cell_far (p:=⟨gb520,_,none⟩) NB502_520.out _).trans (((cell_far (p:=⟨gb520,_,none⟩) NB502_520.out _).trans (((cell_far (p:=⟨gb520,_,none⟩) NB502_520.out _).trans (((cell_far (p:=⟨gb520,_,none⟩) NB502_520.out _).trans (hHeld.2.2.2.1)))))))))))),((cell_far (p:=⟨gb520,_,none⟩) NB502_520.out _).trans (((cell_far (p:=⟨gb520,_,none⟩) NB502_520.out _).trans (((cell_far (p:=⟨gb520,_,none⟩) NB502_520.out _).trans (((cell_far (p:=⟨gb520,_,none⟩) NB502_520.out _).trans (((cell_far (p:=⟨gb520,_,none⟩) NB502_520.out _).trans (((cell_far (p:=⟨gb520,_,none⟩) NB502_520.out _).trans (hHeld.2.2.2.2.1)))))))))))),((cell_far (p:=⟨gb520,_,none⟩) NB502_520.out _).trans (((cell_far (p:=⟨gb520,_,none⟩) NB502_520.out _).trans (((cell_far (p:=⟨gb520,_,none⟩) NB502_520.out _).trans (((cell_far (p:=⟨gb520,_,none⟩) NB502_520.out _).trans (((cell_far (p:=⟨gb520,_,none⟩) NB502_520.out _).trans (((cell_far (p:=⟨gb520,_,none⟩) NB502_520.out _).trans (hHeld.2.2.2.2.2))))))))))))⟩ (fun hHeld => ?_);clear hK K;refine pure_ (i:=8) (N:=some 11) (v:=?_) (a':=?_) #[true,true,true,true,true,true,true,true,true] rfl rfl (any_of HT_.out (by kernel_rfl)) (fun _ _ _ h => h) (Or.inl ⟨by rfl,?_⟩) ?_ ?_
  rotate_left
  · intro w'
    go_simp
    with_reducible rfl
  rotate_left
  · simp only [Act.put,q1,q2,q3,i64_w,i32_w]
    rfl
  refine done_ (done_of HT_.out (by kernel_rfl)) ?_
  try go_wp2
  have n0_ : Aside0 (((((((w25.setCell ⟨gb520,0,none⟩ (.int .i64 t513)).setCell ⟨gb520,1,none⟩ (.int .i64 t514)).setCell ⟨gb520,2,none⟩ (.int .i64 t515)).setCell ⟨gb520,3,none⟩ (.int .i64 t516)).setCell ⟨gb520,4,none⟩ (.int .i64 t517)).setCell ⟨gb520,5,none⟩ (.int .i64 t518)).heap[gb502]? = some (.cells #[.int .i64 a0_0,.int .i64 a0_1,.int .i64 a0_2,.int .i64 a0_3,.int .i64 a0_4,.int .i64 a0_5] 23 (0,0))):=⟨by (with_reducible repeat (first|refine bn ?_ _|refine bd ?_|refine ba ?_ _|refine bf ?_ NB502_520.out _));exact BK502.out⟩;have n1_ : Aside0 (((((((w25.setCell ⟨gb520,0,none⟩ (.int .i64 t513)).setCell ⟨gb520,1,none⟩ (.int .i64 t514)).setCell ⟨gb520,2,none⟩ (.int .i64 t515)).setCell ⟨gb520,3,none⟩ (.int .i64 t516)).setCell ⟨gb520,4,none⟩ (.int .i64 t517)).setCell ⟨gb520,5,none⟩ (.int .i64 t518)).heap[gb503]? = some (.cells #[.int .i64 a1_0,.int .i64 a1_1,.int .i64 a1_2,.int .i64 a1_3,.int .i64 a1_4,.int .i64 a1_5,.int .i64 a1_6,.int .i64 a1_7] 41 (0,0))):=⟨by (with_reducible repeat (first|refine bn ?_ _|refine bd ?_|refine ba ?_ _|refine bf ?_ NB503_520.out _));exact BK503.out⟩;have n2_ : Aside0 (((((((w25.setCell ⟨gb520,0,none⟩ (.int .i64 t513)).setCell ⟨gb520,1,none⟩ (.int .i64 t514)).setCell ⟨gb520,2,none⟩ (.int .i64 t515)).setCell ⟨gb520,3,none⟩ (.int .i64 t516)).setCell ⟨gb520,4,none⟩ (.int .i64 t517)).setCell ⟨gb520,5,none⟩ (.int .i64 t518)).heap[gb504]? = some (.cells #[.int .i64 a2_0,.int .i64 a2_1,.int .i64 a2_2,.int .i64 a2_3] 43 (0,0))):=⟨by (with_reducible repeat (first|refine bn ?_ _|refine bd ?_|refine ba ?_ _|refine bf ?_ NB504_520.out _));exact BK504.out⟩;have n3_ : Aside0 (((((((w25.setCell ⟨gb520,0,none⟩ (.int .i64 t513)).setCell ⟨gb520,1,none⟩ (.int .i64 t514)).setCell ⟨gb520,2,none⟩ (.int .i64 t515)).setCell ⟨gb520,3,none⟩ (.int .i64 t516)).setCell ⟨gb520,4,none⟩ (.int .i64 t517)).setCell ⟨gb520,5,none⟩ (.int .i64 t518)).heap[gb505]? = some (.cells #[.int .i64 a3_0,.int .i64 a3_1] 25 (0,0))):=⟨by (with_reducible repeat (first|refine bn ?_ _|refine bd ?_|refine ba ?_ _|refine bf ?_ NB505_520.out _));exact BK505.out⟩;have n4_ : Aside0 (((((((w25.setCell ⟨gb520,0,none⟩ (.int .i64 t513)).setCell ⟨gb520,1,none⟩ (.int .i64 t514)).setCell ⟨gb520,2,none⟩ (.int .i64 t515)).setCell ⟨gb520,3,none⟩ (.int .i64 t516)).setCell ⟨gb520,4,none⟩ (.int .i64 t517)).setCell ⟨gb520,5,none⟩ (.int .i64 t518)).heap[gb506]? = some (.cells #[.int .i64 256,.int .i64 256,.int .i64 256,.int .i64 256,.int .i64 0,.int .i64 0,.int .i64 0,.int .i64 0] 41 (0,0))):=⟨by (with_reducible repeat (first|refine bn ?_ _|refine bd ?_|refine ba ?_ _|refine bf ?_ NB506_520.out _));exact BK506.out⟩;have n5_ : Aside0 (((((((w25.setCell ⟨gb520,0,none⟩ (.int .i64 t513)).setCell ⟨gb520,1,none⟩ (.int .i64 t514)).setCell ⟨gb520,2,none⟩ (.int .i64 t515)).setCell ⟨gb520,3,none⟩ (.int .i64 t516)).setCell ⟨gb520,4,none⟩ (.int .i64 t517)).setCell ⟨gb520,5,none⟩ (.int .i64 t518)).heap[gb520]? = some (.cells #[.int .i64 t513,.int .i64 t514,.int .i64 t515,.int .i64 t516,.int .i64 t517,.int .i64 t518] 23 (0,0))):=⟨by (with_reducible repeat (first|refine bn ?_ _|refine bd ?_|refine ba ?_ _));refine bp (cs:=#[.int .i64 t513,.int .i64 t514,.int .i64 t515,.int .i64 t516,.int .i64 t517,.int .i64 0]) ?_ 5 _ rfl;(with_reducible repeat (first|refine bn ?_ _|refine bd ?_|refine ba ?_ _));refine bp (cs:=#[.int .i64 t513,.int .i64 t514,.int .i64 t515,.int .i64 t516,.int .i64 0,.int .i64 0]) ?_ 4 _ rfl;(with_reducible repeat (first|refine bn ?_ _|refine bd ?_|refine ba ?_ _));refine bp (cs:=#[.int .i64 t513,.int .i64 t514,.int .i64 t515,.int .i64 0,.int .i64 0,.int .i64 0]) ?_ 3 _ rfl;(with_reducible repeat (first|refine bn ?_ _|refine bd ?_|refine ba ?_ _));refine bp (cs:=#[.int .i64 t513,.int .i64 t514,.int .i64 0,.int .i64 0,.int .i64 0,.int .i64 0]) ?_ 2 _ rfl;(with_reducible repeat (first|refine bn ?_ _|refine bd ?_|refine ba ?_ _));refine bp (cs:=#[.int .i64 t513,.int .i64 0,.int .i64 0,.int .i64 0,.int .i64 0,.int .i64 0]) ?_ 1 _ rfl;(with_reducible repeat (first|refine bn ?_ _|refine bd ?_|refine ba ?_ _));refine bp (cs:=#[.int .i64 0,.int .i64 0,.int .i64 0,.int .i64 0,.int .i64 0,.int .i64 0]) ?_ 0 _ rfl;(with_reducible repeat (first|refine bn ?_ _|refine bd ?_|refine ba ?_ _));exact BK520.out⟩;have n6_ : Aside0 (Below w.heap.size w ((((((w25.setCell ⟨gb520,0,none⟩ (.int .i64 t513)).setCell ⟨gb520,1,none⟩ (.int .i64 t514)).setCell ⟨gb520,2,none⟩ (.int .i64 t515)).setCell ⟨gb520,3,none⟩ (.int .i64 t516)).setCell ⟨gb520,4,none⟩ (.int .i64 t517)).setCell ⟨gb520,5,none⟩ (.int .i64 t518))):=⟨by repeat (first|(with_reducible first|exact HB.out|apply sa|apply sn|apply sd|refine sy ?_ (by assumption))|exact HB.out)⟩;(try clear BK502);(try clear BK503);(try clear BK504);(try clear BK505);(try clear BK506);(try clear BK520);(try clear HB);generalize ((((((w25.setCell ⟨gb520,0,none⟩ (.int .i64 t513)).setCell ⟨gb520,1,none⟩ (.int .i64 t514)).setCell ⟨gb520,2,none⟩ (.int .i64 t515)).setCell ⟨gb520,3,none⟩ (.int .i64 t516)).setCell ⟨gb520,4,none⟩ (.int .i64 t517)).setCell ⟨gb520,5,none⟩ (.int .i64 t518)) = w32 at n0_ n1_ n2_ n3_ n4_ n5_ n6_ ⊢;have BK502:=n0_;have BK503:=n1_;have BK504:=n2_;have BK505:=n3_;have BK506:=n4_;have BK520:=n5_;have HB:=n6_;clear n0_ n1_ n2_ n3_ n4_ n5_ n6_;replace BK502:=am (bd BK502.out);replace BK503:=am (bd BK503.out);replace BK504:=am (bd BK504.out);replace BK505:=am (bd BK505.out);replace BK506:=am (bd BK506.out);replace BK520:=am (bd BK520.out);replace HB:=am (sd HB.out);refine start_ (n:=9) (S:=fun w' => w'.cell? ⟨gb502,0,none⟩ = some (.int .i64 a0_0) ∧ w'.cell? ⟨gb502,1,none⟩ = some (.int .i64 a0_1) ∧ w'.cell? ⟨gb502,2,none⟩ = some (.int .i64 a0_2) ∧ w'.cell? ⟨gb502,3,none⟩ = some (.int .i64 a0_3) ∧ w'.cell? ⟨gb502,4,none⟩ = some (.int .i64 a0_4) ∧ w'.cell? ⟨gb502,5,none⟩ = some (.int .i64 a0_5)) (ds:=[]) #[false,false,false,false,false,false,false,false,false] (by kernel_rfl) rfl rfl ⟨(bc BK502.out 0).trans rfl,(bc BK502.out 1).trans rfl,(bc BK502.out 2).trans rfl,(bc BK502.out 3).trans rfl,(bc BK502.out 4).trans rfl,(bc BK502.out 5).trans rfl⟩ (fun hHeld => ?_);refine with_tabW celluloidlaw14_AffineSame.tab3 celluloidlaw14_AffineSame.bits3 (fun HT_ HW_ => ?_);generalize w32.drew = w33 at BK502 BK503 BK504 BK505 BK506 BK520 HB hHeld ⊢;refine take_ (i:=1) (N:=some 26) (v:=?_) (a':=?_) #[false,true,false,false,false,false,false,false,false] rfl rfl (take_ofW HT_.out HW_.out (by kernel_rfl)) (fun _ _ _ h => h) (Or.inl ⟨by rfl,?_⟩) hHeld ?_ ?_
  rotate_left
  · rintro w' ⟨s0,s1,s2,s3,s4,s5⟩
    go_simp
    with_reducible rfl
  rotate_left
  · simp only [Act.put,q1,q2,q3,i64_w,i32_w]
    rfl
  refine join_ (σ:=Nat) 2 #[true,true,true,true,true,true,true,false,false] (fun s_ => [(25,.agg #[.int .i64 t521,.int .i64 t522,.int .i64 t523,.int .i64 t524,.int .i64 t525,.int .i64 t526]),(27,.tuple #[.agg #[.int .i64 t527,.int .i64 t528,.int .i64 t529,.int .i64 t530,.int .i64 t531,.int .i64 t532],.int .i64 t533]),(12,.pointer (some ⟨s_,0,none⟩)),(24,.tuple #[.agg #[.int .i64 t527,.int .i64 t528,.int .i64 t529,.int .i64 t530,.int .i64 t531,.int .i64 t532],.int .i64 t533]),(28,.agg #[.int .i64 t527,.int .i64 t528,.int .i64 t529,.int .i64 t530,.int .i64 t531,.int .i64 t532]),(29,.int .i64 t533)]) (fun s_ w' => (w'.cell? ⟨gb502,0,none⟩ = some (.int .i64 a0_0) ∧ w'.cell? ⟨gb502,1,none⟩ = some (.int .i64 a0_1) ∧ w'.cell? ⟨gb502,2,none⟩ = some (.int .i64 a0_2) ∧ w'.cell? ⟨gb502,3,none⟩ = some (.int .i64 a0_3) ∧ w'.cell? ⟨gb502,4,none⟩ = some (.int .i64 a0_4) ∧ w'.cell? ⟨gb502,5,none⟩ = some (.int .i64 a0_5)) ∧ (w'.heap[gb502]? = some (.cells #[.int .i64 a0_0,.int .i64 a0_1,.int .i64 a0_2,.int .i64 a0_3,.int .i64 a0_4,.int .i64 a0_5] 23 (0,0))) ∧ (w'.heap[gb503]? = some (.cells #[.int .i64 a1_0,.int .i64 a1_1,.int .i64 a1_2,.int .i64 a1_3,.int .i64 a1_4,.int .i64 a1_5,.int .i64 a1_6,.int .i64 a1_7] 41 (0,0))) ∧ (w'.heap[gb504]? = some (.cells #[.int .i64 a2_0,.int .i64 a2_1,.int .i64 a2_2,.int .i64 a2_3] 43 (0,0))) ∧ (w'.heap[gb505]? = some (.cells #[.int .i64 a3_0,.int .i64 a3_1] 25 (0,0))) ∧ (w'.heap[gb506]? = some (.cells #[.int .i64 256,.int .i64 256,.int .i64 256,.int .i64 256,.int .i64 0,.int .i64 0,.int .i64 0,.int .i64 0] 41 (0,0))) ∧ (w'.heap[gb520]? = some (.cells #[.int .i64 t513,.int .i64 t514,.int .i64 t515,.int .i64 t516,.int .i64 t517,.int .i64 t518] 23 (0,0))) ∧ (w'.heap[s_]? = some (.cells #[.int .i64 0,.int .i64 0,.int .i64 0,.int .i64 0,.int .i64 0,.int .i64 0] 23 (0,0))) ∧ (w.heap.size ≤ s_) ∧ (w.heap.size ≤ s_) ∧ (gb502 ≠ s_) ∧ (s_ ≠ gb502) ∧ (gb503 ≠ s_) ∧ (s_ ≠ gb503) ∧ (gb504 ≠ s_) ∧ (s_ ≠ gb504) ∧ (gb505 ≠ s_) ∧ (s_ ≠ gb505) ∧ (gb506 ≠ s_) ∧ (s_ ≠ gb506) ∧ (gb520 ≠ s_) ∧ (s_ ≠ gb520) ∧ (Below w.heap.size w w')) ?_ ?_
  rotate_left
  · intro hCont
    refine two_ (i:=0) (j:=6) (Ni:=some 25) (Nj:=some 12) #[true,true,false,false,false,false,false,false,false] #[false,true,false,false,false,false,true,false,false] rfl rfl rfl rfl (two_of HT_.out (by kernel_rfl)) (by decide) (by decide) (fun K hK => ?_) (fun K hK => ?_)
    · skip
      refine goes_ Try.func30 (by kernel_rfl) rfl #[] (by rfl) rfl rfl (by (try simp only [List.map_toArray,List.map_cons,List.map_nil]);first|done|rfl|(simp only [List.length_drop,List.length_take];rfl)) ?_
      with_reducible refine (celluloidlaw14_same.calls  t521 t522 t523 t524 t525 t526 _ A7.out).mono ?_
      rintro e w34 ⟨rfl,hb⟩
      refine ⟨_,rfl,?_⟩;replace BK502:=am (bw (by exact BK502.out) hb);replace BK503:=am (bw (by exact BK503.out) hb);replace BK504:=am (bw (by exact BK504.out) hb);replace BK505:=am (bw (by exact BK505.out) hb);replace BK506:=am (bw (by exact BK506.out) hb);replace BK520:=am (bw (by exact BK520.out) hb);replace HB:=am (ss (by repeat (first|(with_reducible first|exact HB.out|apply sa|apply sn|apply sd|refine sy ?_ (by assumption))|exact HB.out)) hb);(try clear hb);(try clear hb2);(try clear hk);(try clear hi);refine hK.out _ _ ⟨(bc BK502.out 0).trans rfl,(bc BK502.out 1).trans rfl,(bc BK502.out 2).trans rfl,(bc BK502.out 3).trans rfl,(bc BK502.out 4).trans rfl,(bc BK502.out 5).trans rfl⟩ (fun hHeld => ?_);clear hK K;refine norm_ (a':=?_) ?_ ?_
      rotate_left
      · show Act.put _ (some 25) _ = _
        simp only [Act.put,q1,q2,q3,i64_w,i32_w]
        rfl
      refine two_ (i:=2) (j:=6) (Ni:=some 27) (Nj:=some 12) #[true,true,true,false,false,false,false,false,false] #[true,true,false,false,false,false,true,false,false] rfl rfl rfl rfl (two_of HT_.out (by kernel_rfl)) (by decide) (by decide) (fun K hK => ?_) (fun K hK => ?_)
      · skip
        refine goes_ Try.func26 (by kernel_rfl) rfl #[.agg #[.int .i64 t521,.int .i64 t522,.int .i64 t523,.int .i64 t524,.int .i64 t525,.int .i64 t526],.agg #[.int .i64 a0_0,.int .i64 a0_1,.int .i64 a0_2,.int .i64 a0_3,.int .i64 a0_4,.int .i64 a0_5]] (by rfl) rfl rfl (by (try simp only [List.map_toArray,List.map_cons,List.map_nil]);first|done|rfl|(simp only [List.length_drop,List.length_take];rfl)) ?_
        with_reducible refine (affine_Compose.calls k t521 t522 t523 t524 t525 t526 a0_0 a0_1 a0_2 a0_3 a0_4 a0_5 t527 t528 t529 t530 t531 t532 t533 _ A8.out).mono ?_
        rintro e w35 ⟨rfl,hb⟩
        refine ⟨_,rfl,?_⟩;replace BK502:=am (bw (by exact BK502.out) hb);replace BK503:=am (bw (by exact BK503.out) hb);replace BK504:=am (bw (by exact BK504.out) hb);replace BK505:=am (bw (by exact BK505.out) hb);replace BK506:=am (bw (by exact BK506.out) hb);replace BK520:=am (bw (by exact BK520.out) hb);replace HB:=am (ss (by repeat (first|(with_reducible first|exact HB.out|apply sa|apply sn|apply sd|refine sy ?_ (by assumption))|exact HB.out)) hb);(try clear hb);(try clear hb2);(try clear hk);(try clear hi);refine hK.out _ _ ⟨(bc BK502.out 0).trans rfl,(bc BK502.out 1).trans rfl,(bc BK502.out 2).trans rfl,(bc BK502.out 3).trans rfl,(bc BK502.out 4).trans rfl,(bc BK502.out 5).trans rfl⟩ (fun hHeld => ?_);clear hK K;refine norm_ (a':=?_) ?_ ?_
        rotate_left
        · show Act.put _ (some 27) _ = _
          simp only [Act.put,q1,q2,q3,i64_w,i32_w]
          rfl
        refine pure_ (i:=3) (N:=some 24) (v:=?_) (a':=?_) #[true,true,true,true,false,false,false,false,false] rfl rfl (any_of HT_.out (by kernel_rfl)) (fun _ _ _ h => h) (Or.inl ⟨by rfl,?_⟩) ?_ ?_
        rotate_left
        · intro w'
          go_simp
          with_reducible rfl
        rotate_left
        · simp only [Act.put,q1,q2,q3,i64_w,i32_w]
          rfl
        refine pure_ (i:=4) (N:=some 28) (v:=?_) (a':=?_) #[true,true,true,true,true,false,false,false,false] rfl rfl (any_of HT_.out (by kernel_rfl)) (fun _ _ _ h => h) (Or.inl ⟨by rfl,?_⟩) ?_ ?_
        rotate_left
        · intro w'
          go_simp
          with_reducible rfl
        rotate_left
        · simp only [Act.put,q1,q2,q3,i64_w,i32_w]
          rfl
        refine pure_ (i:=5) (N:=some 29) (v:=?_) (a':=?_) #[true,true,true,true,true,true,false,false,false] rfl rfl (any_of HT_.out (by kernel_rfl)) (fun _ _ _ h => h) (Or.inl ⟨by rfl,?_⟩) ?_ ?_
        rotate_left
        · intro w'
          go_simp
          with_reducible rfl
        rotate_left
        · simp only [Act.put,q1,q2,q3,i64_w,i32_w]
          rfl
        refine one_ (i:=6) (N:=some 12) #[true,true,true,true,true,true,true,false,false] rfl rfl (one_of HT_.out (by kernel_rfl)) (by decide) (fun K hK => ?_);refine box_step ?hg (N:=12) ?hd (cs:=#[.int .i64 0,.int .i64 0,.int .i64 0,.int .i64 0,.int .i64 0,.int .i64 0]) (t:=23) ?hr ?_;(case hd => rfl);(case hg => rfl);(case hr => first|(go_simp;done)|(go_simp;rfl))
        intro gb534 hg w36 hbox hb
        have BK534:=am (hbox);have GW534:=am ((by rw [hg];exact (sz (by repeat (first|(with_reducible first|exact HB.out|apply sa|apply sn|apply sd|refine sy ?_ (by assumption))|exact HB.out))) : w.heap.size ≤ gb534));have GE534:=am ((by rw [hg];exact (sz (by repeat (first|(with_reducible first|exact HB.out|apply sa|apply sn|apply sd|refine sy ?_ (by assumption))|exact HB.out))) : w.heap.size ≤ gb534));replace HB:=am (ss (by repeat (first|(with_reducible first|exact HB.out|apply sa|apply sn|apply sd|refine sy ?_ (by assumption))|exact HB.out)) hb);have NB502_534:=nb (by exact BK502.out) hg;have NB534_502:=ng (by exact BK502.out) hg;replace BK502:=am (bw (by exact BK502.out) hb);have NB503_534:=nb (by exact BK503.out) hg;have NB534_503:=ng (by exact BK503.out) hg;replace BK503:=am (bw (by exact BK503.out) hb);have NB504_534:=nb (by exact BK504.out) hg;have NB534_504:=ng (by exact BK504.out) hg;replace BK504:=am (bw (by exact BK504.out) hb);have NB505_534:=nb (by exact BK505.out) hg;have NB534_505:=ng (by exact BK505.out) hg;replace BK505:=am (bw (by exact BK505.out) hb);have NB506_534:=nb (by exact BK506.out) hg;have NB534_506:=ng (by exact BK506.out) hg;replace BK506:=am (bw (by exact BK506.out) hb);have NB520_534:=nb (by exact BK520.out) hg;have NB534_520:=ng (by exact BK520.out) hg;replace BK520:=am (bw (by exact BK520.out) hb);clear hb hbox hg;refine hK.out _ _ ⟨(bc BK502.out 0).trans rfl,(bc BK502.out 1).trans rfl,(bc BK502.out 2).trans rfl,(bc BK502.out 3).trans rfl,(bc BK502.out 4).trans rfl,(bc BK502.out 5).trans rfl⟩ (fun hHeld => ?_);clear hK K;refine norm_ (a':=?_) ?_ ?_
        rotate_left
        · show Act.put _ (some 12) _ = _
          simp only [Act.put,q1,q2,q3,i64_w,i32_w]
          rfl
        exact norm_ (by simp only [putAll,Act.put,q1,q2,q3]) (hCont (gb534) _ ⟨hHeld,(by exact BK502.out),(by exact BK503.out),(by exact BK504.out),(by exact BK505.out),(by exact BK506.out),(by exact BK520.out),(by exact BK534.out),GW534.out,GE534.out,NB502_534.out,NB534_502.out,NB503_534.out,NB534_503.out,NB504_534.out,NB534_504.out,NB505_534.out,NB534_505.out,NB506_534.out,NB534_506.out,NB520_534.out,NB534_520.out,(by repeat (first|(with_reducible first|exact HB.out|apply sa|apply sn|apply sd|refine sy ?_ (by assumption))|exact HB.out))⟩)
      · skip
        refine box_step ?hg (N:=12) ?hd (cs:=#[.int .i64 0,.int .i64 0,.int .i64 0,.int .i64 0,.int .i64 0,.int .i64 0]) (t:=23) ?hr ?_;(case hd => rfl);(case hg => rfl);(case hr => first|(go_simp;done)|(go_simp;rfl))
        intro gb534 hg w35 hbox hb
        have BK534:=am (hbox);have GW534:=am ((by rw [hg];exact (sz (by repeat (first|(with_reducible first|exact HB.out|apply sa|apply sn|apply sd|refine sy ?_ (by assumption))|exact HB.out))) : w.heap.size ≤ gb534));have GE534:=am ((by rw [hg];exact (sz (by repeat (first|(with_reducible first|exact HB.out|apply sa|apply sn|apply sd|refine sy ?_ (by assumption))|exact HB.out))) : w.heap.size ≤ gb534));replace HB:=am (ss (by repeat (first|(with_reducible first|exact HB.out|apply sa|apply sn|apply sd|refine sy ?_ (by assumption))|exact HB.out)) hb);have NB502_534:=nb (by exact BK502.out) hg;have NB534_502:=ng (by exact BK502.out) hg;replace BK502:=am (bw (by exact BK502.out) hb);have NB503_534:=nb (by exact BK503.out) hg;have NB534_503:=ng (by exact BK503.out) hg;replace BK503:=am (bw (by exact BK503.out) hb);have NB504_534:=nb (by exact BK504.out) hg;have NB534_504:=ng (by exact BK504.out) hg;replace BK504:=am (bw (by exact BK504.out) hb);have NB505_534:=nb (by exact BK505.out) hg;have NB534_505:=ng (by exact BK505.out) hg;replace BK505:=am (bw (by exact BK505.out) hb);have NB506_534:=nb (by exact BK506.out) hg;have NB534_506:=ng (by exact BK506.out) hg;replace BK506:=am (bw (by exact BK506.out) hb);have NB520_534:=nb (by exact BK520.out) hg;have NB534_520:=ng (by exact BK520.out) hg;replace BK520:=am (bw (by exact BK520.out) hb);clear hb hbox hg;refine hK.out _ _ ⟨(bc BK502.out 0).trans rfl,(bc BK502.out 1).trans rfl,(bc BK502.out 2).trans rfl,(bc BK502.out 3).trans rfl,(bc BK502.out 4).trans rfl,(bc BK502.out 5).trans rfl⟩ (fun hHeld => ?_);clear hK K;refine norm_ (a':=?_) ?_ ?_
        rotate_left
        · show Act.put _ (some 12) _ = _
          simp only [Act.put,q1,q2,q3,i64_w,i32_w]
          rfl
        refine one_ (i:=2) (N:=some 27) #[true,true,true,false,false,false,true,false,false] rfl rfl (one_of HT_.out (by kernel_rfl)) (by decide) (fun K hK => ?_);refine goes_ Try.func26 (by kernel_rfl) rfl #[.agg #[.int .i64 t521,.int .i64 t522,.int .i64 t523,.int .i64 t524,.int .i64 t525,.int .i64 t526],.agg #[.int .i64 a0_0,.int .i64 a0_1,.int .i64 a0_2,.int .i64 a0_3,.int .i64 a0_4,.int .i64 a0_5]] (by rfl) rfl rfl (by (try simp only [List.map_toArray,List.map_cons,List.map_nil]);first|done|rfl|(simp only [List.length_drop,List.length_take];rfl)) ?_
        with_reducible refine (affine_Compose.calls k t521 t522 t523 t524 t525 t526 a0_0 a0_1 a0_2 a0_3 a0_4 a0_5 t527 t528 t529 t530 t531 t532 t533 _ A8.out).mono ?_
        rintro e w36 ⟨rfl,hb⟩
        refine ⟨_,rfl,?_⟩;replace BK502:=am (bw (by exact BK502.out) hb);replace BK503:=am (bw (by exact BK503.out) hb);replace BK504:=am (bw (by exact BK504.out) hb);replace BK505:=am (bw (by exact BK505.out) hb);replace BK506:=am (bw (by exact BK506.out) hb);replace BK520:=am (bw (by exact BK520.out) hb);replace BK534:=am (bw (by exact BK534.out) hb);replace HB:=am (ss (by repeat (first|(with_reducible first|exact HB.out|apply sa|apply sn|apply sd|refine sy ?_ (by assumption))|exact HB.out)) hb);(try clear hb);(try clear hb2);(try clear hk);(try clear hi);refine hK.out _ _ ⟨(bc BK502.out 0).trans rfl,(bc BK502.out 1).trans rfl,(bc BK502.out 2).trans rfl,(bc BK502.out 3).trans rfl,(bc BK502.out 4).trans rfl,(bc BK502.out 5).trans rfl⟩ (fun hHeld => ?_);clear hK K;refine norm_ (a':=?_) ?_ ?_
        rotate_left
        · show Act.put _ (some 27) _ = _
          simp only [Act.put,q1,q2,q3,i64_w,i32_w]
          rfl
        refine pure_ (i:=3) (N:=some 24) (v:=?_) (a':=?_) #[true,true,true,true,false,false,true,false,false] rfl rfl (any_of HT_.out (by kernel_rfl)) (fun _ _ _ h => h) (Or.inl ⟨by rfl,?_⟩) ?_ ?_
        rotate_left
        · intro w'
          go_simp
          with_reducible rfl
        rotate_left
        · simp only [Act.put,q1,q2,q3,i64_w,i32_w]
          rfl
        refine pure_ (i:=4) (N:=some 28) (v:=?_) (a':=?_) #[true,true,true,true,true,false,true,false,false] rfl rfl (any_of HT_.out (by kernel_rfl)) (fun _ _ _ h => h) (Or.inl ⟨by rfl,?_⟩) ?_ ?_
        rotate_left
        · intro w'
          go_simp
          with_reducible rfl
        rotate_left
        · simp only [Act.put,q1,q2,q3,i64_w,i32_w]
          rfl
        refine pure_ (i:=5) (N:=some 29) (v:=?_) (a':=?_) #[true,true,true,true,true,true,true,false,false] rfl rfl (any_of HT_.out (by kernel_rfl)) (fun _ _ _ h => h) (Or.inl ⟨by rfl,?_⟩) ?_ ?_
        rotate_left
        · intro w'
          go_simp
          with_reducible rfl
        rotate_left
        · simp only [Act.put,q1,q2,q3,i64_w,i32_w]
          rfl
        exact norm_ (by simp only [putAll,Act.put,q1,q2,q3]) (hCont (gb534) _ ⟨hHeld,(by exact BK502.out),(by exact BK503.out),(by exact BK504.out),(by exact BK505.out),(by exact BK506.out),(by exact BK520.out),(by exact BK534.out),GW534.out,GE534.out,NB502_534.out,NB534_502.out,NB503_534.out,NB534_503.out,NB504_534.out,NB534_504.out,NB505_534.out,NB534_505.out,NB506_534.out,NB534_506.out,NB520_534.out,NB534_520.out,(by repeat (first|(with_reducible first|exact HB.out|apply sa|apply sn|apply sd|refine sy ?_ (by assumption))|exact HB.out))⟩)
    · skip
      refine box_step ?hg (N:=12) ?hd (cs:=#[.int .i64 0,.int .i64 0,.int .i64 0,.int .i64 0,.int .i64 0,.int .i64 0]) (t:=23) ?hr ?_;(case hd => rfl);(case hg => rfl);(case hr => first|(go_simp;done)|(go_simp;rfl))
      intro gb534 hg w34 hbox hb
      have BK534:=am (hbox);have GW534:=am ((by rw [hg];exact (sz (by repeat (first|(with_reducible first|exact HB.out|apply sa|apply sn|apply sd|refine sy ?_ (by assumption))|exact HB.out))) : w.heap.size ≤ gb534));have GE534:=am ((by rw [hg];exact (sz (by repeat (first|(with_reducible first|exact HB.out|apply sa|apply sn|apply sd|refine sy ?_ (by assumption))|exact HB.out))) : w.heap.size ≤ gb534));replace HB:=am (ss (by repeat (first|(with_reducible first|exact HB.out|apply sa|apply sn|apply sd|refine sy ?_ (by assumption))|exact HB.out)) hb);have NB502_534:=nb (by exact BK502.out) hg;have NB534_502:=ng (by exact BK502.out) hg;replace BK502:=am (bw (by exact BK502.out) hb);have NB503_534:=nb (by exact BK503.out) hg;have NB534_503:=ng (by exact BK503.out) hg;replace BK503:=am (bw (by exact BK503.out) hb);have NB504_534:=nb (by exact BK504.out) hg;have NB534_504:=ng (by exact BK504.out) hg;replace BK504:=am (bw (by exact BK504.out) hb);have NB505_534:=nb (by exact BK505.out) hg;have NB534_505:=ng (by exact BK505.out) hg;replace BK505:=am (bw (by exact BK505.out) hb);have NB506_534:=nb (by exact BK506.out) hg;have NB534_506:=ng (by exact BK506.out) hg;replace BK506:=am (bw (by exact BK506.out) hb);have NB520_534:=nb (by exact BK520.out) hg;have NB534_520:=ng (by exact BK520.out) hg;replace BK520:=am (bw (by exact BK520.out) hb);clear hb hbox hg;refine hK.out _ _ ⟨(bc BK502.out 0).trans rfl,(bc BK502.out 1).trans rfl,(bc BK502.out 2).trans rfl,(bc BK502.out 3).trans rfl,(bc BK502.out 4).trans rfl,(bc BK502.out 5).trans rfl⟩ (fun hHeld => ?_);clear hK K;refine norm_ (a':=?_) ?_ ?_
      rotate_left
      · show Act.put _ (some 12) _ = _
        simp only [Act.put,q1,q2,q3,i64_w,i32_w]
        rfl
      refine one_ (i:=0) (N:=some 25) #[true,true,false,false,false,false,true,false,false] rfl rfl (one_of HT_.out (by kernel_rfl)) (by decide) (fun K hK => ?_);refine goes_ Try.func30 (by kernel_rfl) rfl #[] (by rfl) rfl rfl (by (try simp only [List.map_toArray,List.map_cons,List.map_nil]);first|done|rfl|(simp only [List.length_drop,List.length_take];rfl)) ?_
      with_reducible refine (celluloidlaw14_same.calls  t521 t522 t523 t524 t525 t526 _ A7.out).mono ?_
      rintro e w35 ⟨rfl,hb⟩
      refine ⟨_,rfl,?_⟩;replace BK502:=am (bw (by exact BK502.out) hb);replace BK503:=am (bw (by exact BK503.out) hb);replace BK504:=am (bw (by exact BK504.out) hb);replace BK505:=am (bw (by exact BK505.out) hb);replace BK506:=am (bw (by exact BK506.out) hb);replace BK520:=am (bw (by exact BK520.out) hb);replace BK534:=am (bw (by exact BK534.out) hb);replace HB:=am (ss (by repeat (first|(with_reducible first|exact HB.out|apply sa|apply sn|apply sd|refine sy ?_ (by assumption))|exact HB.out)) hb);(try clear hb);(try clear hb2);(try clear hk);(try clear hi);refine hK.out _ _ ⟨(bc BK502.out 0).trans rfl,(bc BK502.out 1).trans rfl,(bc BK502.out 2).trans rfl,(bc BK502.out 3).trans rfl,(bc BK502.out 4).trans rfl,(bc BK502.out 5).trans rfl⟩ (fun hHeld => ?_);clear hK K;refine norm_ (a':=?_) ?_ ?_
      rotate_left
      · show Act.put _ (some 25) _ = _
        simp only [Act.put,q1,q2,q3,i64_w,i32_w]
        rfl
      refine one_ (i:=2) (N:=some 27) #[true,true,true,false,false,false,true,false,false] rfl rfl (one_of HT_.out (by kernel_rfl)) (by decide) (fun K hK => ?_);refine goes_ Try.func26 (by kernel_rfl) rfl #[.agg #[.int .i64 t521,.int .i64 t522,.int .i64 t523,.int .i64 t524,.int .i64 t525,.int .i64 t526],.agg #[.int .i64 a0_0,.int .i64 a0_1,.int .i64 a0_2,.int .i64 a0_3,.int .i64 a0_4,.int .i64 a0_5]] (by rfl) rfl rfl (by (try simp only [List.map_toArray,List.map_cons,List.map_nil]);first|done|rfl|(simp only [List.length_drop,List.length_take];rfl)) ?_
      with_reducible refine (affine_Compose.calls k t521 t522 t523 t524 t525 t526 a0_0 a0_1 a0_2 a0_3 a0_4 a0_5 t527 t528 t529 t530 t531 t532 t533 _ A8.out).mono ?_
      rintro e w36 ⟨rfl,hb⟩
      refine ⟨_,rfl,?_⟩;replace BK502:=am (bw (by exact BK502.out) hb);replace BK503:=am (bw (by exact BK503.out) hb);replace BK504:=am (bw (by exact BK504.out) hb);replace BK505:=am (bw (by exact BK505.out) hb);replace BK506:=am (bw (by exact BK506.out) hb);replace BK520:=am (bw (by exact BK520.out) hb);replace BK534:=am (bw (by exact BK534.out) hb);replace HB:=am (ss (by repeat (first|(with_reducible first|exact HB.out|apply sa|apply sn|apply sd|refine sy ?_ (by assumption))|exact HB.out)) hb);(try clear hb);(try clear hb2);(try clear hk);(try clear hi);refine hK.out _ _ ⟨(bc BK502.out 0).trans rfl,(bc BK502.out 1).trans rfl,(bc BK502.out 2).trans rfl,(bc BK502.out 3).trans rfl,(bc BK502.out 4).trans rfl,(bc BK502.out 5).trans rfl⟩ (fun hHeld => ?_);clear hK K;refine norm_ (a':=?_) ?_ ?_
      rotate_left
      · show Act.put _ (some 27) _ = _
        simp only [Act.put,q1,q2,q3,i64_w,i32_w]
        rfl
      refine pure_ (i:=3) (N:=some 24) (v:=?_) (a':=?_) #[true,true,true,true,false,false,true,false,false] rfl rfl (any_of HT_.out (by kernel_rfl)) (fun _ _ _ h => h) (Or.inl ⟨by rfl,?_⟩) ?_ ?_
      rotate_left
      · intro w'
        go_simp
        with_reducible rfl
      rotate_left
      · simp only [Act.put,q1,q2,q3,i64_w,i32_w]
        rfl
      refine pure_ (i:=4) (N:=some 28) (v:=?_) (a':=?_) #[true,true,true,true,true,false,true,false,false] rfl rfl (any_of HT_.out (by kernel_rfl)) (fun _ _ _ h => h) (Or.inl ⟨by rfl,?_⟩) ?_ ?_
      rotate_left
      · intro w'
        go_simp
        with_reducible rfl
      rotate_left
      · simp only [Act.put,q1,q2,q3,i64_w,i32_w]
        rfl
      refine pure_ (i:=5) (N:=some 29) (v:=?_) (a':=?_) #[true,true,true,true,true,true,true,false,false] rfl rfl (any_of HT_.out (by kernel_rfl)) (fun _ _ _ h => h) (Or.inl ⟨by rfl,?_⟩) ?_ ?_
      rotate_left
      · intro w'
        go_simp
        with_reducible rfl
      rotate_left
      · simp only [Act.put,q1,q2,q3,i64_w,i32_w]
        rfl
      exact norm_ (by simp only [putAll,Act.put,q1,q2,q3]) (hCont (gb534) _ ⟨hHeld,(by exact BK502.out),(by exact BK503.out),(by exact BK504.out),(by exact BK505.out),(by exact BK506.out),(by exact BK520.out),(by exact BK534.out),GW534.out,GE534.out,NB502_534.out,NB534_502.out,NB503_534.out,NB534_503.out,NB504_534.out,NB534_504.out,NB505_534.out,NB534_505.out,NB506_534.out,NB534_506.out,NB520_534.out,NB534_520.out,(by repeat (first|(with_reducible first|exact HB.out|apply sa|apply sn|apply sd|refine sy ?_ (by assumption))|exact HB.out))⟩)
  rintro gb534 w37 ⟨hS_,h0_,h1_,h2_,h3_,h4_,h5_,h6_,h7_,h8_,h9_,h10_,h11_,h12_,h13_,h14_,h15_,h16_,h17_,h18_,h19_,h20_,h21_⟩
  have n0_ : Aside0 (w37.heap[gb502]? = some (.cells #[.int .i64 a0_0,.int .i64 a0_1,.int .i64 a0_2,.int .i64 a0_3,.int .i64 a0_4,.int .i64 a0_5] 23 (0,0))):=⟨h0_⟩;have n1_ : Aside0 (w37.heap[gb503]? = some (.cells #[.int .i64 a1_0,.int .i64 a1_1,.int .i64 a1_2,.int .i64 a1_3,.int .i64 a1_4,.int .i64 a1_5,.int .i64 a1_6,.int .i64 a1_7] 41 (0,0))):=⟨h1_⟩;have n2_ : Aside0 (w37.heap[gb504]? = some (.cells #[.int .i64 a2_0,.int .i64 a2_1,.int .i64 a2_2,.int .i64 a2_3] 43 (0,0))):=⟨h2_⟩;have n3_ : Aside0 (w37.heap[gb505]? = some (.cells #[.int .i64 a3_0,.int .i64 a3_1] 25 (0,0))):=⟨h3_⟩;have n4_ : Aside0 (w37.heap[gb506]? = some (.cells #[.int .i64 256,.int .i64 256,.int .i64 256,.int .i64 256,.int .i64 0,.int .i64 0,.int .i64 0,.int .i64 0] 41 (0,0))):=⟨h4_⟩;have n5_ : Aside0 (w37.heap[gb520]? = some (.cells #[.int .i64 t513,.int .i64 t514,.int .i64 t515,.int .i64 t516,.int .i64 t517,.int .i64 t518] 23 (0,0))):=⟨h5_⟩;have n6_ : Aside0 (w37.heap[gb534]? = some (.cells #[.int .i64 0,.int .i64 0,.int .i64 0,.int .i64 0,.int .i64 0,.int .i64 0] 23 (0,0))):=⟨h6_⟩;have n7_ : Aside0 (w.heap.size ≤ gb534):=⟨h7_⟩;have n8_ : Aside0 (w.heap.size ≤ gb534):=⟨h8_⟩;have n9_ : Aside0 (gb502 ≠ gb534):=⟨h9_⟩;have n10_ : Aside0 (gb534 ≠ gb502):=⟨h10_⟩;have n11_ : Aside0 (gb503 ≠ gb534):=⟨h11_⟩;have n12_ : Aside0 (gb534 ≠ gb503):=⟨h12_⟩;have n13_ : Aside0 (gb504 ≠ gb534):=⟨h13_⟩;have n14_ : Aside0 (gb534 ≠ gb504):=⟨h14_⟩;have n15_ : Aside0 (gb505 ≠ gb534):=⟨h15_⟩;have n16_ : Aside0 (gb534 ≠ gb505):=⟨h16_⟩;have n17_ : Aside0 (gb506 ≠ gb534):=⟨h17_⟩;have n18_ : Aside0 (gb534 ≠ gb506):=⟨h18_⟩;have n19_ : Aside0 (gb520 ≠ gb534):=⟨h19_⟩;have n20_ : Aside0 (gb534 ≠ gb520):=⟨h20_⟩;have n21_ : Aside0 (Below w.heap.size w w37):=⟨h21_⟩;clear BK502;clear BK503;clear BK504;clear BK505;clear BK506;clear BK520;clear HB;clear h0_ h1_ h2_ h3_ h4_ h5_ h6_ h7_ h8_ h9_ h10_ h11_ h12_ h13_ h14_ h15_ h16_ h17_ h18_ h19_ h20_ h21_;have BK502:=n0_;have BK503:=n1_;have BK504:=n2_;have BK505:=n3_;have BK506:=n4_;have BK520:=n5_;have BK534:=n6_;have GW534:=n7_;have GE534:=n8_;have NB502_534:=n9_;have NB534_502:=n10_;have NB503_534:=n11_;have NB534_503:=n12_;have NB504_534:=n13_;have NB534_504:=n14_;have NB505_534:=n15_;have NB534_505:=n16_;have NB506_534:=n17_;have NB534_506:=n18_;have NB520_534:=n19_;have NB534_520:=n20_;have HB:=n21_;clear n0_ n1_ n2_ n3_ n4_ n5_ n6_ n7_ n8_ n9_ n10_ n11_ n12_ n13_ n14_ n15_ n16_ n17_ n18_ n19_ n20_ n21_;have hHeld : w37.cell? ⟨gb502,0,none⟩ = some (.int .i64 a0_0) ∧ w37.cell? ⟨gb502,1,none⟩ = some (.int .i64 a0_1) ∧ w37.cell? ⟨gb502,2,none⟩ = some (.int .i64 a0_2) ∧ w37.cell? ⟨gb502,3,none⟩ = some (.int .i64 a0_3) ∧ w37.cell? ⟨gb502,4,none⟩ = some (.int .i64 a0_4) ∧ w37.cell? ⟨gb502,5,none⟩ = some (.int .i64 a0_5):=hS_;refine norm_ (a':=?_) ?_ ?_
  rotate_left
  · simp only [putAll,Act.put,q1,q2,q3]
    rfl
  refine one_ (i:=7) (N:=none) #[true,true,true,true,true,true,true,true,false] rfl rfl (one_of HT_.out (by kernel_rfl)) (by decide) (fun K hK => ?_);have hs38 : w37.cell? ⟨gb534,0,none⟩ = some (.int .i64 0):=(bc BK534.out 0).trans rfl;have hfs38:=bz BK534.out 0;have hns38_0:=NB502_534.out;have hns38_1:=NB503_534.out;have hns38_2:=NB504_534.out;have hns38_3:=NB505_534.out;have hns38_4:=NB506_534.out;have hns38_5:=NB520_534.out;have hms38_0:=NB534_502.out;have hms38_1:=NB534_503.out;have hms38_2:=NB534_504.out;have hms38_3:=NB534_505.out;have hms38_4:=NB534_506.out;have hms38_5:=NB534_520.out;have hs39 : w37.cell? ⟨gb534,1,none⟩ = some (.int .i64 0):=(bc BK534.out 1).trans rfl;have hfs39:=bz BK534.out 1;have hns39_0:=NB502_534.out;have hns39_1:=NB503_534.out;have hns39_2:=NB504_534.out;have hns39_3:=NB505_534.out;have hns39_4:=NB506_534.out;have hns39_5:=NB520_534.out;have hms39_0:=NB534_502.out;have hms39_1:=NB534_503.out;have hms39_2:=NB534_504.out;have hms39_3:=NB534_505.out;have hms39_4:=NB534_506.out;have hms39_5:=NB534_520.out;have hs40 : w37.cell? ⟨gb534,2,none⟩ = some (.int .i64 0):=(bc BK534.out 2).trans rfl;have hfs40:=bz BK534.out 2;have hns40_0:=NB502_534.out;have hns40_1:=NB503_534.out;have hns40_2:=NB504_534.out;have hns40_3:=NB505_534.out;have hns40_4:=NB506_534.out;have hns40_5:=NB520_534.out;have hms40_0:=NB534_502.out;have hms40_1:=NB534_503.out;have hms40_2:=NB534_504.out;have hms40_3:=NB534_505.out;have hms40_4:=NB534_506.out;have hms40_5:=NB534_520.out;have hs41 : w37.cell? ⟨gb534,3,none⟩ = some (.int .i64 0):=(bc BK534.out 3).trans rfl;have hfs41:=bz BK534.out 3;have hns41_0:=NB502_534.out;have hns41_1:=NB503_534.out;have hns41_2:=NB504_534.out;have hns41_3:=NB505_534.out;have hns41_4:=NB506_534.out;have hns41_5:=NB520_534.out;have hms41_0:=NB534_502.out;have hms41_1:=NB534_503.out;have hms41_2:=NB534_504.out;have hms41_3:=NB534_505.out;have hms41_4:=NB534_506.out;have hms41_5:=NB534_520.out;have hs42 : w37.cell? ⟨gb534,4,none⟩ = some (.int .i64 0):=(bc BK534.out 4).trans rfl;have hfs42:=bz BK534.out 4;have hns42_0:=NB502_534.out;have hns42_1:=NB503_534.out;have hns42_2:=NB504_534.out;have hns42_3:=NB505_534.out;have hns42_4:=NB506_534.out;have hns42_5:=NB520_534.out;have hms42_0:=NB534_502.out;have hms42_1:=NB534_503.out;have hms42_2:=NB534_504.out;have hms42_3:=NB534_505.out;have hms42_4:=NB534_506.out;have hms42_5:=NB534_520.out;have hs43 : w37.cell? ⟨gb534,5,none⟩ = some (.int .i64 0):=(bc BK534.out 5).trans rfl;have hfs43:=bz BK534.out 5;have hns43_0:=NB502_534.out;have hns43_1:=NB503_534.out;have hns43_2:=NB504_534.out;have hns43_3:=NB505_534.out;have hns43_4:=NB506_534.out;have hns43_5:=NB520_534.out;have hms43_0:=NB534_502.out;have hms43_1:=NB534_503.out;have hms43_2:=NB534_504.out;have hms43_3:=NB534_505.out;have hms43_4:=NB534_506.out;have hms43_5:=NB534_520.out;refine skip_ (w1:=?_) (by rfl) rfl ?_ ?_
  rotate_left
  · go_simp
    rfl
  refine hK.out _ _ ⟨((cell_far (p:=⟨gb534,_,none⟩) NB502_534.out _).trans (((cell_far (p:=⟨gb534,_,none⟩) NB502_534.out _).trans (((cell_far (p:=⟨gb534,_,none⟩) NB502_534.out _).trans (((cell_far (p:=⟨gb534,_,none⟩) NB502_534.out _).trans (((cell_far (p:=⟨gb534,_,none⟩) NB502_534.out _).trans (((cell_far (p:=⟨gb534,_,none⟩) NB502_534.out _).trans (hHeld.1)))))))))))),((cell_far (p:=⟨gb534,_,none⟩) NB502_534.out _).trans (((cell_far (p:=⟨gb534,_,none⟩) NB502_534.out _).trans (((cell_far (p:=⟨gb534,_,none⟩) NB502_534.out _).trans (((cell_far (p:=⟨gb534,_,none⟩) NB502_534.out _).trans (((cell_far (p:=⟨gb534,_,none⟩) NB502_534.out _).trans (((cell_far (p:=⟨gb534,_,none⟩) NB502_534.out _).trans (hHeld.2.1)))))))))))),((cell_far (p:=⟨gb534,_,none⟩) NB502_534.out _).trans (((cell_far (p:=⟨gb534,_,none⟩) NB502_534.out _).trans (((cell_far (p:=⟨gb534,_,none⟩) NB502_534.out _).trans (((cell_far (p:=⟨gb534,_,none⟩) NB502_534.out _).trans (((cell_far (p:=⟨gb534,_,none⟩) NB502_534.out _).trans (((cell_far (p:=⟨gb534,_,none⟩) NB502_534.out _).trans (hHeld.2.2.1)))))))))))),((cell_far (p:=⟨gb534,_,none⟩) NB502_534.out _).trans (((cell_far (p:=⟨gb534,_,none⟩) NB502_534.out _).trans (((cell_far (p:=⟨gb534,_,none⟩) NB502_534.out _).trans (((cell_far (p:=⟨gb534,_,none⟩) NB502_534.out _).trans (((cell_far (p:=⟨gb534,_,none⟩) NB502_534.out _).trans (((cell_far (p:=⟨gb534,_,none⟩) NB502_534.out _).trans (hHeld.2.2.2.1)))))))))))),((cell_far (p:=⟨gb534,_,none⟩) NB502_534.out _).trans (((cell_far (p:=⟨gb534,_,none⟩) NB502_534.out _).trans (((cell_far (p:=⟨gb534,_,none⟩) NB502_534.out _).trans (((cell_far (p:=⟨gb534,_,none⟩) NB502_534.out _).trans (((cell_far (p:=⟨gb534,_,none⟩) NB502_534.out _).trans (((cell_far (p:=⟨gb534,_,none⟩) NB502_534.out _).trans (hHeld.2.2.2.2.1)))))))))))),((cell_far (p:=⟨gb534,_,none⟩) NB502_534.out _).trans (((cell_far (p:=⟨gb534,_,none⟩) NB502_534.out _).trans (((cell_far (p:=⟨gb534,_,none⟩) NB502_534.out _).trans (((cell_far (p:=⟨gb534,_,none⟩) NB502_534.out _).trans (((cell_far (p:=⟨gb534,_,none⟩) NB502_534.out _).trans (((cell_far (p:=⟨gb534,_,none⟩) NB502_534.out _).trans (hHeld.2.2.2.2.2))))))))))))⟩ (fun hHeld => ?_);clear hK K;refine pure_ (i:=8) (N:=some 13) (v:=?_) (a':=?_) #[true,true,true,true,true,true,true,true,true] rfl rfl (any_of HT_.out (by kernel_rfl)) (fun _ _ _ h => h) (Or.inl ⟨by rfl,?_⟩) ?_ ?_
  rotate_left
  · intro w'
    go_simp
    with_reducible rfl
  rotate_left
  · simp only [Act.put,q1,q2,q3,i64_w,i32_w]
    rfl
  refine done_ (done_of HT_.out (by kernel_rfl)) ?_
  go_upto_region 4 with (fail)
  go_cut [49] (fun v49 wc => ∃ (kq : Nat) (x49_8 : Bool),v49 = .bool x49_8 ∧ Aside0 (celluloidlaw14_AffineSame.j0 kq x49_8 a0_0 a0_1 a0_2 a0_3 a0_4 a0_5 a1_0 a1_1 a1_2 a1_3 a1_4 a1_5 a1_6 a1_7 a2_0 a2_1 a2_2 a2_3 a3_0 a3_1 256 256 256 256 0 0 0 0 = some r) ∧ Aside0 (kq ≤ k) ∧ Aside0 (wc.heap[gb502]? = some (.cells #[.int .i64 a0_0,.int .i64 a0_1,.int .i64 a0_2,.int .i64 a0_3,.int .i64 a0_4,.int .i64 a0_5] 23 (0,0))) ∧ Aside0 (wc.heap[gb503]? = some (.cells #[.int .i64 a1_0,.int .i64 a1_1,.int .i64 a1_2,.int .i64 a1_3,.int .i64 a1_4,.int .i64 a1_5,.int .i64 a1_6,.int .i64 a1_7] 41 (0,0))) ∧ Aside0 (wc.heap[gb504]? = some (.cells #[.int .i64 a2_0,.int .i64 a2_1,.int .i64 a2_2,.int .i64 a2_3] 43 (0,0))) ∧ Aside0 (wc.heap[gb505]? = some (.cells #[.int .i64 a3_0,.int .i64 a3_1] 25 (0,0))) ∧ Aside0 (wc.heap[gb506]? = some (.cells #[.int .i64 256,.int .i64 256,.int .i64 256,.int .i64 256,.int .i64 0,.int .i64 0,.int .i64 0,.int .i64 0] 41 (0,0))) ∧ Aside0 (wc.heap[gb520]? = some (.cells #[.int .i64 t513,.int .i64 t514,.int .i64 t515,.int .i64 t516,.int .i64 t517,.int .i64 t518] 23 (0,0))) ∧ Aside0 (wc.heap[gb534]? = some (.cells #[.int .i64 t527,.int .i64 t528,.int .i64 t529,.int .i64 t530,.int .i64 t531,.int .i64 t532] 23 (0,0))) ∧ Aside0 (Below w.heap.size w wc))
  case first =>
    have H:=HC9.out;clear HC9;replace H:=Option.bind_eq_some_iff.mp H;obtain ⟨t535,A440,H⟩:=H;replace H : (if t535 = true then (if (!(t513 == a0_0) || (!(t514 == a0_1) || (!(t515 == a0_2) || (!(t516 == a0_3) || (!(t517 == a0_4) || (!(t518 == a0_5))))))) = true then (celluloidlaw14_AffineSame.j0 k true a0_0 a0_1 a0_2 a0_3 a0_4 a0_5 a1_0 a1_1 a1_2 a1_3 a1_4 a1_5 a1_6 a1_7 a2_0 a2_1 a2_2 a2_3 a3_0 a3_1 256 256 256 256 0 0 0 0) else (if (!(t527 == a0_0) || (!(t528 == a0_1) || (!(t529 == a0_2) || (!(t530 == a0_3) || (!(t531 == a0_4) || (!(t532 == a0_5))))))) = true then (celluloidlaw14_AffineSame.j0 k true a0_0 a0_1 a0_2 a0_3 a0_4 a0_5 a1_0 a1_1 a1_2 a1_3 a1_4 a1_5 a1_6 a1_7 a2_0 a2_1 a2_2 a2_3 a3_0 a3_1 256 256 256 256 0 0 0 0) else (if t519 = 0 then (celluloidlaw14_AffineSame.j0 k (t533 != 0) a0_0 a0_1 a0_2 a0_3 a0_4 a0_5 a1_0 a1_1 a1_2 a1_3 a1_4 a1_5 a1_6 a1_7 a2_0 a2_1 a2_2 a2_3 a3_0 a3_1 256 256 256 256 0 0 0 0) else (celluloidlaw14_AffineSame.j0 k true a0_0 a0_1 a0_2 a0_3 a0_4 a0_5 a1_0 a1_1 a1_2 a1_3 a1_4 a1_5 a1_6 a1_7 a2_0 a2_1 a2_2 a2_3 a3_0 a3_1 256 256 256 256 0 0 0 0)))) else (celluloidlaw14_AffineSame.j0 k false a0_0 a0_1 a0_2 a0_3 a0_4 a0_5 a1_0 a1_1 a1_2 a1_3 a1_4 a1_5 a1_6 a1_7 a2_0 a2_1 a2_2 a2_3 a3_0 a3_1 256 256 256 256 0 0 0 0)) = some r:=H;have A44:=am A440;clear A440
    by_cases c45 : t535 = true
    · subst c45
      have H1 : (if (!(t513 == a0_0) || (!(t514 == a0_1) || (!(t515 == a0_2) || (!(t516 == a0_3) || (!(t517 == a0_4) || (!(t518 == a0_5))))))) = true then (celluloidlaw14_AffineSame.j0 k true a0_0 a0_1 a0_2 a0_3 a0_4 a0_5 a1_0 a1_1 a1_2 a1_3 a1_4 a1_5 a1_6 a1_7 a2_0 a2_1 a2_2 a2_3 a3_0 a3_1 256 256 256 256 0 0 0 0) else (if (!(t527 == a0_0) || (!(t528 == a0_1) || (!(t529 == a0_2) || (!(t530 == a0_3) || (!(t531 == a0_4) || (!(t532 == a0_5))))))) = true then (celluloidlaw14_AffineSame.j0 k true a0_0 a0_1 a0_2 a0_3 a0_4 a0_5 a1_0 a1_1 a1_2 a1_3 a1_4 a1_5 a1_6 a1_7 a2_0 a2_1 a2_2 a2_3 a3_0 a3_1 256 256 256 256 0 0 0 0) else (if t519 = 0 then (celluloidlaw14_AffineSame.j0 k (t533 != 0) a0_0 a0_1 a0_2 a0_3 a0_4 a0_5 a1_0 a1_1 a1_2 a1_3 a1_4 a1_5 a1_6 a1_7 a2_0 a2_1 a2_2 a2_3 a3_0 a3_1 256 256 256 256 0 0 0 0) else (celluloidlaw14_AffineSame.j0 k true a0_0 a0_1 a0_2 a0_3 a0_4 a0_5 a1_0 a1_1 a1_2 a1_3 a1_4 a1_5 a1_6 a1_7 a2_0 a2_1 a2_2 a2_3 a3_0 a3_1 256 256 256 256 0 0 0 0)))) = some r:=by rw [if_pos rfl] at H;exact H
      clear H;have H:=H1;clear H1
      by_cases c46 : (!(t513 == a0_0) || (!(t514 == a0_1) || (!(t515 == a0_2) || (!(t516 == a0_3) || (!(t517 == a0_4) || (!(t518 == a0_5))))))) = true
      · rw [if_pos c46] at H
        have c46b0 : (!(t513 == a0_0) || (!(t514 == a0_1) || (!(t515 == a0_2) || (!(t516 == a0_3) || (!(t517 == a0_4) || (!(t518 == a0_5))))))) = true:=c46;clear c46
        (first|rw [c46b0]|(simp only [i64_w,i32_w];rw [c46b0])|skip)
        have H':=am H;clear H;have hnb47:=NB502_503.out;have hnc47:=NB503_502.out;have hnb48:=NB502_504.out;have hnc48:=NB504_502.out;have hnb49:=NB502_505.out;have hnc49:=NB505_502.out;have hnb50:=NB502_506.out;have hnc50:=NB506_502.out;have hnb51:=NB502_520.out;have hnc51:=NB520_502.out;have hnb52:=NB502_534.out;have hnc52:=NB534_502.out;have hcz53_0 : w37.cell? ⟨gb502,0,none⟩ = some (.int .i64 a0_0):=(bc BK502.out 0).trans rfl;have hcz53_1 : w37.cell? ⟨gb502,1,none⟩ = some (.int .i64 a0_1):=(bc BK502.out 1).trans rfl;have hcz53_2 : w37.cell? ⟨gb502,2,none⟩ = some (.int .i64 a0_2):=(bc BK502.out 2).trans rfl;have hcz53_3 : w37.cell? ⟨gb502,3,none⟩ = some (.int .i64 a0_3):=(bc BK502.out 3).trans rfl;have hcz53_4 : w37.cell? ⟨gb502,4,none⟩ = some (.int .i64 a0_4):=(bc BK502.out 4).trans rfl;have hcz53_5 : w37.cell? ⟨gb502,5,none⟩ = some (.int .i64 a0_5):=(bc BK502.out 5).trans rfl;have hfz53_0:=bz BK502.out 0;have hfz53_1:=bz BK502.out 1;have hfz53_2:=bz BK502.out 2;have hfz53_3:=bz BK502.out 3;have hfz53_4:=bz BK502.out 4;have hfz53_5:=bz BK502.out 5
        go_wp2_with (first|((with_reducible refine gate_callee (f:=17) rfl ?_);refine goesL_ (some 31) rfl rfl Try.func17 (by kernel_rfl) rfl #[.agg #[.int .i64 a0_0,.int .i64 a0_1,.int .i64 a0_2,.int .i64 a0_3,.int .i64 a0_4,.int .i64 a0_5]] rfl (by (try simp only [List.map_toArray,List.map_cons,List.map_nil]);first|done|rfl|(simp only [List.length_drop,List.length_take];rfl)) ?_;(with_reducible refine (celluloidref07_Matrix.calls a0_0 a0_1 a0_2 a0_3 a0_4 a0_5 true _ A44.out).mono ?_);rintro e w54 ⟨rfl,hb⟩;refine ⟨_,rfl,?_⟩;replace BK502:=am (wz BK502.out (by (with_reducible repeat (first|refine bn ?_ _|refine bd ?_|refine ba ?_ _|refine bf ?_ NB502_534.out _));exact BK502.out) hb);replace BK503:=am (wz BK503.out (by (with_reducible repeat (first|refine bn ?_ _|refine bd ?_|refine ba ?_ _|refine bf ?_ NB503_534.out _));exact BK503.out) hb);replace BK504:=am (wz BK504.out (by (with_reducible repeat (first|refine bn ?_ _|refine bd ?_|refine ba ?_ _|refine bf ?_ NB504_534.out _));exact BK504.out) hb);replace BK505:=am (wz BK505.out (by (with_reducible repeat (first|refine bn ?_ _|refine bd ?_|refine ba ?_ _|refine bf ?_ NB505_534.out _));exact BK505.out) hb);replace BK506:=am (wz BK506.out (by (with_reducible repeat (first|refine bn ?_ _|refine bd ?_|refine ba ?_ _|refine bf ?_ NB506_534.out _));exact BK506.out) hb);replace BK520:=am (wz BK520.out (by (with_reducible repeat (first|refine bn ?_ _|refine bd ?_|refine ba ?_ _|refine bf ?_ NB520_534.out _));exact BK520.out) hb);replace BK534:=am (bw (g:=gb534) (o:=.cells #[.int .i64 t527,.int .i64 t528,.int .i64 t529,.int .i64 t530,.int .i64 t531,.int .i64 t532] 23 (0,0)) (by (with_reducible repeat (first|refine bn ?_ _|refine bd ?_|refine ba ?_ _));refine bp (cs:=#[.int .i64 t527,.int .i64 t528,.int .i64 t529,.int .i64 t530,.int .i64 t531,.int .i64 0]) ?_ 5 _ rfl;(with_reducible repeat (first|refine bn ?_ _|refine bd ?_|refine ba ?_ _));refine bp (cs:=#[.int .i64 t527,.int .i64 t528,.int .i64 t529,.int .i64 t530,.int .i64 0,.int .i64 0]) ?_ 4 _ rfl;(with_reducible repeat (first|refine bn ?_ _|refine bd ?_|refine ba ?_ _));refine bp (cs:=#[.int .i64 t527,.int .i64 t528,.int .i64 t529,.int .i64 0,.int .i64 0,.int .i64 0]) ?_ 3 _ rfl;(with_reducible repeat (first|refine bn ?_ _|refine bd ?_|refine ba ?_ _));refine bp (cs:=#[.int .i64 t527,.int .i64 t528,.int .i64 0,.int .i64 0,.int .i64 0,.int .i64 0]) ?_ 2 _ rfl;(with_reducible repeat (first|refine bn ?_ _|refine bd ?_|refine ba ?_ _));refine bp (cs:=#[.int .i64 t527,.int .i64 0,.int .i64 0,.int .i64 0,.int .i64 0,.int .i64 0]) ?_ 1 _ rfl;(with_reducible repeat (first|refine bn ?_ _|refine bd ?_|refine ba ?_ _));refine bp (cs:=#[.int .i64 0,.int .i64 0,.int .i64 0,.int .i64 0,.int .i64 0,.int .i64 0]) ?_ 0 _ rfl;(with_reducible repeat (first|refine bn ?_ _|refine bd ?_|refine ba ?_ _));exact BK534.out) hb);replace HB:=am (ss (by repeat (first|(with_reducible first|exact HB.out|apply sa|apply sn|apply sd|refine sy ?_ (by assumption))|exact HB.out)) hb);(try clear hb);(try clear hb2);(try clear hk);(try clear hi);have hnb55:=NB520_503.out;have hnc55:=NB503_520.out;have hnb56:=NB520_504.out;have hnc56:=NB504_520.out;have hnb57:=NB520_505.out;have hnc57:=NB505_520.out;have hnb58:=NB520_506.out;have hnc58:=NB506_520.out;have hnb59:=NB520_534.out;have hnc59:=NB534_520.out;obtain ⟨hcz60_0,hcz60_1,hcz60_2,hcz60_3,hcz60_4,hcz60_5⟩:=cq6 BK520.out;obtain ⟨hfz60_0,hfz60_1,hfz60_2,hfz60_3,hfz60_4,hfz60_5⟩:=fq6 BK520.out;obtain ⟨hcz61_0,hcz61_1,hcz61_2,hcz61_3,hcz61_4,hcz61_5⟩:=cq6 BK502.out;obtain ⟨hfz61_0,hfz61_1,hfz61_2,hfz61_3,hfz61_4,hfz61_5⟩:=fq6 BK502.out))
        go_meet
        case rel => exact ⟨_,(true),(by first|rfl|(simp;done)|(simp [*];done)),H',⟨by first|omega|exact Nat.le_refl _⟩,⟨by exact BK502.out⟩,⟨by exact BK503.out⟩,⟨by exact BK504.out⟩,⟨by exact BK505.out⟩,⟨by exact BK506.out⟩,⟨by exact BK520.out⟩,⟨by exact BK534.out⟩,⟨by repeat (first|(with_reducible first|exact HB.out|apply sa|apply sn|apply sd|refine sy ?_ (by assumption))|exact HB.out)⟩⟩
      · rw [if_neg c46] at H
        have c46b0 : (!(t513 == a0_0) || (!(t514 == a0_1) || (!(t515 == a0_2) || (!(t516 == a0_3) || (!(t517 == a0_4) || (!(t518 == a0_5))))))) = false:=by simpa using c46
        clear c46
        (first|rw [c46b0]|(simp only [i64_w,i32_w];rw [c46b0])|skip)
        by_cases c62 : (!(t527 == a0_0) || (!(t528 == a0_1) || (!(t529 == a0_2) || (!(t530 == a0_3) || (!(t531 == a0_4) || (!(t532 == a0_5))))))) = true
        · rw [if_pos c62] at H
          have c62b0 : (!(t527 == a0_0) || (!(t528 == a0_1) || (!(t529 == a0_2) || (!(t530 == a0_3) || (!(t531 == a0_4) || (!(t532 == a0_5))))))) = true:=c62;clear c62;have H':=am H;clear H;have hnb63:=NB502_503.out;have hnc63:=NB503_502.out;have hnb64:=NB502_504.out;have hnc64:=NB504_502.out;have hnb65:=NB502_505.out;have hnc65:=NB505_502.out;have hnb66:=NB502_506.out;have hnc66:=NB506_502.out;have hnb67:=NB502_520.out;have hnc67:=NB520_502.out;have hnb68:=NB502_534.out;have hnc68:=NB534_502.out;have hcz69_0 : w37.cell? ⟨gb502,0,none⟩ = some (.int .i64 a0_0):=(bc BK502.out 0).trans rfl;have hcz69_1 : w37.cell? ⟨gb502,1,none⟩ = some (.int .i64 a0_1):=(bc BK502.out 1).trans rfl;have hcz69_2 : w37.cell? ⟨gb502,2,none⟩ = some (.int .i64 a0_2):=(bc BK502.out 2).trans rfl;have hcz69_3 : w37.cell? ⟨gb502,3,none⟩ = some (.int .i64 a0_3):=(bc BK502.out 3).trans rfl;have hcz69_4 : w37.cell? ⟨gb502,4,none⟩ = some (.int .i64 a0_4):=(bc BK502.out 4).trans rfl;have hcz69_5 : w37.cell? ⟨gb502,5,none⟩ = some (.int .i64 a0_5):=(bc BK502.out 5).trans rfl;have hfz69_0:=bz BK502.out 0;have hfz69_1:=bz BK502.out 1;have hfz69_2:=bz BK502.out 2;have hfz69_3:=bz BK502.out 3;have hfz69_4:=bz BK502.out 4;have hfz69_5:=bz BK502.out 5
          go_wp2_with (first|((with_reducible refine gate_callee (f:=17) rfl ?_);refine goesL_ (some 31) rfl rfl Try.func17 (by kernel_rfl) rfl #[.agg #[.int .i64 a0_0,.int .i64 a0_1,.int .i64 a0_2,.int .i64 a0_3,.int .i64 a0_4,.int .i64 a0_5]] rfl (by (try simp only [List.map_toArray,List.map_cons,List.map_nil]);first|done|rfl|(simp only [List.length_drop,List.length_take];rfl)) ?_;(with_reducible refine (celluloidref07_Matrix.calls a0_0 a0_1 a0_2 a0_3 a0_4 a0_5 true _ A44.out).mono ?_);rintro e w70 ⟨rfl,hb⟩;refine ⟨_,rfl,?_⟩;replace BK502:=am (wz BK502.out (by (with_reducible repeat (first|refine bn ?_ _|refine bd ?_|refine ba ?_ _|refine bf ?_ NB502_534.out _));exact BK502.out) hb);replace BK503:=am (wz BK503.out (by (with_reducible repeat (first|refine bn ?_ _|refine bd ?_|refine ba ?_ _|refine bf ?_ NB503_534.out _));exact BK503.out) hb);replace BK504:=am (wz BK504.out (by (with_reducible repeat (first|refine bn ?_ _|refine bd ?_|refine ba ?_ _|refine bf ?_ NB504_534.out _));exact BK504.out) hb);replace BK505:=am (wz BK505.out (by (with_reducible repeat (first|refine bn ?_ _|refine bd ?_|refine ba ?_ _|refine bf ?_ NB505_534.out _));exact BK505.out) hb);replace BK506:=am (wz BK506.out (by (with_reducible repeat (first|refine bn ?_ _|refine bd ?_|refine ba ?_ _|refine bf ?_ NB506_534.out _));exact BK506.out) hb);replace BK520:=am (wz BK520.out (by (with_reducible repeat (first|refine bn ?_ _|refine bd ?_|refine ba ?_ _|refine bf ?_ NB520_534.out _));exact BK520.out) hb);replace BK534:=am (bw (g:=gb534) (o:=.cells #[.int .i64 t527,.int .i64 t528,.int .i64 t529,.int .i64 t530,.int .i64 t531,.int .i64 t532] 23 (0,0)) (by (with_reducible repeat (first|refine bn ?_ _|refine bd ?_|refine ba ?_ _));refine bp (cs:=#[.int .i64 t527,.int .i64 t528,.int .i64 t529,.int .i64 t530,.int .i64 t531,.int .i64 0]) ?_ 5 _ rfl;(with_reducible repeat (first|refine bn ?_ _|refine bd ?_|refine ba ?_ _));refine bp (cs:=#[.int .i64 t527,.int .i64 t528,.int .i64 t529,.int .i64 t530,.int .i64 0,.int .i64 0]) ?_ 4 _ rfl;(with_reducible repeat (first|refine bn ?_ _|refine bd ?_|refine ba ?_ _));refine bp (cs:=#[.int .i64 t527,.int .i64 t528,.int .i64 t529,.int .i64 0,.int .i64 0,.int .i64 0]) ?_ 3 _ rfl;(with_reducible repeat (first|refine bn ?_ _|refine bd ?_|refine ba ?_ _));refine bp (cs:=#[.int .i64 t527,.int .i64 t528,.int .i64 0,.int .i64 0,.int .i64 0,.int .i64 0]) ?_ 2 _ rfl;(with_reducible repeat (first|refine bn ?_ _|refine bd ?_|refine ba ?_ _));refine bp (cs:=#[.int .i64 t527,.int .i64 0,.int .i64 0,.int .i64 0,.int .i64 0,.int .i64 0]) ?_ 1 _ rfl;(with_reducible repeat (first|refine bn ?_ _|refine bd ?_|refine ba ?_ _));refine bp (cs:=#[.int .i64 0,.int .i64 0,.int .i64 0,.int .i64 0,.int .i64 0,.int .i64 0]) ?_ 0 _ rfl;(with_reducible repeat (first|refine bn ?_ _|refine bd ?_|refine ba ?_ _));exact BK534.out) hb);replace HB:=am (ss (by repeat (first|(with_reducible first|exact HB.out|apply sa|apply sn|apply sd|refine sy ?_ (by assumption))|exact HB.out)) hb);(try clear hb);(try clear hb2);(try clear hk);(try clear hi);have hnb71:=NB520_503.out;have hnc71:=NB503_520.out;have hnb72:=NB520_504.out;have hnc72:=NB504_520.out;have hnb73:=NB520_505.out;have hnc73:=NB505_520.out;have hnb74:=NB520_506.out;have hnc74:=NB506_520.out;have hnb75:=NB520_534.out;have hnc75:=NB534_520.out;obtain ⟨hcz76_0,hcz76_1,hcz76_2,hcz76_3,hcz76_4,hcz76_5⟩:=cq6 BK520.out;obtain ⟨hfz76_0,hfz76_1,hfz76_2,hfz76_3,hfz76_4,hfz76_5⟩:=fq6 BK520.out;obtain ⟨hcz77_0,hcz77_1,hcz77_2,hcz77_3,hcz77_4,hcz77_5⟩:=cq6 BK502.out;obtain ⟨hfz77_0,hfz77_1,hfz77_2,hfz77_3,hfz77_4,hfz77_5⟩:=fq6 BK502.out;have hnb78:=NB534_503.out;have hnc78:=NB503_534.out;have hnb79:=NB534_504.out;have hnc79:=NB504_534.out;have hnb80:=NB534_505.out;have hnc80:=NB505_534.out;have hnb81:=NB534_506.out;have hnc81:=NB506_534.out;have hcz82_0 : w70.cell? ⟨gb534,0,none⟩ = some (.int .i64 t527):=(bc BK534.out 0).trans rfl;have hcz82_1 : w70.cell? ⟨gb534,1,none⟩ = some (.int .i64 t528):=(bc BK534.out 1).trans rfl;have hcz82_2 : w70.cell? ⟨gb534,2,none⟩ = some (.int .i64 t529):=(bc BK534.out 2).trans rfl;have hcz82_3 : w70.cell? ⟨gb534,3,none⟩ = some (.int .i64 t530):=(bc BK534.out 3).trans rfl;have hcz82_4 : w70.cell? ⟨gb534,4,none⟩ = some (.int .i64 t531):=(bc BK534.out 4).trans rfl;have hcz82_5 : w70.cell? ⟨gb534,5,none⟩ = some (.int .i64 t532):=(bc BK534.out 5).trans rfl;obtain ⟨hfz82_0,hfz82_1,hfz82_2,hfz82_3,hfz82_4,hfz82_5⟩:=fq6 BK534.out))
          go_meet
          case rel => exact ⟨_,(true),(by first|rfl|(simp;done)|(simp [*];done)),H',⟨by first|omega|exact Nat.le_refl _⟩,⟨by exact BK502.out⟩,⟨by exact BK503.out⟩,⟨by exact BK504.out⟩,⟨by exact BK505.out⟩,⟨by exact BK506.out⟩,⟨by exact BK520.out⟩,⟨by exact BK534.out⟩,⟨by repeat (first|(with_reducible first|exact HB.out|apply sa|apply sn|apply sd|refine sy ?_ (by assumption))|exact HB.out)⟩⟩
        · rw [if_neg c62] at H
          have c62b0 : (!(t527 == a0_0) || (!(t528 == a0_1) || (!(t529 == a0_2) || (!(t530 == a0_3) || (!(t531 == a0_4) || (!(t532 == a0_5))))))) = false:=by simpa using c62
          clear c62
          by_cases c83 : t519 = 0
          · rw [if_pos c83] at H
            have c83b0 : (t519 == 0) = true:=beq_iff_eq.mpr c83;have c83b1 : (t519 != 0) = false:=bne_eq_false_iff_eq.mpr c83;clear c83;have H':=am H;clear H;have hnb84:=NB502_503.out;have hnc84:=NB503_502.out;have hnb85:=NB502_504.out;have hnc85:=NB504_502.out;have hnb86:=NB502_505.out;have hnc86:=NB505_502.out;have hnb87:=NB502_506.out;have hnc87:=NB506_502.out;have hnb88:=NB502_520.out;have hnc88:=NB520_502.out;have hnb89:=NB502_534.out;have hnc89:=NB534_502.out;have hcz90_0 : w37.cell? ⟨gb502,0,none⟩ = some (.int .i64 a0_0):=(bc BK502.out 0).trans rfl;have hcz90_1 : w37.cell? ⟨gb502,1,none⟩ = some (.int .i64 a0_1):=(bc BK502.out 1).trans rfl;have hcz90_2 : w37.cell? ⟨gb502,2,none⟩ = some (.int .i64 a0_2):=(bc BK502.out 2).trans rfl;have hcz90_3 : w37.cell? ⟨gb502,3,none⟩ = some (.int .i64 a0_3):=(bc BK502.out 3).trans rfl;have hcz90_4 : w37.cell? ⟨gb502,4,none⟩ = some (.int .i64 a0_4):=(bc BK502.out 4).trans rfl;have hcz90_5 : w37.cell? ⟨gb502,5,none⟩ = some (.int .i64 a0_5):=(bc BK502.out 5).trans rfl;have hfz90_0:=bz BK502.out 0;have hfz90_1:=bz BK502.out 1;have hfz90_2:=bz BK502.out 2;have hfz90_3:=bz BK502.out 3;have hfz90_4:=bz BK502.out 4;have hfz90_5:=bz BK502.out 5
            go_wp2_with (first|((with_reducible refine gate_callee (f:=17) rfl ?_);refine goesL_ (some 31) rfl rfl Try.func17 (by kernel_rfl) rfl #[.agg #[.int .i64 a0_0,.int .i64 a0_1,.int .i64 a0_2,.int .i64 a0_3,.int .i64 a0_4,.int .i64 a0_5]] rfl (by (try simp only [List.map_toArray,List.map_cons,List.map_nil]);first|done|rfl|(simp only [List.length_drop,List.length_take];rfl)) ?_;(with_reducible refine (celluloidref07_Matrix.calls a0_0 a0_1 a0_2 a0_3 a0_4 a0_5 true _ A44.out).mono ?_);rintro e w91 ⟨rfl,hb⟩;refine ⟨_,rfl,?_⟩;replace BK502:=am (wz BK502.out (by (with_reducible repeat (first|refine bn ?_ _|refine bd ?_|refine ba ?_ _|refine bf ?_ NB502_534.out _));exact BK502.out) hb);replace BK503:=am (wz BK503.out (by (with_reducible repeat (first|refine bn ?_ _|refine bd ?_|refine ba ?_ _|refine bf ?_ NB503_534.out _));exact BK503.out) hb);replace BK504:=am (wz BK504.out (by (with_reducible repeat (first|refine bn ?_ _|refine bd ?_|refine ba ?_ _|refine bf ?_ NB504_534.out _));exact BK504.out) hb);replace BK505:=am (wz BK505.out (by (with_reducible repeat (first|refine bn ?_ _|refine bd ?_|refine ba ?_ _|refine bf ?_ NB505_534.out _));exact BK505.out) hb);replace BK506:=am (wz BK506.out (by (with_reducible repeat (first|refine bn ?_ _|refine bd ?_|refine ba ?_ _|refine bf ?_ NB506_534.out _));exact BK506.out) hb);replace BK520:=am (wz BK520.out (by (with_reducible repeat (first|refine bn ?_ _|refine bd ?_|refine ba ?_ _|refine bf ?_ NB520_534.out _));exact BK520.out) hb);replace BK534:=am (bw (g:=gb534) (o:=.cells #[.int .i64 t527,.int .i64 t528,.int .i64 t529,.int .i64 t530,.int .i64 t531,.int .i64 t532] 23 (0,0)) (by (with_reducible repeat (first|refine bn ?_ _|refine bd ?_|refine ba ?_ _));refine bp (cs:=#[.int .i64 t527,.int .i64 t528,.int .i64 t529,.int .i64 t530,.int .i64 t531,.int .i64 0]) ?_ 5 _ rfl;(with_reducible repeat (first|refine bn ?_ _|refine bd ?_|refine ba ?_ _));refine bp (cs:=#[.int .i64 t527,.int .i64 t528,.int .i64 t529,.int .i64 t530,.int .i64 0,.int .i64 0]) ?_ 4 _ rfl;(with_reducible repeat (first|refine bn ?_ _|refine bd ?_|refine ba ?_ _));refine bp (cs:=#[.int .i64 t527,.int .i64 t528,.int .i64 t529,.int .i64 0,.int .i64 0,.int .i64 0]) ?_ 3 _ rfl;(with_reducible repeat (first|refine bn ?_ _|refine bd ?_|refine ba ?_ _));refine bp (cs:=#[.int .i64 t527,.int .i64 t528,.int .i64 0,.int .i64 0,.int .i64 0,.int .i64 0]) ?_ 2 _ rfl;(with_reducible repeat (first|refine bn ?_ _|refine bd ?_|refine ba ?_ _));refine bp (cs:=#[.int .i64 t527,.int .i64 0,.int .i64 0,.int .i64 0,.int .i64 0,.int .i64 0]) ?_ 1 _ rfl;(with_reducible repeat (first|refine bn ?_ _|refine bd ?_|refine ba ?_ _));refine bp (cs:=#[.int .i64 0,.int .i64 0,.int .i64 0,.int .i64 0,.int .i64 0,.int .i64 0]) ?_ 0 _ rfl;(with_reducible repeat (first|refine bn ?_ _|refine bd ?_|refine ba ?_ _));exact BK534.out) hb);replace HB:=am (ss (by repeat (first|(with_reducible first|exact HB.out|apply sa|apply sn|apply sd|refine sy ?_ (by assumption))|exact HB.out)) hb);(try clear hb);(try clear hb2);(try clear hk);(try clear hi);have hnb92:=NB520_503.out;have hnc92:=NB503_520.out;have hnb93:=NB520_504.out;have hnc93:=NB504_520.out;have hnb94:=NB520_505.out;have hnc94:=NB505_520.out;have hnb95:=NB520_506.out;have hnc95:=NB506_520.out;have hnb96:=NB520_534.out;have hnc96:=NB534_520.out;obtain ⟨hcz97_0,hcz97_1,hcz97_2,hcz97_3,hcz97_4,hcz97_5⟩:=cq6 BK520.out;obtain ⟨hfz97_0,hfz97_1,hfz97_2,hfz97_3,hfz97_4,hfz97_5⟩:=fq6 BK520.out;obtain ⟨hcz98_0,hcz98_1,hcz98_2,hcz98_3,hcz98_4,hcz98_5⟩:=cq6 BK502.out;obtain ⟨hfz98_0,hfz98_1,hfz98_2,hfz98_3,hfz98_4,hfz98_5⟩:=fq6 BK502.out;have hnb99:=NB534_503.out;have hnc99:=NB503_534.out;have hnb100:=NB534_504.out;have hnc100:=NB504_534.out;have hnb101:=NB534_505.out;have hnc101:=NB505_534.out;have hnb102:=NB534_506.out;have hnc102:=NB506_534.out;have hcz103_0 : w91.cell? ⟨gb534,0,none⟩ = some (.int .i64 t527):=(bc BK534.out 0).trans rfl;have hcz103_1 : w91.cell? ⟨gb534,1,none⟩ = some (.int .i64 t528):=(bc BK534.out 1).trans rfl;have hcz103_2 : w91.cell? ⟨gb534,2,none⟩ = some (.int .i64 t529):=(bc BK534.out 2).trans rfl;have hcz103_3 : w91.cell? ⟨gb534,3,none⟩ = some (.int .i64 t530):=(bc BK534.out 3).trans rfl;have hcz103_4 : w91.cell? ⟨gb534,4,none⟩ = some (.int .i64 t531):=(bc BK534.out 4).trans rfl;have hcz103_5 : w91.cell? ⟨gb534,5,none⟩ = some (.int .i64 t532):=(bc BK534.out 5).trans rfl;obtain ⟨hfz103_0,hfz103_1,hfz103_2,hfz103_3,hfz103_4,hfz103_5⟩:=fq6 BK534.out))
            go_meet
            case rel => exact ⟨_,((t533 != 0)),(by first|rfl|(simp;done)|(simp [*];done)),H',⟨by first|omega|exact Nat.le_refl _⟩,⟨by exact BK502.out⟩,⟨by exact BK503.out⟩,⟨by exact BK504.out⟩,⟨by exact BK505.out⟩,⟨by exact BK506.out⟩,⟨by exact BK520.out⟩,⟨by exact BK534.out⟩,⟨by repeat (first|(with_reducible first|exact HB.out|apply sa|apply sn|apply sd|refine sy ?_ (by assumption))|exact HB.out)⟩⟩
          · rw [if_neg c83] at H
            have c83b0 : (t519 == 0) = false:=beq_eq_false_iff_ne.mpr c83;have c83b1 : (t519 != 0) = true:=bne_iff_ne.mpr c83;have H':=am H;clear H;have hnb104:=NB502_503.out;have hnc104:=NB503_502.out;have hnb105:=NB502_504.out;have hnc105:=NB504_502.out;have hnb106:=NB502_505.out;have hnc106:=NB505_502.out;have hnb107:=NB502_506.out;have hnc107:=NB506_502.out;have hnb108:=NB502_520.out;have hnc108:=NB520_502.out;have hnb109:=NB502_534.out;have hnc109:=NB534_502.out;have hcz110_0 : w37.cell? ⟨gb502,0,none⟩ = some (.int .i64 a0_0):=(bc BK502.out 0).trans rfl;have hcz110_1 : w37.cell? ⟨gb502,1,none⟩ = some (.int .i64 a0_1):=(bc BK502.out 1).trans rfl;have hcz110_2 : w37.cell? ⟨gb502,2,none⟩ = some (.int .i64 a0_2):=(bc BK502.out 2).trans rfl;have hcz110_3 : w37.cell? ⟨gb502,3,none⟩ = some (.int .i64 a0_3):=(bc BK502.out 3).trans rfl;have hcz110_4 : w37.cell? ⟨gb502,4,none⟩ = some (.int .i64 a0_4):=(bc BK502.out 4).trans rfl;have hcz110_5 : w37.cell? ⟨gb502,5,none⟩ = some (.int .i64 a0_5):=(bc BK502.out 5).trans rfl;have hfz110_0:=bz BK502.out 0;have hfz110_1:=bz BK502.out 1;have hfz110_2:=bz BK502.out 2;have hfz110_3:=bz BK502.out 3;have hfz110_4:=bz BK502.out 4;have hfz110_5:=bz BK502.out 5
            go_wp2_with (first|((with_reducible refine gate_callee (f:=17) rfl ?_);refine goesL_ (some 31) rfl rfl Try.func17 (by kernel_rfl) rfl #[.agg #[.int .i64 a0_0,.int .i64 a0_1,.int .i64 a0_2,.int .i64 a0_3,.int .i64 a0_4,.int .i64 a0_5]] rfl (by (try simp only [List.map_toArray,List.map_cons,List.map_nil]);first|done|rfl|(simp only [List.length_drop,List.length_take];rfl)) ?_;(with_reducible refine (celluloidref07_Matrix.calls a0_0 a0_1 a0_2 a0_3 a0_4 a0_5 true _ A44.out).mono ?_);rintro e w111 ⟨rfl,hb⟩;refine ⟨_,rfl,?_⟩;replace BK502:=am (wz BK502.out (by (with_reducible repeat (first|refine bn ?_ _|refine bd ?_|refine ba ?_ _|refine bf ?_ NB502_534.out _));exact BK502.out) hb);replace BK503:=am (wz BK503.out (by (with_reducible repeat (first|refine bn ?_ _|refine bd ?_|refine ba ?_ _|refine bf ?_ NB503_534.out _));exact BK503.out) hb);replace BK504:=am (wz BK504.out (by (with_reducible repeat (first|refine bn ?_ _|refine bd ?_|refine ba ?_ _|refine bf ?_ NB504_534.out _));exact BK504.out) hb);replace BK505:=am (wz BK505.out (by (with_reducible repeat (first|refine bn ?_ _|refine bd ?_|refine ba ?_ _|refine bf ?_ NB505_534.out _));exact BK505.out) hb);replace BK506:=am (wz BK506.out (by (with_reducible repeat (first|refine bn ?_ _|refine bd ?_|refine ba ?_ _|refine bf ?_ NB506_534.out _));exact BK506.out) hb);replace BK520:=am (wz BK520.out (by (with_reducible repeat (first|refine bn ?_ _|refine bd ?_|refine ba ?_ _|refine bf ?_ NB520_534.out _));exact BK520.out) hb);replace BK534:=am (bw (g:=gb534) (o:=.cells #[.int .i64 t527,.int .i64 t528,.int .i64 t529,.int .i64 t530,.int .i64 t531,.int .i64 t532] 23 (0,0)) (by (with_reducible repeat (first|refine bn ?_ _|refine bd ?_|refine ba ?_ _));refine bp (cs:=#[.int .i64 t527,.int .i64 t528,.int .i64 t529,.int .i64 t530,.int .i64 t531,.int .i64 0]) ?_ 5 _ rfl;(with_reducible repeat (first|refine bn ?_ _|refine bd ?_|refine ba ?_ _));refine bp (cs:=#[.int .i64 t527,.int .i64 t528,.int .i64 t529,.int .i64 t530,.int .i64 0,.int .i64 0]) ?_ 4 _ rfl;(with_reducible repeat (first|refine bn ?_ _|refine bd ?_|refine ba ?_ _));refine bp (cs:=#[.int .i64 t527,.int .i64 t528,.int .i64 t529,.int .i64 0,.int .i64 0,.int .i64 0]) ?_ 3 _ rfl;(with_reducible repeat (first|refine bn ?_ _|refine bd ?_|refine ba ?_ _));refine bp (cs:=#[.int .i64 t527,.int .i64 t528,.int .i64 0,.int .i64 0,.int .i64 0,.int .i64 0]) ?_ 2 _ rfl;(with_reducible repeat (first|refine bn ?_ _|refine bd ?_|refine ba ?_ _));refine bp (cs:=#[.int .i64 t527,.int .i64 0,.int .i64 0,.int .i64 0,.int .i64 0,.int .i64 0]) ?_ 1 _ rfl;(with_reducible repeat (first|refine bn ?_ _|refine bd ?_|refine ba ?_ _));refine bp (cs:=#[.int .i64 0,.int .i64 0,.int .i64 0,.int .i64 0,.int .i64 0,.int .i64 0]) ?_ 0 _ rfl;(with_reducible repeat (first|refine bn ?_ _|refine bd ?_|refine ba ?_ _));exact BK534.out) hb);replace HB:=am (ss (by repeat (first|(with_reducible first|exact HB.out|apply sa|apply sn|apply sd|refine sy ?_ (by assumption))|exact HB.out)) hb);(try clear hb);(try clear hb2);(try clear hk);(try clear hi);have hnb112:=NB520_503.out;have hnc112:=NB503_520.out;have hnb113:=NB520_504.out;have hnc113:=NB504_520.out;have hnb114:=NB520_505.out;have hnc114:=NB505_520.out;have hnb115:=NB520_506.out;have hnc115:=NB506_520.out;have hnb116:=NB520_534.out;have hnc116:=NB534_520.out;obtain ⟨hcz117_0,hcz117_1,hcz117_2,hcz117_3,hcz117_4,hcz117_5⟩:=cq6 BK520.out;obtain ⟨hfz117_0,hfz117_1,hfz117_2,hfz117_3,hfz117_4,hfz117_5⟩:=fq6 BK520.out;obtain ⟨hcz118_0,hcz118_1,hcz118_2,hcz118_3,hcz118_4,hcz118_5⟩:=cq6 BK502.out;obtain ⟨hfz118_0,hfz118_1,hfz118_2,hfz118_3,hfz118_4,hfz118_5⟩:=fq6 BK502.out;have hnb119:=NB534_503.out;have hnc119:=NB503_534.out;have hnb120:=NB534_504.out;have hnc120:=NB504_534.out;have hnb121:=NB534_505.out;have hnc121:=NB505_534.out;have hnb122:=NB534_506.out;have hnc122:=NB506_534.out;have hcz123_0 : w111.cell? ⟨gb534,0,none⟩ = some (.int .i64 t527):=(bc BK534.out 0).trans rfl;have hcz123_1 : w111.cell? ⟨gb534,1,none⟩ = some (.int .i64 t528):=(bc BK534.out 1).trans rfl;have hcz123_2 : w111.cell? ⟨gb534,2,none⟩ = some (.int .i64 t529):=(bc BK534.out 2).trans rfl;have hcz123_3 : w111.cell? ⟨gb534,3,none⟩ = some (.int .i64 t530):=(bc BK534.out 3).trans rfl;have hcz123_4 : w111.cell? ⟨gb534,4,none⟩ = some (.int .i64 t531):=(bc BK534.out 4).trans rfl;have hcz123_5 : w111.cell? ⟨gb534,5,none⟩ = some (.int .i64 t532):=(bc BK534.out 5).trans rfl;obtain ⟨hfz123_0,hfz123_1,hfz123_2,hfz123_3,hfz123_4,hfz123_5⟩:=fq6 BK534.out))
            go_meet
            case rel => exact ⟨_,(true),(by first|rfl|(simp;done)|(simp [*];done)),H',⟨by first|omega|exact Nat.le_refl _⟩,⟨by exact BK502.out⟩,⟨by exact BK503.out⟩,⟨by exact BK504.out⟩,⟨by exact BK505.out⟩,⟨by exact BK506.out⟩,⟨by exact BK520.out⟩,⟨by exact BK534.out⟩,⟨by repeat (first|(with_reducible first|exact HB.out|apply sa|apply sn|apply sd|refine sy ?_ (by assumption))|exact HB.out)⟩⟩
    · replace c45:=Bool.eq_false_iff.mpr c45
      subst c45
      have H1 : (celluloidlaw14_AffineSame.j0 k false a0_0 a0_1 a0_2 a0_3 a0_4 a0_5 a1_0 a1_1 a1_2 a1_3 a1_4 a1_5 a1_6 a1_7 a2_0 a2_1 a2_2 a2_3 a3_0 a3_1 256 256 256 256 0 0 0 0) = some r:=by rw [if_neg (show ¬ (false = true) by decide)] at H;exact H
      clear H;have H:=H1;clear H1;have H':=am H;clear H;have hnb124:=NB502_503.out;have hnc124:=NB503_502.out;have hnb125:=NB502_504.out;have hnc125:=NB504_502.out;have hnb126:=NB502_505.out;have hnc126:=NB505_502.out;have hnb127:=NB502_506.out;have hnc127:=NB506_502.out;have hnb128:=NB502_520.out;have hnc128:=NB520_502.out;have hnb129:=NB502_534.out;have hnc129:=NB534_502.out;have hcz130_0 : w37.cell? ⟨gb502,0,none⟩ = some (.int .i64 a0_0):=(bc BK502.out 0).trans rfl;have hcz130_1 : w37.cell? ⟨gb502,1,none⟩ = some (.int .i64 a0_1):=(bc BK502.out 1).trans rfl;have hcz130_2 : w37.cell? ⟨gb502,2,none⟩ = some (.int .i64 a0_2):=(bc BK502.out 2).trans rfl;have hcz130_3 : w37.cell? ⟨gb502,3,none⟩ = some (.int .i64 a0_3):=(bc BK502.out 3).trans rfl;have hcz130_4 : w37.cell? ⟨gb502,4,none⟩ = some (.int .i64 a0_4):=(bc BK502.out 4).trans rfl;have hcz130_5 : w37.cell? ⟨gb502,5,none⟩ = some (.int .i64 a0_5):=(bc BK502.out 5).trans rfl;have hfz130_0:=bz BK502.out 0;have hfz130_1:=bz BK502.out 1;have hfz130_2:=bz BK502.out 2;have hfz130_3:=bz BK502.out 3;have hfz130_4:=bz BK502.out 4;have hfz130_5:=bz BK502.out 5
      go_wp2_with (first|((with_reducible refine gate_callee (f:=17) rfl ?_);refine goesL_ (some 31) rfl rfl Try.func17 (by kernel_rfl) rfl #[.agg #[.int .i64 a0_0,.int .i64 a0_1,.int .i64 a0_2,.int .i64 a0_3,.int .i64 a0_4,.int .i64 a0_5]] rfl (by (try simp only [List.map_toArray,List.map_cons,List.map_nil]);first|done|rfl|(simp only [List.length_drop,List.length_take];rfl)) ?_;(with_reducible refine (celluloidref07_Matrix.calls a0_0 a0_1 a0_2 a0_3 a0_4 a0_5 false _ A44.out).mono ?_);rintro e w131 ⟨rfl,hb⟩;refine ⟨_,rfl,?_⟩;replace BK502:=am (wz BK502.out (by (with_reducible repeat (first|refine bn ?_ _|refine bd ?_|refine ba ?_ _|refine bf ?_ NB502_534.out _));exact BK502.out) hb);replace BK503:=am (wz BK503.out (by (with_reducible repeat (first|refine bn ?_ _|refine bd ?_|refine ba ?_ _|refine bf ?_ NB503_534.out _));exact BK503.out) hb);replace BK504:=am (wz BK504.out (by (with_reducible repeat (first|refine bn ?_ _|refine bd ?_|refine ba ?_ _|refine bf ?_ NB504_534.out _));exact BK504.out) hb);replace BK505:=am (wz BK505.out (by (with_reducible repeat (first|refine bn ?_ _|refine bd ?_|refine ba ?_ _|refine bf ?_ NB505_534.out _));exact BK505.out) hb);replace BK506:=am (wz BK506.out (by (with_reducible repeat (first|refine bn ?_ _|refine bd ?_|refine ba ?_ _|refine bf ?_ NB506_534.out _));exact BK506.out) hb);replace BK520:=am (wz BK520.out (by (with_reducible repeat (first|refine bn ?_ _|refine bd ?_|refine ba ?_ _|refine bf ?_ NB520_534.out _));exact BK520.out) hb);replace BK534:=am (bw (g:=gb534) (o:=.cells #[.int .i64 t527,.int .i64 t528,.int .i64 t529,.int .i64 t530,.int .i64 t531,.int .i64 t532] 23 (0,0)) (by (with_reducible repeat (first|refine bn ?_ _|refine bd ?_|refine ba ?_ _));refine bp (cs:=#[.int .i64 t527,.int .i64 t528,.int .i64 t529,.int .i64 t530,.int .i64 t531,.int .i64 0]) ?_ 5 _ rfl;(with_reducible repeat (first|refine bn ?_ _|refine bd ?_|refine ba ?_ _));refine bp (cs:=#[.int .i64 t527,.int .i64 t528,.int .i64 t529,.int .i64 t530,.int .i64 0,.int .i64 0]) ?_ 4 _ rfl;(with_reducible repeat (first|refine bn ?_ _|refine bd ?_|refine ba ?_ _));refine bp (cs:=#[.int .i64 t527,.int .i64 t528,.int .i64 t529,.int .i64 0,.int .i64 0,.int .i64 0]) ?_ 3 _ rfl;(with_reducible repeat (first|refine bn ?_ _|refine bd ?_|refine ba ?_ _));refine bp (cs:=#[.int .i64 t527,.int .i64 t528,.int .i64 0,.int .i64 0,.int .i64 0,.int .i64 0]) ?_ 2 _ rfl;(with_reducible repeat (first|refine bn ?_ _|refine bd ?_|refine ba ?_ _));refine bp (cs:=#[.int .i64 t527,.int .i64 0,.int .i64 0,.int .i64 0,.int .i64 0,.int .i64 0]) ?_ 1 _ rfl;(with_reducible repeat (first|refine bn ?_ _|refine bd ?_|refine ba ?_ _));refine bp (cs:=#[.int .i64 0,.int .i64 0,.int .i64 0,.int .i64 0,.int .i64 0,.int .i64 0]) ?_ 0 _ rfl;(with_reducible repeat (first|refine bn ?_ _|refine bd ?_|refine ba ?_ _));exact BK534.out) hb);replace HB:=am (ss (by repeat (first|(with_reducible first|exact HB.out|apply sa|apply sn|apply sd|refine sy ?_ (by assumption))|exact HB.out)) hb);(try clear hb);(try clear hb2);(try clear hk);(try clear hi)))
      go_meet
      case rel => exact ⟨_,(false),(by first|rfl|(simp;done)|(simp [*];done)),H',⟨by first|omega|exact Nat.le_refl _⟩,⟨by exact BK502.out⟩,⟨by exact BK503.out⟩,⟨by exact BK504.out⟩,⟨by exact BK505.out⟩,⟨by exact BK506.out⟩,⟨by exact BK520.out⟩,⟨by exact BK534.out⟩,⟨by repeat (first|(with_reducible first|exact HB.out|apply sa|apply sn|apply sd|refine sy ?_ (by assumption))|exact HB.out)⟩⟩
  case rest =>
    clear HC9
    try clear c1
    try clear c2
    try clear p2
    try clear c3
    try clear c4
    try clear c5
    try clear c6
    try clear c7
    try clear c8
    try clear c9
    try clear c10
    try clear c11
    try clear c12
    try clear c17
    try clear c26
    try clear c30
    try clear c45
    try clear c46
    try clear c46b0
    try clear c47
    try clear c48
    try clear c49
    try clear c50
    try clear c51
    try clear c52
    try clear c55
    try clear c56
    try clear c57
    try clear c58
    try clear c59
    try clear c62
    try clear c62b0
    try clear c63
    try clear c64
    try clear c65
    try clear c66
    try clear c67
    try clear c68
    try clear c71
    try clear c72
    try clear c73
    try clear c74
    try clear c75
    try clear c78
    try clear c79
    try clear c80
    try clear c81
    try clear c83
    try clear c83b0
    try clear c83b1
    try clear c84
    try clear c85
    try clear c86
    try clear c87
    try clear c88
    try clear c89
    try clear c92
    try clear c93
    try clear c94
    try clear c95
    try clear c96
    try clear c99
    try clear c100
    try clear c101
    try clear c102
    try clear c104
    try clear c105
    try clear c106
    try clear c107
    try clear c108
    try clear c109
    try clear c112
    try clear c113
    try clear c114
    try clear c115
    try clear c116
    try clear c119
    try clear c120
    try clear c121
    try clear c122
    try clear c124
    try clear c125
    try clear c126
    try clear c127
    try clear c128
    try clear c129
    try clear hcz103_0
    try clear hcz103_1
    try clear hcz103_2
    try clear hcz103_3
    try clear hcz103_4
    try clear hcz103_5
    try clear hcz110_0
    try clear hcz110_1
    try clear hcz110_2
    try clear hcz110_3
    try clear hcz110_4
    try clear hcz110_5
    try clear hcz117_0
    try clear hcz117_1
    try clear hcz117_2
    try clear hcz117_3
    try clear hcz117_4
    try clear hcz117_5
    try clear hcz118_0
    try clear hcz118_1
    try clear hcz118_2
    try clear hcz118_3
    try clear hcz118_4
    try clear hcz118_5
    try clear hcz123_0
    try clear hcz123_1
    try clear hcz123_2
    try clear hcz123_3
    try clear hcz123_4
    try clear hcz123_5
    try clear hcz130_0
    try clear hcz130_1
    try clear hcz130_2
    try clear hcz130_3
    try clear hcz130_4
    try clear hcz130_5
    try clear hcz53_0
    try clear hcz53_1
    try clear hcz53_2
    try clear hcz53_3
    try clear hcz53_4
    try clear hcz53_5
    try clear hcz60_0
    try clear hcz60_1
    try clear hcz60_2
    try clear hcz60_3
    try clear hcz60_4
    try clear hcz60_5
    try clear hcz61_0
    try clear hcz61_1
    try clear hcz61_2
    try clear hcz61_3
    try clear hcz61_4
    try clear hcz61_5
    try clear hcz69_0
    try clear hcz69_1
    try clear hcz69_2
    try clear hcz69_3
    try clear hcz69_4
    try clear hcz69_5
    try clear hcz76_0
    try clear hcz76_1
    try clear hcz76_2
    try clear hcz76_3
    try clear hcz76_4
    try clear hcz76_5
    try clear hcz77_0
    try clear hcz77_1
    try clear hcz77_2
    try clear hcz77_3
    try clear hcz77_4
    try clear hcz77_5
    try clear hcz82_0
    try clear hcz82_1
    try clear hcz82_2
    try clear hcz82_3
    try clear hcz82_4
    try clear hcz82_5
    try clear hcz90_0
    try clear hcz90_1
    try clear hcz90_2
    try clear hcz90_3
    try clear hcz90_4
    try clear hcz90_5
    try clear hcz97_0
    try clear hcz97_1
    try clear hcz97_2
    try clear hcz97_3
    try clear hcz97_4
    try clear hcz97_5
    try clear hcz98_0
    try clear hcz98_1
    try clear hcz98_2
    try clear hcz98_3
    try clear hcz98_4
    try clear hcz98_5
    try clear hfz103_0
    try clear hfz103_1
    try clear hfz103_2
    try clear hfz103_3
    try clear hfz103_4
    try clear hfz103_5
    try clear hfz110_0
    try clear hfz110_1
    try clear hfz110_2
    try clear hfz110_3
    try clear hfz110_4
    try clear hfz110_5
    try clear hfz117_0
    try clear hfz117_1
    try clear hfz117_2
    try clear hfz117_3
    try clear hfz117_4
    try clear hfz117_5
    try clear hfz118_0
    try clear hfz118_1
    try clear hfz118_2
    try clear hfz118_3
    try clear hfz118_4
    try clear hfz118_5
    try clear hfz123_0
    try clear hfz123_1
    try clear hfz123_2
    try clear hfz123_3
    try clear hfz123_4
    try clear hfz123_5
    try clear hfz130_0
    try clear hfz130_1
    try clear hfz130_2
    try clear hfz130_3
    try clear hfz130_4
    try clear hfz130_5
    try clear hfz53_0
    try clear hfz53_1
    try clear hfz53_2
    try clear hfz53_3
    try clear hfz53_4
    try clear hfz53_5
    try clear hfz60_0
    try clear hfz60_1
    try clear hfz60_2
    try clear hfz60_3
    try clear hfz60_4
    try clear hfz60_5
    try clear hfz61_0
    try clear hfz61_1
    try clear hfz61_2
    try clear hfz61_3
    try clear hfz61_4
    try clear hfz61_5
    try clear hfz69_0
    try clear hfz69_1
    try clear hfz69_2
    try clear hfz69_3
    try clear hfz69_4
    try clear hfz69_5
    try clear hfz76_0
    try clear hfz76_1
    try clear hfz76_2
    try clear hfz76_3
    try clear hfz76_4
    try clear hfz76_5
    try clear hfz77_0
    try clear hfz77_1
    try clear hfz77_2
    try clear hfz77_3
    try clear hfz77_4
    try clear hfz77_5
    try clear hfz82_0
    try clear hfz82_1
    try clear hfz82_2
    try clear hfz82_3
    try clear hfz82_4
    try clear hfz82_5
    try clear hfz90_0
    try clear hfz90_1
    try clear hfz90_2
    try clear hfz90_3
    try clear hfz90_4
    try clear hfz90_5
    try clear hfz97_0
    try clear hfz97_1
    try clear hfz97_2
    try clear hfz97_3
    try clear hfz97_4
    try clear hfz97_5
    try clear hfz98_0
    try clear hfz98_1
    try clear hfz98_2
    try clear hfz98_3
    try clear hfz98_4
    try clear hfz98_5
    obtain ⟨kq,x49_8,rfl,HA,HJ8,BK502,BK503,BK504,BK505,BK506,BK520,BK534,HB⟩:=hcut
    cases kq with
    | zero => exact absurd HA.out (by simp [celluloidlaw14_AffineSame.j0])
    | succ kj8 =>
      have H:=HA.out;clear HA;simp only [celluloidlaw14_AffineSame.j0] at H
      by_cases c132 : x49_8 = true
      · subst c132
        have H1 : (some false) = some r:=by rw [if_pos rfl] at H;exact H
        clear H;have H:=H1;clear H1;obtain rfl:=Option.some.inj H
        go_wp2
        go_ret
        exact ⟨by first|rfl|(simp [errW_none,errW_some] <;> rfl)|(simp [*,errW_none,errW_some] <;> rfl),by repeat (first|(with_reducible first|exact HB.out|apply sa|apply sn|apply sd|refine sy ?_ (by assumption))|exact HB.out)⟩
      · replace c132:=Bool.eq_false_iff.mpr c132
        subst c132
        have H1 : ((celluloidref07_Cx.f kj8 a1_0 a1_1 a1_2 a1_3 a1_4 a1_5 a1_6 a1_7).bind fun t536 => (if t536 = true then ((affine_ComposeCx.f kj8 a1_0 a1_1 a1_2 a1_3 a1_4 a1_5 a1_6 a1_7 256 256 256 256 0 0 0 0).bind fun bt537 => (if ((!(bt537.1 == a1_0) || (!(bt537.2.1 == a1_1) || (!(bt537.2.2.1 == a1_2) || (!(bt537.2.2.2.1 == a1_3))))) || ((!(bt537.2.2.2.2.1 == a1_4) || (!(bt537.2.2.2.2.2.1 == a1_5) || (!(bt537.2.2.2.2.2.2.1 == a1_6) || (!(bt537.2.2.2.2.2.2.2 == a1_7))))))) = true then (celluloidlaw14_AffineSame.j1 kj8 true a0_0 a0_1 a0_2 a0_3 a0_4 a0_5 a2_0 a2_1 a2_2 a2_3 a3_0 a3_1 256 256 256 256 0 0 0 0) else ((affine_ComposeCx.f kj8 256 256 256 256 0 0 0 0 a1_0 a1_1 a1_2 a1_3 a1_4 a1_5 a1_6 a1_7).bind fun bt545 => (celluloidlaw14_AffineSame.j1 kj8 ((!(bt545.1 == a1_0) || (!(bt545.2.1 == a1_1) || (!(bt545.2.2.1 == a1_2) || (!(bt545.2.2.2.1 == a1_3))))) || ((!(bt545.2.2.2.2.1 == a1_4) || (!(bt545.2.2.2.2.2.1 == a1_5) || (!(bt545.2.2.2.2.2.2.1 == a1_6) || (!(bt545.2.2.2.2.2.2.2 == a1_7))))))) a0_0 a0_1 a0_2 a0_3 a0_4 a0_5 a2_0 a2_1 a2_2 a2_3 a3_0 a3_1 256 256 256 256 0 0 0 0)))) else (celluloidlaw14_AffineSame.j1 kj8 false a0_0 a0_1 a0_2 a0_3 a0_4 a0_5 a2_0 a2_1 a2_2 a2_3 a3_0 a3_1 256 256 256 256 0 0 0 0))) = some r:=by rw [if_neg (show ¬ (false = true) by decide)] at H;exact H
        clear H;have H:=H1;clear H1;have HC133:=am H;clear H
        go_upto_region 6 with (fail)
        go_cut [65] (fun v65 wc => ∃ (kq : Nat) (x65_132 : Bool),v65 = .bool x65_132 ∧ Aside0 (celluloidlaw14_AffineSame.j1 kq x65_132 a0_0 a0_1 a0_2 a0_3 a0_4 a0_5 a2_0 a2_1 a2_2 a2_3 a3_0 a3_1 256 256 256 256 0 0 0 0 = some r) ∧ Aside0 (kq ≤ kj8) ∧ Aside0 (wc.heap[gb502]? = some (.cells #[.int .i64 a0_0,.int .i64 a0_1,.int .i64 a0_2,.int .i64 a0_3,.int .i64 a0_4,.int .i64 a0_5] 23 (0,0))) ∧ Aside0 (wc.heap[gb503]? = some (.cells #[.int .i64 a1_0,.int .i64 a1_1,.int .i64 a1_2,.int .i64 a1_3,.int .i64 a1_4,.int .i64 a1_5,.int .i64 a1_6,.int .i64 a1_7] 41 (0,0))) ∧ Aside0 (wc.heap[gb504]? = some (.cells #[.int .i64 a2_0,.int .i64 a2_1,.int .i64 a2_2,.int .i64 a2_3] 43 (0,0))) ∧ Aside0 (wc.heap[gb505]? = some (.cells #[.int .i64 a3_0,.int .i64 a3_1] 25 (0,0))) ∧ Aside0 (wc.heap[gb506]? = some (.cells #[.int .i64 256,.int .i64 256,.int .i64 256,.int .i64 256,.int .i64 0,.int .i64 0,.int .i64 0,.int .i64 0] 41 (0,0))) ∧ Aside0 (wc.heap[gb520]? = some (.cells #[.int .i64 t513,.int .i64 t514,.int .i64 t515,.int .i64 t516,.int .i64 t517,.int .i64 t518] 23 (0,0))) ∧ Aside0 (wc.heap[gb534]? = some (.cells #[.int .i64 t527,.int .i64 t528,.int .i64 t529,.int .i64 t530,.int .i64 t531,.int .i64 t532] 23 (0,0))) ∧ Aside0 (Below w.heap.size w wc))
        case first =>
          have H:=HC133.out;clear HC133;replace H:=Option.bind_eq_some_iff.mp H;obtain ⟨t536,A1340,H⟩:=H;replace H : (if t536 = true then ((affine_ComposeCx.f kj8 a1_0 a1_1 a1_2 a1_3 a1_4 a1_5 a1_6 a1_7 256 256 256 256 0 0 0 0).bind fun bt537 => (if ((!(bt537.1 == a1_0) || (!(bt537.2.1 == a1_1) || (!(bt537.2.2.1 == a1_2) || (!(bt537.2.2.2.1 == a1_3))))) || ((!(bt537.2.2.2.2.1 == a1_4) || (!(bt537.2.2.2.2.2.1 == a1_5) || (!(bt537.2.2.2.2.2.2.1 == a1_6) || (!(bt537.2.2.2.2.2.2.2 == a1_7))))))) = true then (celluloidlaw14_AffineSame.j1 kj8 true a0_0 a0_1 a0_2 a0_3 a0_4 a0_5 a2_0 a2_1 a2_2 a2_3 a3_0 a3_1 256 256 256 256 0 0 0 0) else ((affine_ComposeCx.f kj8 256 256 256 256 0 0 0 0 a1_0 a1_1 a1_2 a1_3 a1_4 a1_5 a1_6 a1_7).bind fun bt545 => (celluloidlaw14_AffineSame.j1 kj8 ((!(bt545.1 == a1_0) || (!(bt545.2.1 == a1_1) || (!(bt545.2.2.1 == a1_2) || (!(bt545.2.2.2.1 == a1_3))))) || ((!(bt545.2.2.2.2.1 == a1_4) || (!(bt545.2.2.2.2.2.1 == a1_5) || (!(bt545.2.2.2.2.2.2.1 == a1_6) || (!(bt545.2.2.2.2.2.2.2 == a1_7))))))) a0_0 a0_1 a0_2 a0_3 a0_4 a0_5 a2_0 a2_1 a2_2 a2_3 a3_0 a3_1 256 256 256 256 0 0 0 0)))) else (celluloidlaw14_AffineSame.j1 kj8 false a0_0 a0_1 a0_2 a0_3 a0_4 a0_5 a2_0 a2_1 a2_2 a2_3 a3_0 a3_1 256 256 256 256 0 0 0 0)) = some r:=H;have A134:=am A1340;clear A1340
          by_cases c135 : t536 = true
          · subst c135
            have H1 : ((affine_ComposeCx.f kj8 a1_0 a1_1 a1_2 a1_3 a1_4 a1_5 a1_6 a1_7 256 256 256 256 0 0 0 0).bind fun bt537 => (if ((!(bt537.1 == a1_0) || (!(bt537.2.1 == a1_1) || (!(bt537.2.2.1 == a1_2) || (!(bt537.2.2.2.1 == a1_3))))) || ((!(bt537.2.2.2.2.1 == a1_4) || (!(bt537.2.2.2.2.2.1 == a1_5) || (!(bt537.2.2.2.2.2.2.1 == a1_6) || (!(bt537.2.2.2.2.2.2.2 == a1_7))))))) = true then (celluloidlaw14_AffineSame.j1 kj8 true a0_0 a0_1 a0_2 a0_3 a0_4 a0_5 a2_0 a2_1 a2_2 a2_3 a3_0 a3_1 256 256 256 256 0 0 0 0) else ((affine_ComposeCx.f kj8 256 256 256 256 0 0 0 0 a1_0 a1_1 a1_2 a1_3 a1_4 a1_5 a1_6 a1_7).bind fun bt545 => (celluloidlaw14_AffineSame.j1 kj8 ((!(bt545.1 == a1_0) || (!(bt545.2.1 == a1_1) || (!(bt545.2.2.1 == a1_2) || (!(bt545.2.2.2.1 == a1_3))))) || ((!(bt545.2.2.2.2.1 == a1_4) || (!(bt545.2.2.2.2.2.1 == a1_5) || (!(bt545.2.2.2.2.2.2.1 == a1_6) || (!(bt545.2.2.2.2.2.2.2 == a1_7))))))) a0_0 a0_1 a0_2 a0_3 a0_4 a0_5 a2_0 a2_1 a2_2 a2_3 a3_0 a3_1 256 256 256 256 0 0 0 0)))) = some r:=by rw [if_pos rfl] at H;exact H
            clear H;have H:=H1;clear H1;replace H:=Option.bind_eq_some_iff.mp H;obtain ⟨⟨t537,t538,t539,t540,t541,t542,t543,t544⟩,A1360,H⟩:=H;replace H : (if ((!(t537 == a1_0) || (!(t538 == a1_1) || (!(t539 == a1_2) || (!(t540 == a1_3))))) || ((!(t541 == a1_4) || (!(t542 == a1_5) || (!(t543 == a1_6) || (!(t544 == a1_7))))))) = true then (celluloidlaw14_AffineSame.j1 kj8 true a0_0 a0_1 a0_2 a0_3 a0_4 a0_5 a2_0 a2_1 a2_2 a2_3 a3_0 a3_1 256 256 256 256 0 0 0 0) else ((affine_ComposeCx.f kj8 256 256 256 256 0 0 0 0 a1_0 a1_1 a1_2 a1_3 a1_4 a1_5 a1_6 a1_7).bind fun bt545 => (celluloidlaw14_AffineSame.j1 kj8 ((!(bt545.1 == a1_0) || (!(bt545.2.1 == a1_1) || (!(bt545.2.2.1 == a1_2) || (!(bt545.2.2.2.1 == a1_3))))) || ((!(bt545.2.2.2.2.1 == a1_4) || (!(bt545.2.2.2.2.2.1 == a1_5) || (!(bt545.2.2.2.2.2.2.1 == a1_6) || (!(bt545.2.2.2.2.2.2.2 == a1_7))))))) a0_0 a0_1 a0_2 a0_3 a0_4 a0_5 a2_0 a2_1 a2_2 a2_3 a3_0 a3_1 256 256 256 256 0 0 0 0))) = some r:=H;have A136:=am A1360;clear A1360
            by_cases c137 : ((!(t537 == a1_0) || (!(t538 == a1_1) || (!(t539 == a1_2) || (!(t540 == a1_3))))) || ((!(t541 == a1_4) || (!(t542 == a1_5) || (!(t543 == a1_6) || (!(t544 == a1_7))))))) = true
            · rw [if_pos c137] at H
              have c137b0 : ((!(t537 == a1_0) || (!(t538 == a1_1) || (!(t539 == a1_2) || (!(t540 == a1_3))))) || ((!(t541 == a1_4) || (!(t542 == a1_5) || (!(t543 == a1_6) || (!(t544 == a1_7))))))) = true:=c137;clear c137
              (first|rw [c137b0]|(simp only [i64_w,i32_w];rw [c137b0])|skip)
              have H':=am H;clear H
              try go_wp2
              replace BK502:=am (bd BK502.out);replace BK503:=am (bd BK503.out);replace BK504:=am (bd BK504.out);replace BK505:=am (bd BK505.out);replace BK506:=am (bd BK506.out);replace BK520:=am (bd BK520.out);replace BK534:=am (bd BK534.out);replace HB:=am (sd HB.out);refine start_ (n:=16) (S:=fun w' => w'.cell? ⟨gb503,0,none⟩ = some (.int .i64 a1_0) ∧ w'.cell? ⟨gb503,1,none⟩ = some (.int .i64 a1_1) ∧ w'.cell? ⟨gb503,2,none⟩ = some (.int .i64 a1_2) ∧ w'.cell? ⟨gb503,3,none⟩ = some (.int .i64 a1_3) ∧ w'.cell? ⟨gb503,4,none⟩ = some (.int .i64 a1_4) ∧ w'.cell? ⟨gb503,5,none⟩ = some (.int .i64 a1_5) ∧ w'.cell? ⟨gb503,6,none⟩ = some (.int .i64 a1_6) ∧ w'.cell? ⟨gb503,7,none⟩ = some (.int .i64 a1_7) ∧ w'.cell? ⟨gb506,0,none⟩ = some (.int .i64 256) ∧ w'.cell? ⟨gb506,1,none⟩ = some (.int .i64 256) ∧ w'.cell? ⟨gb506,2,none⟩ = some (.int .i64 256) ∧ w'.cell? ⟨gb506,3,none⟩ = some (.int .i64 256) ∧ w'.cell? ⟨gb506,4,none⟩ = some (.int .i64 0) ∧ w'.cell? ⟨gb506,5,none⟩ = some (.int .i64 0) ∧ w'.cell? ⟨gb506,6,none⟩ = some (.int .i64 0) ∧ w'.cell? ⟨gb506,7,none⟩ = some (.int .i64 0)) (ds:=[]) #[false,false,false,false,false,false,false,false,false,false,false,false,false,false,false,false] (by kernel_rfl) rfl rfl ⟨(bc BK503.out 0).trans rfl,(bc BK503.out 1).trans rfl,(bc BK503.out 2).trans rfl,(bc BK503.out 3).trans rfl,(bc BK503.out 4).trans rfl,(bc BK503.out 5).trans rfl,(bc BK503.out 6).trans rfl,(bc BK503.out 7).trans rfl,(bc BK506.out 0).trans rfl,(bc BK506.out 1).trans rfl,(bc BK506.out 2).trans rfl,(bc BK506.out 3).trans rfl,(bc BK506.out 4).trans rfl,(bc BK506.out 5).trans rfl,(bc BK506.out 6).trans rfl,(bc BK506.out 7).trans rfl⟩ (fun hHeld => ?_);refine with_tabW celluloidlaw14_AffineSame.tab6 celluloidlaw14_AffineSame.bits6 (fun HT_ HW_ => ?_);generalize wc.drew = w138 at BK502 BK503 BK504 BK505 BK506 BK520 BK534 HB hHeld ⊢;refine take_ (i:=0) (N:=some 50) (v:=?_) (a':=?_) #[true,false,false,false,false,false,false,false,false,false,false,false,false,false,false,false] rfl rfl (take_ofW HT_.out HW_.out (by kernel_rfl)) (fun _ _ _ h => h) (Or.inl ⟨by rfl,?_⟩) hHeld ?_ ?_
              rotate_left
              · rintro w' ⟨s0,s1,s2,s3,s4,s5,s6,s7,s8,s9,s10,s11,s12,s13,s14,s15⟩
                go_simp
                with_reducible rfl
              rotate_left
              · simp only [Act.put,q1,q2,q3,i64_w,i32_w]
                rfl
              refine one_ (i:=1) (N:=some 51) #[true,true,false,false,false,false,false,false,false,false,false,false,false,false,false,false] rfl rfl (one_of HT_.out (by kernel_rfl)) (by decide) (fun K hK => ?_);refine goes_ Try.func21 (by kernel_rfl) rfl #[.agg #[.int .i64 a1_0,.int .i64 a1_1,.int .i64 a1_2,.int .i64 a1_3,.int .i64 a1_4,.int .i64 a1_5,.int .i64 a1_6,.int .i64 a1_7]] (by rfl) rfl rfl (by (try simp only [List.map_toArray,List.map_cons,List.map_nil]);first|done|rfl|(simp only [List.length_drop,List.length_take];rfl)) ?_
              with_reducible refine (celluloidref07_Cx.calls kj8 a1_0 a1_1 a1_2 a1_3 a1_4 a1_5 a1_6 a1_7 true _ A134.out).mono ?_
              rintro e w139 ⟨rfl,hb⟩
              refine ⟨_,rfl,?_⟩;replace BK502:=am (bw (by exact BK502.out) hb);replace BK503:=am (bw (by exact BK503.out) hb);replace BK504:=am (bw (by exact BK504.out) hb);replace BK505:=am (bw (by exact BK505.out) hb);replace BK506:=am (bw (by exact BK506.out) hb);replace BK520:=am (bw (by exact BK520.out) hb);replace BK534:=am (bw (by exact BK534.out) hb);replace HB:=am (ss (by repeat (first|(with_reducible first|exact HB.out|apply sa|apply sn|apply sd|refine sy ?_ (by assumption))|exact HB.out)) hb);(try clear hb);(try clear hb2);(try clear hk);(try clear hi);refine hK.out _ _ ⟨(bc BK503.out 0).trans rfl,(bc BK503.out 1).trans rfl,(bc BK503.out 2).trans rfl,(bc BK503.out 3).trans rfl,(bc BK503.out 4).trans rfl,(bc BK503.out 5).trans rfl,(bc BK503.out 6).trans rfl,(bc BK503.out 7).trans rfl,(bc BK506.out 0).trans rfl,(bc BK506.out 1).trans rfl,(bc BK506.out 2).trans rfl,(bc BK506.out 3).trans rfl,(bc BK506.out 4).trans rfl,(bc BK506.out 5).trans rfl,(bc BK506.out 6).trans rfl,(bc BK506.out 7).trans rfl⟩ (fun hHeld => ?_);clear hK K;refine norm_ (a':=?_) ?_ ?_
              rotate_left
              · show Act.put _ (some 51) _ = _
                simp only [Act.put,q1,q2,q3,i64_w,i32_w]
                rfl
              refine pure_ (i:=2) (N:=some 52) (v:=?_) (a':=?_) #[true,true,true,false,false,false,false,false,false,false,false,false,false,false,false,false] rfl rfl (any_of HT_.out (by kernel_rfl)) (fun _ _ _ h => h) (Or.inl ⟨by rfl,?_⟩) ?_ ?_
              rotate_left
              · intro w'
                go_simp
                with_reducible rfl
              rotate_left
              · simp only [Act.put,q1,q2,q3,i64_w,i32_w]
                rfl
              refine take_ (i:=3) (N:=some 53) (v:=?_) (a':=?_) #[true,true,true,true,false,false,false,false,false,false,false,false,false,false,false,false] rfl rfl (take_ofW HT_.out HW_.out (by kernel_rfl)) (fun _ _ _ h => h) (Or.inl ⟨by rfl,?_⟩) hHeld ?_ ?_
              rotate_left
              · rintro w' ⟨s0,s1,s2,s3,s4,s5,s6,s7,s8,s9,s10,s11,s12,s13,s14,s15⟩
                go_simp
                with_reducible rfl
              rotate_left
              · simp only [Act.put,q1,q2,q3,i64_w,i32_w]
                rfl
              refine take_ (i:=4) (N:=some 54) (v:=?_) (a':=?_) #[true,true,true,true,true,false,false,false,false,false,false,false,false,false,false,false] rfl rfl (take_ofW HT_.out HW_.out (by kernel_rfl)) (fun _ _ _ h => h) (Or.inl ⟨by rfl,?_⟩) hHeld ?_ ?_
              rotate_left
              · rintro w' ⟨s0,s1,s2,s3,s4,s5,s6,s7,s8,s9,s10,s11,s12,s13,s14,s15⟩
                go_simp
                with_reducible rfl
              rotate_left
              · simp only [Act.put,q1,q2,q3,i64_w,i32_w]
                rfl
              refine take_ (i:=6) (N:=some 56) (v:=?_) (a':=?_) #[true,true,true,true,true,false,true,false,false,false,false,false,false,false,false,false] rfl rfl (take_ofW HT_.out HW_.out (by kernel_rfl)) (fun _ _ _ h => h) (Or.inl ⟨by rfl,?_⟩) hHeld ?_ ?_
              rotate_left
              · rintro w' ⟨s0,s1,s2,s3,s4,s5,s6,s7,s8,s9,s10,s11,s12,s13,s14,s15⟩
                go_simp
                with_reducible rfl
              rotate_left
              · simp only [Act.put,q1,q2,q3,i64_w,i32_w]
                rfl
              refine one_ (i:=5) (N:=some 55) #[true,true,true,true,true,true,true,false,false,false,false,false,false,false,false,false] rfl rfl (one_of HT_.out (by kernel_rfl)) (by decide) (fun K hK => ?_);refine goes_ Try.func28 (by kernel_rfl) rfl #[.agg #[.int .i64 a1_0,.int .i64 a1_1,.int .i64 a1_2,.int .i64 a1_3,.int .i64 a1_4,.int .i64 a1_5,.int .i64 a1_6,.int .i64 a1_7],.agg #[.int .i64 256,.int .i64 256,.int .i64 256,.int .i64 256,.int .i64 0,.int .i64 0,.int .i64 0,.int .i64 0]] (by rfl) rfl rfl (by (try simp only [List.map_toArray,List.map_cons,List.map_nil]);first|done|rfl|(simp only [List.length_drop,List.length_take];rfl)) ?_
              with_reducible refine (affine_ComposeCx.calls kj8 a1_0 a1_1 a1_2 a1_3 a1_4 a1_5 a1_6 a1_7 256 256 256 256 0 0 0 0 t537 t538 t539 t540 t541 t542 t543 t544 _ A136.out).mono ?_
              rintro e w140 ⟨rfl,hb⟩
              refine ⟨_,rfl,?_⟩;replace BK502:=am (bw (by exact BK502.out) hb);replace BK503:=am (bw (by exact BK503.out) hb);replace BK504:=am (bw (by exact BK504.out) hb);replace BK505:=am (bw (by exact BK505.out) hb);replace BK506:=am (bw (by exact BK506.out) hb);replace BK520:=am (bw (by exact BK520.out) hb);replace BK534:=am (bw (by exact BK534.out) hb);replace HB:=am (ss (by repeat (first|(with_reducible first|exact HB.out|apply sa|apply sn|apply sd|refine sy ?_ (by assumption))|exact HB.out)) hb);(try clear hb);(try clear hb2);(try clear hk);(try clear hi);refine hK.out _ _ ⟨(bc BK503.out 0).trans rfl,(bc BK503.out 1).trans rfl,(bc BK503.out 2).trans rfl,(bc BK503.out 3).trans rfl,(bc BK503.out 4).trans rfl,(bc BK503.out 5).trans rfl,(bc BK503.out 6).trans rfl,(bc BK503.out 7).trans rfl,(bc BK506.out 0).trans rfl,(bc BK506.out 1).trans rfl,(bc BK506.out 2).trans rfl,(bc BK506.out 3).trans rfl,(bc BK506.out 4).trans rfl,(bc BK506.out 5).trans rfl,(bc BK506.out 6).trans rfl,(bc BK506.out 7).trans rfl⟩ (fun hHeld => ?_);clear hK K;refine norm_ (a':=?_) ?_ ?_
              rotate_left
              · show Act.put _ (some 55) _ = _
                simp only [Act.put,q1,q2,q3,i64_w,i32_w]
                rfl
              refine pure_ (i:=7) (N:=some 57) (v:=?_) (a':=?_) #[true,true,true,true,true,true,true,true,false,false,false,false,false,false,false,false] rfl rfl (any_of HT_.out (by kernel_rfl)) (fun _ _ _ h => h) (Or.inl ⟨by rfl,?_⟩) ?_ ?_
              rotate_left
              · intro w'
                go_simp
                with_reducible rfl
              rotate_left
              · simp only [Act.put,q1,q2,q3,i64_w,i32_w]
                rfl
              refine pure_ (i:=8) (N:=some 58) (v:=?_) (a':=?_) #[true,true,true,true,true,true,true,true,true,false,false,false,false,false,false,false] rfl rfl (any_of HT_.out (by kernel_rfl)) (fun _ _ _ h => h) (Or.inl ⟨by rfl,?_⟩) ?_ ?_
              rotate_left
              · intro w'
                go_simp
                with_reducible rfl
              rotate_left
              · simp only [Act.put,q1,q2,q3,i64_w,i32_w]
                rfl
              refine pure_ (i:=9) (N:=some 59) (v:=undef) (a':=?_) #[true,true,true,true,true,true,true,true,true,true,false,false,false,false,false,false] rfl rfl (any_of HT_.out (by kernel_rfl)) (fun _ _ _ h => h) (Or.inr ⟨by rfl,rfl⟩) ?_ ?_
              rotate_left
              · simp only [Act.put,q1,q2,q3,i64_w,i32_w]
                rfl
              refine pure_ (i:=10) (N:=some 60) (v:=undef) (a':=?_) #[true,true,true,true,true,true,true,true,true,true,true,false,false,false,false,false] rfl rfl (any_of HT_.out (by kernel_rfl)) (fun _ _ _ h => h) (Or.inr ⟨by rfl,rfl⟩) ?_ ?_
              rotate_left
              · simp only [Act.put,q1,q2,q3,i64_w,i32_w]
                rfl
              refine pure_ (i:=11) (N:=some 61) (v:=undef) (a':=?_) #[true,true,true,true,true,true,true,true,true,true,true,true,false,false,false,false] rfl rfl (any_of HT_.out (by kernel_rfl)) (fun _ _ _ h => h) (Or.inr ⟨by rfl,rfl⟩) ?_ ?_
              rotate_left
              · simp only [Act.put,q1,q2,q3,i64_w,i32_w]
                rfl
              refine pure_ (i:=12) (N:=some 62) (v:=undef) (a':=?_) #[true,true,true,true,true,true,true,true,true,true,true,true,true,false,false,false] rfl rfl (any_of HT_.out (by kernel_rfl)) (fun _ _ _ h => h) (Or.inr ⟨by rfl,rfl⟩) ?_ ?_
              rotate_left
              · simp only [Act.put,q1,q2,q3,i64_w,i32_w]
                rfl
              refine pure_ (i:=13) (N:=some 63) (v:=undef) (a':=?_) #[true,true,true,true,true,true,true,true,true,true,true,true,true,true,false,false] rfl rfl (any_of HT_.out (by kernel_rfl)) (fun _ _ _ h => h) (Or.inr ⟨by rfl,rfl⟩) ?_ ?_
              rotate_left
              · simp only [Act.put,q1,q2,q3,i64_w,i32_w]
                rfl
              refine pure_ (i:=14) (N:=some 64) (v:=?_) (a':=?_) #[true,true,true,true,true,true,true,true,true,true,true,true,true,true,true,false] rfl rfl (any_of HT_.out (by kernel_rfl)) (fun _ _ _ h => h) (Or.inl ⟨by rfl,?_⟩) ?_ ?_
              rotate_left
              · intro w'
                go_simp
                with_reducible rfl
              rotate_left
              · simp only [Act.put,q1,q2,q3,i64_w,i32_w]
                rfl
              refine pure_ (i:=15) (N:=some 65) (v:=?_) (a':=?_) #[true,true,true,true,true,true,true,true,true,true,true,true,true,true,true,true] rfl rfl (any_of HT_.out (by kernel_rfl)) (fun _ _ _ h => h) (Or.inl ⟨by rfl,?_⟩) ?_ ?_
              rotate_left
              · intro w'
                go_simp
                with_reducible rfl
              rotate_left
              · simp only [Act.put,q1,q2,q3,i64_w,i32_w]
                rfl
              refine done_ (done_of HT_.out (by kernel_rfl)) ?_
              try go_wp2
              go_meet
              case rel => exact ⟨_,(true),(by first|rfl|(simp;done)|(simp [*];done)),H',⟨by have:=HJ8.out;first|omega|exact Nat.le_refl _⟩,⟨by exact BK502.out⟩,⟨by exact BK503.out⟩,⟨by exact BK504.out⟩,⟨by exact BK505.out⟩,⟨by exact BK506.out⟩,⟨by exact BK520.out⟩,⟨by exact BK534.out⟩,⟨by repeat (first|(with_reducible first|exact HB.out|apply sa|apply sn|apply sd|refine sy ?_ (by assumption))|exact HB.out)⟩⟩
            · rw [if_neg c137] at H
              have c137b0 : ((!(t537 == a1_0) || (!(t538 == a1_1) || (!(t539 == a1_2) || (!(t540 == a1_3))))) || ((!(t541 == a1_4) || (!(t542 == a1_5) || (!(t543 == a1_6) || (!(t544 == a1_7))))))) = false:=by simpa using c137
              clear c137
              (first|rw [c137b0]|(simp only [i64_w,i32_w];rw [c137b0])|skip)
              replace H:=Option.bind_eq_some_iff.mp H;obtain ⟨⟨t545,t546,t547,t548,t549,t550,t551,t552⟩,A1410,H⟩:=H;replace H : (celluloidlaw14_AffineSame.j1 kj8 ((!(t545 == a1_0) || (!(t546 == a1_1) || (!(t547 == a1_2) || (!(t548 == a1_3))))) || ((!(t549 == a1_4) || (!(t550 == a1_5) || (!(t551 == a1_6) || (!(t552 == a1_7))))))) a0_0 a0_1 a0_2 a0_3 a0_4 a0_5 a2_0 a2_1 a2_2 a2_3 a3_0 a3_1 256 256 256 256 0 0 0 0) = some r:=H;have A141:=am A1410;clear A1410;have H':=am H;clear H
              try go_wp2
              replace BK502:=am (bd BK502.out);replace BK503:=am (bd BK503.out);replace BK504:=am (bd BK504.out);replace BK505:=am (bd BK505.out);replace BK506:=am (bd BK506.out);replace BK520:=am (bd BK520.out);replace BK534:=am (bd BK534.out);replace HB:=am (sd HB.out);refine start_ (n:=16) (S:=fun w' => w'.cell? ⟨gb503,0,none⟩ = some (.int .i64 a1_0) ∧ w'.cell? ⟨gb503,1,none⟩ = some (.int .i64 a1_1) ∧ w'.cell? ⟨gb503,2,none⟩ = some (.int .i64 a1_2) ∧ w'.cell? ⟨gb503,3,none⟩ = some (.int .i64 a1_3) ∧ w'.cell? ⟨gb503,4,none⟩ = some (.int .i64 a1_4) ∧ w'.cell? ⟨gb503,5,none⟩ = some (.int .i64 a1_5) ∧ w'.cell? ⟨gb503,6,none⟩ = some (.int .i64 a1_6) ∧ w'.cell? ⟨gb503,7,none⟩ = some (.int .i64 a1_7) ∧ w'.cell? ⟨gb506,0,none⟩ = some (.int .i64 256) ∧ w'.cell? ⟨gb506,1,none⟩ = some (.int .i64 256) ∧ w'.cell? ⟨gb506,2,none⟩ = some (.int .i64 256) ∧ w'.cell? ⟨gb506,3,none⟩ = some (.int .i64 256) ∧ w'.cell? ⟨gb506,4,none⟩ = some (.int .i64 0) ∧ w'.cell? ⟨gb506,5,none⟩ = some (.int .i64 0) ∧ w'.cell? ⟨gb506,6,none⟩ = some (.int .i64 0) ∧ w'.cell? ⟨gb506,7,none⟩ = some (.int .i64 0)) (ds:=[]) #[false,false,false,false,false,false,false,false,false,false,false,false,false,false,false,false] (by kernel_rfl) rfl rfl ⟨(bc BK503.out 0).trans rfl,(bc BK503.out 1).trans rfl,(bc BK503.out 2).trans rfl,(bc BK503.out 3).trans rfl,(bc BK503.out 4).trans rfl,(bc BK503.out 5).trans rfl,(bc BK503.out 6).trans rfl,(bc BK503.out 7).trans rfl,(bc BK506.out 0).trans rfl,(bc BK506.out 1).trans rfl,(bc BK506.out 2).trans rfl,(bc BK506.out 3).trans rfl,(bc BK506.out 4).trans rfl,(bc BK506.out 5).trans rfl,(bc BK506.out 6).trans rfl,(bc BK506.out 7).trans rfl⟩ (fun hHeld => ?_);refine with_tabW celluloidlaw14_AffineSame.tab6 celluloidlaw14_AffineSame.bits6 (fun HT_ HW_ => ?_);generalize wc.drew = w142 at BK502 BK503 BK504 BK505 BK506 BK520 BK534 HB hHeld ⊢;refine take_ (i:=0) (N:=some 50) (v:=?_) (a':=?_) #[true,false,false,false,false,false,false,false,false,false,false,false,false,false,false,false] rfl rfl (take_ofW HT_.out HW_.out (by kernel_rfl)) (fun _ _ _ h => h) (Or.inl ⟨by rfl,?_⟩) hHeld ?_ ?_
              rotate_left
              · rintro w' ⟨s0,s1,s2,s3,s4,s5,s6,s7,s8,s9,s10,s11,s12,s13,s14,s15⟩
                go_simp
                with_reducible rfl
              rotate_left
              · simp only [Act.put,q1,q2,q3,i64_w,i32_w]
                rfl
              refine one_ (i:=1) (N:=some 51) #[true,true,false,false,false,false,false,false,false,false,false,false,false,false,false,false] rfl rfl (one_of HT_.out (by kernel_rfl)) (by decide) (fun K hK => ?_);refine goes_ Try.func21 (by kernel_rfl) rfl #[.agg #[.int .i64 a1_0,.int .i64 a1_1,.int .i64 a1_2,.int .i64 a1_3,.int .i64 a1_4,.int .i64 a1_5,.int .i64 a1_6,.int .i64 a1_7]] (by rfl) rfl rfl (by (try simp only [List.map_toArray,List.map_cons,List.map_nil]);first|done|rfl|(simp only [List.length_drop,List.length_take];rfl)) ?_
              with_reducible refine (celluloidref07_Cx.calls kj8 a1_0 a1_1 a1_2 a1_3 a1_4 a1_5 a1_6 a1_7 true _ A134.out).mono ?_
              rintro e w143 ⟨rfl,hb⟩
              refine ⟨_,rfl,?_⟩;replace BK502:=am (bw (by exact BK502.out) hb);replace BK503:=am (bw (by exact BK503.out) hb);replace BK504:=am (bw (by exact BK504.out) hb);replace BK505:=am (bw (by exact BK505.out) hb);replace BK506:=am (bw (by exact BK506.out) hb);replace BK520:=am (bw (by exact BK520.out) hb);replace BK534:=am (bw (by exact BK534.out) hb);replace HB:=am (ss (by repeat (first|(with_reducible first|exact HB.out|apply sa|apply sn|apply sd|refine sy ?_ (by assumption))|exact HB.out)) hb);(try clear hb);(try clear hb2);(try clear hk);(try clear hi);refine hK.out _ _ ⟨(bc BK503.out 0).trans rfl,(bc BK503.out 1).trans rfl,(bc BK503.out 2).trans rfl,(bc BK503.out 3).trans rfl,(bc BK503.out 4).trans rfl,(bc BK503.out 5).trans rfl,(bc BK503.out 6).trans rfl,(bc BK503.out 7).trans rfl,(bc BK506.out 0).trans rfl,(bc BK506.out 1).trans rfl,(bc BK506.out 2).trans rfl,(bc BK506.out 3).trans rfl,(bc BK506.out 4).trans rfl,(bc BK506.out 5).trans rfl,(bc BK506.out 6).trans rfl,(bc BK506.out 7).trans rfl⟩ (fun hHeld => ?_);clear hK K;refine norm_ (a':=?_) ?_ ?_
              rotate_left
              · show Act.put _ (some 51) _ = _
                simp only [Act.put,q1,q2,q3,i64_w,i32_w]
                rfl
              refine pure_ (i:=2) (N:=some 52) (v:=?_) (a':=?_) #[true,true,true,false,false,false,false,false,false,false,false,false,false,false,false,false] rfl rfl (any_of HT_.out (by kernel_rfl)) (fun _ _ _ h => h) (Or.inl ⟨by rfl,?_⟩) ?_ ?_
              rotate_left
              · intro w'
                go_simp
                with_reducible rfl
              rotate_left
              · simp only [Act.put,q1,q2,q3,i64_w,i32_w]
                rfl
              refine take_ (i:=3) (N:=some 53) (v:=?_) (a':=?_) #[true,true,true,true,false,false,false,false,false,false,false,false,false,false,false,false] rfl rfl (take_ofW HT_.out HW_.out (by kernel_rfl)) (fun _ _ _ h => h) (Or.inl ⟨by rfl,?_⟩) hHeld ?_ ?_
              rotate_left
              · rintro w' ⟨s0,s1,s2,s3,s4,s5,s6,s7,s8,s9,s10,s11,s12,s13,s14,s15⟩
                go_simp
                with_reducible rfl
              rotate_left
              · simp only [Act.put,q1,q2,q3,i64_w,i32_w]
                rfl
              refine take_ (i:=4) (N:=some 54) (v:=?_) (a':=?_) #[true,true,true,true,true,false,false,false,false,false,false,false,false,false,false,false] rfl rfl (take_ofW HT_.out HW_.out (by kernel_rfl)) (fun _ _ _ h => h) (Or.inl ⟨by rfl,?_⟩) hHeld ?_ ?_
              rotate_left
              · rintro w' ⟨s0,s1,s2,s3,s4,s5,s6,s7,s8,s9,s10,s11,s12,s13,s14,s15⟩
                go_simp
                with_reducible rfl
              rotate_left
              · simp only [Act.put,q1,q2,q3,i64_w,i32_w]
                rfl
              refine take_ (i:=6) (N:=some 56) (v:=?_) (a':=?_) #[true,true,true,true,true,false,true,false,false,false,false,false,false,false,false,false] rfl rfl (take_ofW HT_.out HW_.out (by kernel_rfl)) (fun _ _ _ h => h) (Or.inl ⟨by rfl,?_⟩) hHeld ?_ ?_
              rotate_left
              · rintro w' ⟨s0,s1,s2,s3,s4,s5,s6,s7,s8,s9,s10,s11,s12,s13,s14,s15⟩
                go_simp
                with_reducible rfl
              rotate_left
              · simp only [Act.put,q1,q2,q3,i64_w,i32_w]
                rfl
              refine one_ (i:=5) (N:=some 55) #[true,true,true,true,true,true,true,false,false,false,false,false,false,false,false,false] rfl rfl (one_of HT_.out (by kernel_rfl)) (by decide) (fun K hK => ?_);refine goes_ Try.func28 (by kernel_rfl) rfl #[.agg #[.int .i64 a1_0,.int .i64 a1_1,.int .i64 a1_2,.int .i64 a1_3,.int .i64 a1_4,.int .i64 a1_5,.int .i64 a1_6,.int .i64 a1_7],.agg #[.int .i64 256,.int .i64 256,.int .i64 256,.int .i64 256,.int .i64 0,.int .i64 0,.int .i64 0,.int .i64 0]] (by rfl) rfl rfl (by (try simp only [List.map_toArray,List.map_cons,List.map_nil]);first|done|rfl|(simp only [List.length_drop,List.length_take];rfl)) ?_
              with_reducible refine (affine_ComposeCx.calls kj8 a1_0 a1_1 a1_2 a1_3 a1_4 a1_5 a1_6 a1_7 256 256 256 256 0 0 0 0 t537 t538 t539 t540 t541 t542 t543 t544 _ A136.out).mono ?_
              rintro e w144 ⟨rfl,hb⟩
              refine ⟨_,rfl,?_⟩;replace BK502:=am (bw (by exact BK502.out) hb);replace BK503:=am (bw (by exact BK503.out) hb);replace BK504:=am (bw (by exact BK504.out) hb);replace BK505:=am (bw (by exact BK505.out) hb);replace BK506:=am (bw (by exact BK506.out) hb);replace BK520:=am (bw (by exact BK520.out) hb);replace BK534:=am (bw (by exact BK534.out) hb);replace HB:=am (ss (by repeat (first|(with_reducible first|exact HB.out|apply sa|apply sn|apply sd|refine sy ?_ (by assumption))|exact HB.out)) hb);(try clear hb);(try clear hb2);(try clear hk);(try clear hi);refine hK.out _ _ ⟨(bc BK503.out 0).trans rfl,(bc BK503.out 1).trans rfl,(bc BK503.out 2).trans rfl,(bc BK503.out 3).trans rfl,(bc BK503.out 4).trans rfl,(bc BK503.out 5).trans rfl,(bc BK503.out 6).trans rfl,(bc BK503.out 7).trans rfl,(bc BK506.out 0).trans rfl,(bc BK506.out 1).trans rfl,(bc BK506.out 2).trans rfl,(bc BK506.out 3).trans rfl,(bc BK506.out 4).trans rfl,(bc BK506.out 5).trans rfl,(bc BK506.out 6).trans rfl,(bc BK506.out 7).trans rfl⟩ (fun hHeld => ?_);clear hK K;refine norm_ (a':=?_) ?_ ?_
              rotate_left
              · show Act.put _ (some 55) _ = _
                simp only [Act.put,q1,q2,q3,i64_w,i32_w]
                rfl
              refine pure_ (i:=7) (N:=some 57) (v:=?_) (a':=?_) #[true,true,true,true,true,true,true,true,false,false,false,false,false,false,false,false] rfl rfl (any_of HT_.out (by kernel_rfl)) (fun _ _ _ h => h) (Or.inl ⟨by rfl,?_⟩) ?_ ?_
              rotate_left
              · intro w'
                go_simp
                with_reducible rfl
              rotate_left
              · simp only [Act.put,q1,q2,q3,i64_w,i32_w]
                rfl
              refine pure_ (i:=8) (N:=some 58) (v:=?_) (a':=?_) #[true,true,true,true,true,true,true,true,true,false,false,false,false,false,false,false] rfl rfl (any_of HT_.out (by kernel_rfl)) (fun _ _ _ h => h) (Or.inl ⟨by rfl,?_⟩) ?_ ?_
              rotate_left
              · intro w'
                go_simp
                with_reducible rfl
              rotate_left
              · simp only [Act.put,q1,q2,q3,i64_w,i32_w]
                rfl
              refine take_ (i:=9) (N:=some 59) (v:=?_) (a':=?_) #[true,true,true,true,true,true,true,true,true,true,false,false,false,false,false,false] rfl rfl (take_ofW HT_.out HW_.out (by kernel_rfl)) (fun _ _ _ h => h) (Or.inl ⟨by rfl,?_⟩) hHeld ?_ ?_
              rotate_left
              · rintro w' ⟨s0,s1,s2,s3,s4,s5,s6,s7,s8,s9,s10,s11,s12,s13,s14,s15⟩
                go_simp
                with_reducible rfl
              rotate_left
              · simp only [Act.put,q1,q2,q3,i64_w,i32_w]
                rfl
              refine take_ (i:=10) (N:=some 60) (v:=?_) (a':=?_) #[true,true,true,true,true,true,true,true,true,true,true,false,false,false,false,false] rfl rfl (take_ofW HT_.out HW_.out (by kernel_rfl)) (fun _ _ _ h => h) (Or.inl ⟨by rfl,?_⟩) hHeld ?_ ?_
              rotate_left
              · rintro w' ⟨s0,s1,s2,s3,s4,s5,s6,s7,s8,s9,s10,s11,s12,s13,s14,s15⟩
                go_simp
                with_reducible rfl
              rotate_left
              · simp only [Act.put,q1,q2,q3,i64_w,i32_w]
                rfl
              refine take_ (i:=12) (N:=some 62) (v:=?_) (a':=?_) #[true,true,true,true,true,true,true,true,true,true,true,false,true,false,false,false] rfl rfl (take_ofW HT_.out HW_.out (by kernel_rfl)) (fun _ _ _ h => h) (Or.inl ⟨by rfl,?_⟩) hHeld ?_ ?_
              rotate_left
              · rintro w' ⟨s0,s1,s2,s3,s4,s5,s6,s7,s8,s9,s10,s11,s12,s13,s14,s15⟩
                go_simp
                with_reducible rfl
              rotate_left
              · simp only [Act.put,q1,q2,q3,i64_w,i32_w]
                rfl
              refine one_ (i:=11) (N:=some 61) #[true,true,true,true,true,true,true,true,true,true,true,true,true,false,false,false] rfl rfl (one_of HT_.out (by kernel_rfl)) (by decide) (fun K hK => ?_);refine goes_ Try.func28 (by kernel_rfl) rfl #[.agg #[.int .i64 256,.int .i64 256,.int .i64 256,.int .i64 256,.int .i64 0,.int .i64 0,.int .i64 0,.int .i64 0],.agg #[.int .i64 a1_0,.int .i64 a1_1,.int .i64 a1_2,.int .i64 a1_3,.int .i64 a1_4,.int .i64 a1_5,.int .i64 a1_6,.int .i64 a1_7]] (by rfl) rfl rfl (by (try simp only [List.map_toArray,List.map_cons,List.map_nil]);first|done|rfl|(simp only [List.length_drop,List.length_take];rfl)) ?_
              with_reducible refine (affine_ComposeCx.calls kj8 256 256 256 256 0 0 0 0 a1_0 a1_1 a1_2 a1_3 a1_4 a1_5 a1_6 a1_7 t545 t546 t547 t548 t549 t550 t551 t552 _ A141.out).mono ?_
              rintro e w145 ⟨rfl,hb⟩
              refine ⟨_,rfl,?_⟩;replace BK502:=am (bw (by exact BK502.out) hb);replace BK503:=am (bw (by exact BK503.out) hb);replace BK504:=am (bw (by exact BK504.out) hb);replace BK505:=am (bw (by exact BK505.out) hb);replace BK506:=am (bw (by exact BK506.out) hb);replace BK520:=am (bw (by exact BK520.out) hb);replace BK534:=am (bw (by exact BK534.out) hb);replace HB:=am (ss (by repeat (first|(with_reducible first|exact HB.out|apply sa|apply sn|apply sd|refine sy ?_ (by assumption))|exact HB.out)) hb);(try clear hb);(try clear hb2);(try clear hk);(try clear hi);refine hK.out _ _ ⟨(bc BK503.out 0).trans rfl,(bc BK503.out 1).trans rfl,(bc BK503.out 2).trans rfl,(bc BK503.out 3).trans rfl,(bc BK503.out 4).trans rfl,(bc BK503.out 5).trans rfl,(bc BK503.out 6).trans rfl,(bc BK503.out 7).trans rfl,(bc BK506.out 0).trans rfl,(bc BK506.out 1).trans rfl,(bc BK506.out 2).trans rfl,(bc BK506.out 3).trans rfl,(bc BK506.out 4).trans rfl,(bc BK506.out 5).trans rfl,(bc BK506.out 6).trans rfl,(bc BK506.out 7).trans rfl⟩ (fun hHeld => ?_);clear hK K;refine norm_ (a':=?_) ?_ ?_
              rotate_left
              · show Act.put _ (some 61) _ = _
                simp only [Act.put,q1,q2,q3,i64_w,i32_w]
                rfl
              refine pure_ (i:=13) (N:=some 63) (v:=?_) (a':=?_) #[true,true,true,true,true,true,true,true,true,true,true,true,true,true,false,false] rfl rfl (any_of HT_.out (by kernel_rfl)) (fun _ _ _ h => h) (Or.inl ⟨by rfl,?_⟩) ?_ ?_
              rotate_left
              · intro w'
                go_simp
                with_reducible rfl
              rotate_left
              · simp only [Act.put,q1,q2,q3,i64_w,i32_w]
                rfl
              refine pure_ (i:=14) (N:=some 64) (v:=?_) (a':=?_) #[true,true,true,true,true,true,true,true,true,true,true,true,true,true,true,false] rfl rfl (any_of HT_.out (by kernel_rfl)) (fun _ _ _ h => h) (Or.inl ⟨by rfl,?_⟩) ?_ ?_
              rotate_left
              · intro w'
                go_simp
                with_reducible rfl
              rotate_left
              · simp only [Act.put,q1,q2,q3,i64_w,i32_w]
                rfl
              refine pure_ (i:=15) (N:=some 65) (v:=?_) (a':=?_) #[true,true,true,true,true,true,true,true,true,true,true,true,true,true,true,true] rfl rfl (any_of HT_.out (by kernel_rfl)) (fun _ _ _ h => h) (Or.inl ⟨by rfl,?_⟩) ?_ ?_
              rotate_left
              · intro w'
                go_simp
                with_reducible rfl
              rotate_left
              · simp only [Act.put,q1,q2,q3,i64_w,i32_w]
                rfl
              refine done_ (done_of HT_.out (by kernel_rfl)) ?_
              try go_wp2
              go_meet
              case rel => exact ⟨_,(((!(t545 == a1_0) || (!(t546 == a1_1) || (!(t547 == a1_2) || (!(t548 == a1_3))))) || ((!(t549 == a1_4) || (!(t550 == a1_5) || (!(t551 == a1_6) || (!(t552 == a1_7)))))))),(by first|rfl|(simp;done)|(simp [*];done)),H',⟨by have:=HJ8.out;first|omega|exact Nat.le_refl _⟩,⟨by exact BK502.out⟩,⟨by exact BK503.out⟩,⟨by exact BK504.out⟩,⟨by exact BK505.out⟩,⟨by exact BK506.out⟩,⟨by exact BK520.out⟩,⟨by exact BK534.out⟩,⟨by repeat (first|(with_reducible first|exact HB.out|apply sa|apply sn|apply sd|refine sy ?_ (by assumption))|exact HB.out)⟩⟩
          · replace c135:=Bool.eq_false_iff.mpr c135
            subst c135
            have H1 : (celluloidlaw14_AffineSame.j1 kj8 false a0_0 a0_1 a0_2 a0_3 a0_4 a0_5 a2_0 a2_1 a2_2 a2_3 a3_0 a3_1 256 256 256 256 0 0 0 0) = some r:=by rw [if_neg (show ¬ (false = true) by decide)] at H;exact H
            clear H;have H:=H1;clear H1;have H':=am H;clear H
            try go_wp2
            replace BK502:=am (bd BK502.out);replace BK503:=am (bd BK503.out);replace BK504:=am (bd BK504.out);replace BK505:=am (bd BK505.out);replace BK506:=am (bd BK506.out);replace BK520:=am (bd BK520.out);replace BK534:=am (bd BK534.out);replace HB:=am (sd HB.out);refine start_ (n:=16) (S:=fun w' => w'.cell? ⟨gb503,0,none⟩ = some (.int .i64 a1_0) ∧ w'.cell? ⟨gb503,1,none⟩ = some (.int .i64 a1_1) ∧ w'.cell? ⟨gb503,2,none⟩ = some (.int .i64 a1_2) ∧ w'.cell? ⟨gb503,3,none⟩ = some (.int .i64 a1_3) ∧ w'.cell? ⟨gb503,4,none⟩ = some (.int .i64 a1_4) ∧ w'.cell? ⟨gb503,5,none⟩ = some (.int .i64 a1_5) ∧ w'.cell? ⟨gb503,6,none⟩ = some (.int .i64 a1_6) ∧ w'.cell? ⟨gb503,7,none⟩ = some (.int .i64 a1_7)) (ds:=[]) #[false,false,false,false,false,false,false,false,false,false,false,false,false,false,false,false] (by kernel_rfl) rfl rfl ⟨(bc BK503.out 0).trans rfl,(bc BK503.out 1).trans rfl,(bc BK503.out 2).trans rfl,(bc BK503.out 3).trans rfl,(bc BK503.out 4).trans rfl,(bc BK503.out 5).trans rfl,(bc BK503.out 6).trans rfl,(bc BK503.out 7).trans rfl⟩ (fun hHeld => ?_);refine with_tabW celluloidlaw14_AffineSame.tab6 celluloidlaw14_AffineSame.bits6 (fun HT_ HW_ => ?_);generalize wc.drew = w146 at BK502 BK503 BK504 BK505 BK506 BK520 BK534 HB hHeld ⊢;refine take_ (i:=0) (N:=some 50) (v:=?_) (a':=?_) #[true,false,false,false,false,false,false,false,false,false,false,false,false,false,false,false] rfl rfl (take_ofW HT_.out HW_.out (by kernel_rfl)) (fun _ _ _ h => h) (Or.inl ⟨by rfl,?_⟩) hHeld ?_ ?_
            rotate_left
            · rintro w' ⟨s0,s1,s2,s3,s4,s5,s6,s7⟩
              go_simp
              with_reducible rfl
            rotate_left
            · simp only [Act.put,q1,q2,q3,i64_w,i32_w]
              rfl
            refine one_ (i:=1) (N:=some 51) #[true,true,false,false,false,false,false,false,false,false,false,false,false,false,false,false] rfl rfl (one_of HT_.out (by kernel_rfl)) (by decide) (fun K hK => ?_);refine goes_ Try.func21 (by kernel_rfl) rfl #[.agg #[.int .i64 a1_0,.int .i64 a1_1,.int .i64 a1_2,.int .i64 a1_3,.int .i64 a1_4,.int .i64 a1_5,.int .i64 a1_6,.int .i64 a1_7]] (by rfl) rfl rfl (by (try simp only [List.map_toArray,List.map_cons,List.map_nil]);first|done|rfl|(simp only [List.length_drop,List.length_take];rfl)) ?_
            with_reducible refine (celluloidref07_Cx.calls kj8 a1_0 a1_1 a1_2 a1_3 a1_4 a1_5 a1_6 a1_7 false _ A134.out).mono ?_
            rintro e w147 ⟨rfl,hb⟩
            refine ⟨_,rfl,?_⟩;replace BK502:=am (bw (by exact BK502.out) hb);replace BK503:=am (bw (by exact BK503.out) hb);replace BK504:=am (bw (by exact BK504.out) hb);replace BK505:=am (bw (by exact BK505.out) hb);replace BK506:=am (bw (by exact BK506.out) hb);replace BK520:=am (bw (by exact BK520.out) hb);replace BK534:=am (bw (by exact BK534.out) hb);replace HB:=am (ss (by repeat (first|(with_reducible first|exact HB.out|apply sa|apply sn|apply sd|refine sy ?_ (by assumption))|exact HB.out)) hb);(try clear hb);(try clear hb2);(try clear hk);(try clear hi);refine hK.out _ _ ⟨(bc BK503.out 0).trans rfl,(bc BK503.out 1).trans rfl,(bc BK503.out 2).trans rfl,(bc BK503.out 3).trans rfl,(bc BK503.out 4).trans rfl,(bc BK503.out 5).trans rfl,(bc BK503.out 6).trans rfl,(bc BK503.out 7).trans rfl⟩ (fun hHeld => ?_);clear hK K;refine norm_ (a':=?_) ?_ ?_
            rotate_left
            · show Act.put _ (some 51) _ = _
              simp only [Act.put,q1,q2,q3,i64_w,i32_w]
              rfl
            refine pure_ (i:=2) (N:=some 52) (v:=?_) (a':=?_) #[true,true,true,false,false,false,false,false,false,false,false,false,false,false,false,false] rfl rfl (any_of HT_.out (by kernel_rfl)) (fun _ _ _ h => h) (Or.inl ⟨by rfl,?_⟩) ?_ ?_
            rotate_left
            · intro w'
              go_simp
              with_reducible rfl
            rotate_left
            · simp only [Act.put,q1,q2,q3,i64_w,i32_w]
              rfl
            refine pure_ (i:=3) (N:=some 53) (v:=undef) (a':=?_) #[true,true,true,true,false,false,false,false,false,false,false,false,false,false,false,false] rfl rfl (any_of HT_.out (by kernel_rfl)) (fun _ _ _ h => h) (Or.inr ⟨by rfl,rfl⟩) ?_ ?_
            rotate_left
            · simp only [Act.put,q1,q2,q3,i64_w,i32_w]
              rfl
            refine pure_ (i:=4) (N:=some 54) (v:=undef) (a':=?_) #[true,true,true,true,true,false,false,false,false,false,false,false,false,false,false,false] rfl rfl (any_of HT_.out (by kernel_rfl)) (fun _ _ _ h => h) (Or.inr ⟨by rfl,rfl⟩) ?_ ?_
            rotate_left
            · simp only [Act.put,q1,q2,q3,i64_w,i32_w]
              rfl
            refine pure_ (i:=5) (N:=some 55) (v:=undef) (a':=?_) #[true,true,true,true,true,true,false,false,false,false,false,false,false,false,false,false] rfl rfl (any_of HT_.out (by kernel_rfl)) (fun _ _ _ h => h) (Or.inr ⟨by rfl,rfl⟩) ?_ ?_
            rotate_left
            · simp only [Act.put,q1,q2,q3,i64_w,i32_w]
              rfl
            refine pure_ (i:=6) (N:=some 56) (v:=undef) (a':=?_) #[true,true,true,true,true,true,true,false,false,false,false,false,false,false,false,false] rfl rfl (any_of HT_.out (by kernel_rfl)) (fun _ _ _ h => h) (Or.inr ⟨by rfl,rfl⟩) ?_ ?_
            rotate_left
            · simp only [Act.put,q1,q2,q3,i64_w,i32_w]
              rfl
            refine pure_ (i:=7) (N:=some 57) (v:=undef) (a':=?_) #[true,true,true,true,true,true,true,true,false,false,false,false,false,false,false,false] rfl rfl (any_of HT_.out (by kernel_rfl)) (fun _ _ _ h => h) (Or.inr ⟨by rfl,rfl⟩) ?_ ?_
            rotate_left
            · simp only [Act.put,q1,q2,q3,i64_w,i32_w]
              rfl
            refine pure_ (i:=8) (N:=some 58) (v:=undef) (a':=?_) #[true,true,true,true,true,true,true,true,true,false,false,false,false,false,false,false] rfl rfl (any_of HT_.out (by kernel_rfl)) (fun _ _ _ h => h) (Or.inr ⟨by rfl,rfl⟩) ?_ ?_
            rotate_left
            · simp only [Act.put,q1,q2,q3,i64_w,i32_w]
              rfl
            refine pure_ (i:=9) (N:=some 59) (v:=undef) (a':=?_) #[true,true,true,true,true,true,true,true,true,true,false,false,false,false,false,false] rfl rfl (any_of HT_.out (by kernel_rfl)) (fun _ _ _ h => h) (Or.inr ⟨by rfl,rfl⟩) ?_ ?_
            rotate_left
            · simp only [Act.put,q1,q2,q3,i64_w,i32_w]
              rfl
            refine pure_ (i:=10) (N:=some 60) (v:=undef) (a':=?_) #[true,true,true,true,true,true,true,true,true,true,true,false,false,false,false,false] rfl rfl (any_of HT_.out (by kernel_rfl)) (fun _ _ _ h => h) (Or.inr ⟨by rfl,rfl⟩) ?_ ?_
            rotate_left
            · simp only [Act.put,q1,q2,q3,i64_w,i32_w]
              rfl
            refine pure_ (i:=11) (N:=some 61) (v:=undef) (a':=?_) #[true,true,true,true,true,true,true,true,true,true,true,true,false,false,false,false] rfl rfl (any_of HT_.out (by kernel_rfl)) (fun _ _ _ h => h) (Or.inr ⟨by rfl,rfl⟩) ?_ ?_
            rotate_left
            · simp only [Act.put,q1,q2,q3,i64_w,i32_w]
              rfl
            refine pure_ (i:=12) (N:=some 62) (v:=undef) (a':=?_) #[true,true,true,true,true,true,true,true,true,true,true,true,true,false,false,false] rfl rfl (any_of HT_.out (by kernel_rfl)) (fun _ _ _ h => h) (Or.inr ⟨by rfl,rfl⟩) ?_ ?_
            rotate_left
            · simp only [Act.put,q1,q2,q3,i64_w,i32_w]
              rfl
            refine pure_ (i:=13) (N:=some 63) (v:=undef) (a':=?_) #[true,true,true,true,true,true,true,true,true,true,true,true,true,true,false,false] rfl rfl (any_of HT_.out (by kernel_rfl)) (fun _ _ _ h => h) (Or.inr ⟨by rfl,rfl⟩) ?_ ?_
            rotate_left
            · simp only [Act.put,q1,q2,q3,i64_w,i32_w]
              rfl
            refine pure_ (i:=14) (N:=some 64) (v:=undef) (a':=?_) #[true,true,true,true,true,true,true,true,true,true,true,true,true,true,true,false] rfl rfl (any_of HT_.out (by kernel_rfl)) (fun _ _ _ h => h) (Or.inr ⟨by rfl,rfl⟩) ?_ ?_
            rotate_left
            · simp only [Act.put,q1,q2,q3,i64_w,i32_w]
              rfl
            refine pure_ (i:=15) (N:=some 65) (v:=?_) (a':=?_) #[true,true,true,true,true,true,true,true,true,true,true,true,true,true,true,true] rfl rfl (any_of HT_.out (by kernel_rfl)) (fun _ _ _ h => h) (Or.inl ⟨by rfl,?_⟩) ?_ ?_
            rotate_left
            · intro w'
              go_simp
              with_reducible rfl
            rotate_left
            · simp only [Act.put,q1,q2,q3,i64_w,i32_w]
              rfl
            refine done_ (done_of HT_.out (by kernel_rfl)) ?_
            try go_wp2
            go_meet
            case rel => exact ⟨_,(false),(by first|rfl|(simp;done)|(simp [*];done)),H',⟨by have:=HJ8.out;first|omega|exact Nat.le_refl _⟩,⟨by exact BK502.out⟩,⟨by exact BK503.out⟩,⟨by exact BK504.out⟩,⟨by exact BK505.out⟩,⟨by exact BK506.out⟩,⟨by exact BK520.out⟩,⟨by exact BK534.out⟩,⟨by repeat (first|(with_reducible first|exact HB.out|apply sa|apply sn|apply sd|refine sy ?_ (by assumption))|exact HB.out)⟩⟩
        case rest =>
          clear HC133
          try clear c1
          try clear c2
          try clear p2
          try clear c13
          try clear c21
          try clear c28
          try clear c135
          try clear c137
          try clear c137b0
          obtain ⟨kq,x65_132,rfl,HA,HJ132,BK502,BK503,BK504,BK505,BK506,BK520,BK534,HB⟩:=hcut
          cases kq with
          | zero => exact absurd HA.out (by simp [celluloidlaw14_AffineSame.j1])
          | succ kj132 =>
            have H:=HA.out;clear HA;simp only [celluloidlaw14_AffineSame.j1] at H
            by_cases c148 : x65_132 = true
            · subst c148
              have H1 : (some false) = some r:=by rw [if_pos rfl] at H;exact H
              clear H;have H:=H1;clear H1;obtain rfl:=Option.some.inj H
              go_wp2
              go_ret
              exact ⟨by first|rfl|(simp [errW_none,errW_some] <;> rfl)|(simp [*,errW_none,errW_some] <;> rfl),by repeat (first|(with_reducible first|exact HB.out|apply sa|apply sn|apply sd|refine sy ?_ (by assumption))|exact HB.out)⟩
            · replace c148:=Bool.eq_false_iff.mpr c148
              subst c148
              have H1 : ((celluloidref07_RGBA.f kj132 a2_0 a2_1 a2_2 a2_3).bind fun t553 => (if t553 = true then ((affine_Color.f kj132 256 256 256 256 0 0 0 0 a2_0 a2_1 a2_2 a2_3).bind fun bt554 => (celluloidlaw14_AffineSame.j2 kj132 (!(bt554.1 == a2_0) || (!(bt554.2.1 == a2_1) || (!(bt554.2.2.1 == a2_2) || (!(bt554.2.2.2 == a2_3))))) a0_0 a0_1 a0_2 a0_3 a0_4 a0_5 a3_0 a3_1)) else (celluloidlaw14_AffineSame.j2 kj132 false a0_0 a0_1 a0_2 a0_3 a0_4 a0_5 a3_0 a3_1))) = some r:=by rw [if_neg (show ¬ (false = true) by decide)] at H;exact H
              clear H;have H:=H1;clear H1;have HC149:=am H;clear H
              go_upto_region 8 with (fail)
              go_cut [74] (fun v74 wc => ∃ (kq : Nat) (x74_148 : Bool),v74 = .bool x74_148 ∧ Aside0 (celluloidlaw14_AffineSame.j2 kq x74_148 a0_0 a0_1 a0_2 a0_3 a0_4 a0_5 a3_0 a3_1 = some r) ∧ Aside0 (kq ≤ kj132) ∧ Aside0 (wc.heap[gb502]? = some (.cells #[.int .i64 a0_0,.int .i64 a0_1,.int .i64 a0_2,.int .i64 a0_3,.int .i64 a0_4,.int .i64 a0_5] 23 (0,0))) ∧ Aside0 (wc.heap[gb503]? = some (.cells #[.int .i64 a1_0,.int .i64 a1_1,.int .i64 a1_2,.int .i64 a1_3,.int .i64 a1_4,.int .i64 a1_5,.int .i64 a1_6,.int .i64 a1_7] 41 (0,0))) ∧ Aside0 (wc.heap[gb504]? = some (.cells #[.int .i64 a2_0,.int .i64 a2_1,.int .i64 a2_2,.int .i64 a2_3] 43 (0,0))) ∧ Aside0 (wc.heap[gb505]? = some (.cells #[.int .i64 a3_0,.int .i64 a3_1] 25 (0,0))) ∧ Aside0 (wc.heap[gb506]? = some (.cells #[.int .i64 256,.int .i64 256,.int .i64 256,.int .i64 256,.int .i64 0,.int .i64 0,.int .i64 0,.int .i64 0] 41 (0,0))) ∧ Aside0 (wc.heap[gb520]? = some (.cells #[.int .i64 t513,.int .i64 t514,.int .i64 t515,.int .i64 t516,.int .i64 t517,.int .i64 t518] 23 (0,0))) ∧ Aside0 (wc.heap[gb534]? = some (.cells #[.int .i64 t527,.int .i64 t528,.int .i64 t529,.int .i64 t530,.int .i64 t531,.int .i64 t532] 23 (0,0))) ∧ Aside0 (Below w.heap.size w wc))
              case first =>
                have H:=HC149.out;clear HC149;replace H:=Option.bind_eq_some_iff.mp H;obtain ⟨t553,A1500,H⟩:=H;replace H : (if t553 = true then ((affine_Color.f kj132 256 256 256 256 0 0 0 0 a2_0 a2_1 a2_2 a2_3).bind fun bt554 => (celluloidlaw14_AffineSame.j2 kj132 (!(bt554.1 == a2_0) || (!(bt554.2.1 == a2_1) || (!(bt554.2.2.1 == a2_2) || (!(bt554.2.2.2 == a2_3))))) a0_0 a0_1 a0_2 a0_3 a0_4 a0_5 a3_0 a3_1)) else (celluloidlaw14_AffineSame.j2 kj132 false a0_0 a0_1 a0_2 a0_3 a0_4 a0_5 a3_0 a3_1)) = some r:=H;have A150:=am A1500;clear A1500
                by_cases c151 : t553 = true
                · subst c151
                  have H1 : ((affine_Color.f kj132 256 256 256 256 0 0 0 0 a2_0 a2_1 a2_2 a2_3).bind fun bt554 => (celluloidlaw14_AffineSame.j2 kj132 (!(bt554.1 == a2_0) || (!(bt554.2.1 == a2_1) || (!(bt554.2.2.1 == a2_2) || (!(bt554.2.2.2 == a2_3))))) a0_0 a0_1 a0_2 a0_3 a0_4 a0_5 a3_0 a3_1)) = some r:=by rw [if_pos rfl] at H;exact H
                  clear H;have H:=H1;clear H1;replace H:=Option.bind_eq_some_iff.mp H;obtain ⟨⟨t554,t555,t556,t557⟩,A1520,H⟩:=H;replace H : (celluloidlaw14_AffineSame.j2 kj132 (!(t554 == a2_0) || (!(t555 == a2_1) || (!(t556 == a2_2) || (!(t557 == a2_3))))) a0_0 a0_1 a0_2 a0_3 a0_4 a0_5 a3_0 a3_1) = some r:=H;have A152:=am A1520;clear A1520;have H':=am H;clear H
                  try go_wp2
                  replace BK502:=am (bd BK502.out);replace BK503:=am (bd BK503.out);replace BK504:=am (bd BK504.out);replace BK505:=am (bd BK505.out);replace BK506:=am (bd BK506.out);replace BK520:=am (bd BK520.out);replace BK534:=am (bd BK534.out);replace HB:=am (sd HB.out);refine start_ (n:=9) (S:=fun w' => w'.cell? ⟨gb504,0,none⟩ = some (.int .i64 a2_0) ∧ w'.cell? ⟨gb504,1,none⟩ = some (.int .i64 a2_1) ∧ w'.cell? ⟨gb504,2,none⟩ = some (.int .i64 a2_2) ∧ w'.cell? ⟨gb504,3,none⟩ = some (.int .i64 a2_3) ∧ w'.cell? ⟨gb506,0,none⟩ = some (.int .i64 256) ∧ w'.cell? ⟨gb506,1,none⟩ = some (.int .i64 256) ∧ w'.cell? ⟨gb506,2,none⟩ = some (.int .i64 256) ∧ w'.cell? ⟨gb506,3,none⟩ = some (.int .i64 256) ∧ w'.cell? ⟨gb506,4,none⟩ = some (.int .i64 0) ∧ w'.cell? ⟨gb506,5,none⟩ = some (.int .i64 0) ∧ w'.cell? ⟨gb506,6,none⟩ = some (.int .i64 0) ∧ w'.cell? ⟨gb506,7,none⟩ = some (.int .i64 0)) (ds:=[]) #[false,false,false,false,false,false,false,false,false] (by kernel_rfl) rfl rfl ⟨(bc BK504.out 0).trans rfl,(bc BK504.out 1).trans rfl,(bc BK504.out 2).trans rfl,(bc BK504.out 3).trans rfl,(bc BK506.out 0).trans rfl,(bc BK506.out 1).trans rfl,(bc BK506.out 2).trans rfl,(bc BK506.out 3).trans rfl,(bc BK506.out 4).trans rfl,(bc BK506.out 5).trans rfl,(bc BK506.out 6).trans rfl,(bc BK506.out 7).trans rfl⟩ (fun hHeld => ?_);refine with_tabW celluloidlaw14_AffineSame.tab8 celluloidlaw14_AffineSame.bits8 (fun HT_ HW_ => ?_);generalize wc.drew = w153 at BK502 BK503 BK504 BK505 BK506 BK520 BK534 HB hHeld ⊢;refine take_ (i:=0) (N:=some 66) (v:=?_) (a':=?_) #[true,false,false,false,false,false,false,false,false] rfl rfl (take_ofW HT_.out HW_.out (by kernel_rfl)) (fun _ _ _ h => h) (Or.inl ⟨by rfl,?_⟩) hHeld ?_ ?_
                  rotate_left
                  · rintro w' ⟨s0,s1,s2,s3,s4,s5,s6,s7,s8,s9,s10,s11⟩
                    go_simp
                    with_reducible rfl
                  rotate_left
                  · simp only [Act.put,q1,q2,q3,i64_w,i32_w]
                    rfl
                  refine one_ (i:=1) (N:=some 67) #[true,true,false,false,false,false,false,false,false] rfl rfl (one_of HT_.out (by kernel_rfl)) (by decide) (fun K hK => ?_);refine goes_ Try.func22 (by kernel_rfl) rfl #[.agg #[.int .i64 a2_0,.int .i64 a2_1,.int .i64 a2_2,.int .i64 a2_3]] (by rfl) rfl rfl (by (try simp only [List.map_toArray,List.map_cons,List.map_nil]);first|done|rfl|(simp only [List.length_drop,List.length_take];rfl)) ?_
                  with_reducible refine (celluloidref07_RGBA.calls kj132 a2_0 a2_1 a2_2 a2_3 true _ A150.out).mono ?_
                  rintro e w154 ⟨rfl,hb⟩
                  refine ⟨_,rfl,?_⟩;replace BK502:=am (bw (by exact BK502.out) hb);replace BK503:=am (bw (by exact BK503.out) hb);replace BK504:=am (bw (by exact BK504.out) hb);replace BK505:=am (bw (by exact BK505.out) hb);replace BK506:=am (bw (by exact BK506.out) hb);replace BK520:=am (bw (by exact BK520.out) hb);replace BK534:=am (bw (by exact BK534.out) hb);replace HB:=am (ss (by repeat (first|(with_reducible first|exact HB.out|apply sa|apply sn|apply sd|refine sy ?_ (by assumption))|exact HB.out)) hb);(try clear hb);(try clear hb2);(try clear hk);(try clear hi);refine hK.out _ _ ⟨(bc BK504.out 0).trans rfl,(bc BK504.out 1).trans rfl,(bc BK504.out 2).trans rfl,(bc BK504.out 3).trans rfl,(bc BK506.out 0).trans rfl,(bc BK506.out 1).trans rfl,(bc BK506.out 2).trans rfl,(bc BK506.out 3).trans rfl,(bc BK506.out 4).trans rfl,(bc BK506.out 5).trans rfl,(bc BK506.out 6).trans rfl,(bc BK506.out 7).trans rfl⟩ (fun hHeld => ?_);clear hK K;refine norm_ (a':=?_) ?_ ?_
                  rotate_left
                  · show Act.put _ (some 67) _ = _
                    simp only [Act.put,q1,q2,q3,i64_w,i32_w]
                    rfl
                  refine pure_ (i:=2) (N:=some 68) (v:=?_) (a':=?_) #[true,true,true,false,false,false,false,false,false] rfl rfl (any_of HT_.out (by kernel_rfl)) (fun _ _ _ h => h) (Or.inl ⟨by rfl,?_⟩) ?_ ?_
                  rotate_left
                  · intro w'
                    go_simp
                    with_reducible rfl
                  rotate_left
                  · simp only [Act.put,q1,q2,q3,i64_w,i32_w]
                    rfl
                  refine take_ (i:=3) (N:=some 69) (v:=?_) (a':=?_) #[true,true,true,true,false,false,false,false,false] rfl rfl (take_ofW HT_.out HW_.out (by kernel_rfl)) (fun _ _ _ h => h) (Or.inl ⟨by rfl,?_⟩) hHeld ?_ ?_
                  rotate_left
                  · rintro w' ⟨s0,s1,s2,s3,s4,s5,s6,s7,s8,s9,s10,s11⟩
                    go_simp
                    with_reducible rfl
                  rotate_left
                  · simp only [Act.put,q1,q2,q3,i64_w,i32_w]
                    rfl
                  refine take_ (i:=4) (N:=some 70) (v:=?_) (a':=?_) #[true,true,true,true,true,false,false,false,false] rfl rfl (take_ofW HT_.out HW_.out (by kernel_rfl)) (fun _ _ _ h => h) (Or.inl ⟨by rfl,?_⟩) hHeld ?_ ?_
                  rotate_left
                  · rintro w' ⟨s0,s1,s2,s3,s4,s5,s6,s7,s8,s9,s10,s11⟩
                    go_simp
                    with_reducible rfl
                  rotate_left
                  · simp only [Act.put,q1,q2,q3,i64_w,i32_w]
                    rfl
                  refine take_ (i:=6) (N:=some 72) (v:=?_) (a':=?_) #[true,true,true,true,true,false,true,false,false] rfl rfl (take_ofW HT_.out HW_.out (by kernel_rfl)) (fun _ _ _ h => h) (Or.inl ⟨by rfl,?_⟩) hHeld ?_ ?_
                  rotate_left
                  · rintro w' ⟨s0,s1,s2,s3,s4,s5,s6,s7,s8,s9,s10,s11⟩
                    go_simp
                    with_reducible rfl
                  rotate_left
                  · simp only [Act.put,q1,q2,q3,i64_w,i32_w]
                    rfl
                  refine one_ (i:=5) (N:=some 71) #[true,true,true,true,true,true,true,false,false] rfl rfl (one_of HT_.out (by kernel_rfl)) (by decide) (fun K hK => ?_);refine goes_ Try.func24 (by kernel_rfl) rfl #[.agg #[.int .i64 256,.int .i64 256,.int .i64 256,.int .i64 256,.int .i64 0,.int .i64 0,.int .i64 0,.int .i64 0],.agg #[.int .i64 a2_0,.int .i64 a2_1,.int .i64 a2_2,.int .i64 a2_3]] (by rfl) rfl rfl (by (try simp only [List.map_toArray,List.map_cons,List.map_nil]);first|done|rfl|(simp only [List.length_drop,List.length_take];rfl)) ?_
                  with_reducible refine (affine_Color.calls kj132 256 256 256 256 0 0 0 0 a2_0 a2_1 a2_2 a2_3 t554 t555 t556 t557 _ A152.out).mono ?_
                  rintro e w155 ⟨rfl,hb⟩
                  refine ⟨_,rfl,?_⟩;replace BK502:=am (bw (by exact BK502.out) hb);replace BK503:=am (bw (by exact BK503.out) hb);replace BK504:=am (bw (by exact BK504.out) hb);replace BK505:=am (bw (by exact BK505.out) hb);replace BK506:=am (bw (by exact BK506.out) hb);replace BK520:=am (bw (by exact BK520.out) hb);replace BK534:=am (bw (by exact BK534.out) hb);replace HB:=am (ss (by repeat (first|(with_reducible first|exact HB.out|apply sa|apply sn|apply sd|refine sy ?_ (by assumption))|exact HB.out)) hb);(try clear hb);(try clear hb2);(try clear hk);(try clear hi);refine hK.out _ _ ⟨(bc BK504.out 0).trans rfl,(bc BK504.out 1).trans rfl,(bc BK504.out 2).trans rfl,(bc BK504.out 3).trans rfl,(bc BK506.out 0).trans rfl,(bc BK506.out 1).trans rfl,(bc BK506.out 2).trans rfl,(bc BK506.out 3).trans rfl,(bc BK506.out 4).trans rfl,(bc BK506.out 5).trans rfl,(bc BK506.out 6).trans rfl,(bc BK506.out 7).trans rfl⟩ (fun hHeld => ?_);clear hK K;refine norm_ (a':=?_) ?_ ?_
                  rotate_left
                  · show Act.put _ (some 71) _ = _
                    simp only [Act.put,q1,q2,q3,i64_w,i32_w]
                    rfl
                  refine pure_ (i:=7) (N:=some 73) (v:=?_) (a':=?_) #[true,true,true,true,true,true,true,true,false] rfl rfl (any_of HT_.out (by kernel_rfl)) (fun _ _ _ h => h) (Or.inl ⟨by rfl,?_⟩) ?_ ?_
                  rotate_left
                  · intro w'
                    go_simp
                    with_reducible rfl
                  rotate_left
                  · simp only [Act.put,q1,q2,q3,i64_w,i32_w]
                    rfl
                  refine pure_ (i:=8) (N:=some 74) (v:=?_) (a':=?_) #[true,true,true,true,true,true,true,true,true] rfl rfl (any_of HT_.out (by kernel_rfl)) (fun _ _ _ h => h) (Or.inl ⟨by rfl,?_⟩) ?_ ?_
                  rotate_left
                  · intro w'
                    go_simp
                    with_reducible rfl
                  rotate_left
                  · simp only [Act.put,q1,q2,q3,i64_w,i32_w]
                    rfl
                  refine done_ (done_of HT_.out (by kernel_rfl)) ?_
                  try go_wp2
                  go_meet
                  case rel => exact ⟨_,((!(t554 == a2_0) || (!(t555 == a2_1) || (!(t556 == a2_2) || (!(t557 == a2_3)))))),(by first|rfl|(simp;done)|(simp [*];done)),H',⟨by have:=HJ8.out;have:=HJ132.out;first|omega|exact Nat.le_refl _⟩,⟨by exact BK502.out⟩,⟨by exact BK503.out⟩,⟨by exact BK504.out⟩,⟨by exact BK505.out⟩,⟨by exact BK506.out⟩,⟨by exact BK520.out⟩,⟨by exact BK534.out⟩,⟨by repeat (first|(with_reducible first|exact HB.out|apply sa|apply sn|apply sd|refine sy ?_ (by assumption))|exact HB.out)⟩⟩
                · replace c151:=Bool.eq_false_iff.mpr c151
                  subst c151
                  have H1 : (celluloidlaw14_AffineSame.j2 kj132 false a0_0 a0_1 a0_2 a0_3 a0_4 a0_5 a3_0 a3_1) = some r:=by rw [if_neg (show ¬ (false = true) by decide)] at H;exact H
                  clear H;have H:=H1;clear H1;have H':=am H;clear H
                  try go_wp2
                  replace BK502:=am (bd BK502.out);replace BK503:=am (bd BK503.out);replace BK504:=am (bd BK504.out);replace BK505:=am (bd BK505.out);replace BK506:=am (bd BK506.out);replace BK520:=am (bd BK520.out);replace BK534:=am (bd BK534.out);replace HB:=am (sd HB.out);refine start_ (n:=9) (S:=fun w' => w'.cell? ⟨gb504,0,none⟩ = some (.int .i64 a2_0) ∧ w'.cell? ⟨gb504,1,none⟩ = some (.int .i64 a2_1) ∧ w'.cell? ⟨gb504,2,none⟩ = some (.int .i64 a2_2) ∧ w'.cell? ⟨gb504,3,none⟩ = some (.int .i64 a2_3)) (ds:=[]) #[false,false,false,false,false,false,false,false,false] (by kernel_rfl) rfl rfl ⟨(bc BK504.out 0).trans rfl,(bc BK504.out 1).trans rfl,(bc BK504.out 2).trans rfl,(bc BK504.out 3).trans rfl⟩ (fun hHeld => ?_);refine with_tabW celluloidlaw14_AffineSame.tab8 celluloidlaw14_AffineSame.bits8 (fun HT_ HW_ => ?_);generalize wc.drew = w156 at BK502 BK503 BK504 BK505 BK506 BK520 BK534 HB hHeld ⊢;refine take_ (i:=0) (N:=some 66) (v:=?_) (a':=?_) #[true,false,false,false,false,false,false,false,false] rfl rfl (take_ofW HT_.out HW_.out (by kernel_rfl)) (fun _ _ _ h => h) (Or.inl ⟨by rfl,?_⟩) hHeld ?_ ?_
                  rotate_left
                  · rintro w' ⟨s0,s1,s2,s3⟩
                    go_simp
                    with_reducible rfl
                  rotate_left
                  · simp only [Act.put,q1,q2,q3,i64_w,i32_w]
                    rfl
                  refine one_ (i:=1) (N:=some 67) #[true,true,false,false,false,false,false,false,false] rfl rfl (one_of HT_.out (by kernel_rfl)) (by decide) (fun K hK => ?_);refine goes_ Try.func22 (by kernel_rfl) rfl #[.agg #[.int .i64 a2_0,.int .i64 a2_1,.int .i64 a2_2,.int .i64 a2_3]] (by rfl) rfl rfl (by (try simp only [List.map_toArray,List.map_cons,List.map_nil]);first|done|rfl|(simp only [List.length_drop,List.length_take];rfl)) ?_
                  with_reducible refine (celluloidref07_RGBA.calls kj132 a2_0 a2_1 a2_2 a2_3 false _ A150.out).mono ?_
                  rintro e w157 ⟨rfl,hb⟩
                  refine ⟨_,rfl,?_⟩;replace BK502:=am (bw (by exact BK502.out) hb);replace BK503:=am (bw (by exact BK503.out) hb);replace BK504:=am (bw (by exact BK504.out) hb);replace BK505:=am (bw (by exact BK505.out) hb);replace BK506:=am (bw (by exact BK506.out) hb);replace BK520:=am (bw (by exact BK520.out) hb);replace BK534:=am (bw (by exact BK534.out) hb);replace HB:=am (ss (by repeat (first|(with_reducible first|exact HB.out|apply sa|apply sn|apply sd|refine sy ?_ (by assumption))|exact HB.out)) hb);(try clear hb);(try clear hb2);(try clear hk);(try clear hi);refine hK.out _ _ ⟨(bc BK504.out 0).trans rfl,(bc BK504.out 1).trans rfl,(bc BK504.out 2).trans rfl,(bc BK504.out 3).trans rfl⟩ (fun hHeld => ?_);clear hK K;refine norm_ (a':=?_) ?_ ?_
                  rotate_left
                  · show Act.put _ (some 67) _ = _
                    simp only [Act.put,q1,q2,q3,i64_w,i32_w]
                    rfl
                  refine pure_ (i:=2) (N:=some 68) (v:=?_) (a':=?_) #[true,true,true,false,false,false,false,false,false] rfl rfl (any_of HT_.out (by kernel_rfl)) (fun _ _ _ h => h) (Or.inl ⟨by rfl,?_⟩) ?_ ?_
                  rotate_left
                  · intro w'
                    go_simp
                    with_reducible rfl
                  rotate_left
                  · simp only [Act.put,q1,q2,q3,i64_w,i32_w]
                    rfl
                  refine pure_ (i:=3) (N:=some 69) (v:=undef) (a':=?_) #[true,true,true,true,false,false,false,false,false] rfl rfl (any_of HT_.out (by kernel_rfl)) (fun _ _ _ h => h) (Or.inr ⟨by rfl,rfl⟩) ?_ ?_
                  rotate_left
                  · simp only [Act.put,q1,q2,q3,i64_w,i32_w]
                    rfl
                  refine pure_ (i:=4) (N:=some 70) (v:=undef) (a':=?_) #[true,true,true,true,true,false,false,false,false] rfl rfl (any_of HT_.out (by kernel_rfl)) (fun _ _ _ h => h) (Or.inr ⟨by rfl,rfl⟩) ?_ ?_
                  rotate_left
                  · simp only [Act.put,q1,q2,q3,i64_w,i32_w]
                    rfl
                  refine pure_ (i:=5) (N:=some 71) (v:=undef) (a':=?_) #[true,true,true,true,true,true,false,false,false] rfl rfl (any_of HT_.out (by kernel_rfl)) (fun _ _ _ h => h) (Or.inr ⟨by rfl,rfl⟩) ?_ ?_
                  rotate_left
                  · simp only [Act.put,q1,q2,q3,i64_w,i32_w]
                    rfl
                  refine pure_ (i:=6) (N:=some 72) (v:=undef) (a':=?_) #[true,true,true,true,true,true,true,false,false] rfl rfl (any_of HT_.out (by kernel_rfl)) (fun _ _ _ h => h) (Or.inr ⟨by rfl,rfl⟩) ?_ ?_
                  rotate_left
                  · simp only [Act.put,q1,q2,q3,i64_w,i32_w]
                    rfl
                  refine pure_ (i:=7) (N:=some 73) (v:=undef) (a':=?_) #[true,true,true,true,true,true,true,true,false] rfl rfl (any_of HT_.out (by kernel_rfl)) (fun _ _ _ h => h) (Or.inr ⟨by rfl,rfl⟩) ?_ ?_
                  rotate_left
                  · simp only [Act.put,q1,q2,q3,i64_w,i32_w]
                    rfl
                  refine pure_ (i:=8) (N:=some 74) (v:=?_) (a':=?_) #[true,true,true,true,true,true,true,true,true] rfl rfl (any_of HT_.out (by kernel_rfl)) (fun _ _ _ h => h) (Or.inl ⟨by rfl,?_⟩) ?_ ?_
                  rotate_left
                  · intro w'
                    go_simp
                    with_reducible rfl
                  rotate_left
                  · simp only [Act.put,q1,q2,q3,i64_w,i32_w]
                    rfl
                  refine done_ (done_of HT_.out (by kernel_rfl)) ?_
                  try go_wp2
                  go_meet
                  case rel => exact ⟨_,(false),(by first|rfl|(simp;done)|(simp [*];done)),H',⟨by have:=HJ8.out;have:=HJ132.out;first|omega|exact Nat.le_refl _⟩,⟨by exact BK502.out⟩,⟨by exact BK503.out⟩,⟨by exact BK504.out⟩,⟨by exact BK505.out⟩,⟨by exact BK506.out⟩,⟨by exact BK520.out⟩,⟨by exact BK534.out⟩,⟨by repeat (first|(with_reducible first|exact HB.out|apply sa|apply sn|apply sd|refine sy ?_ (by assumption))|exact HB.out)⟩⟩
              case rest =>
                clear HC149
                try clear c1
                try clear c2
                try clear p2
                try clear c13
                try clear c14
                try clear c15
                try clear c21
                try clear c22
                try clear c24
                try clear c28
                try clear c135
                try clear c137
                try clear c137b0
                try clear c148
                try clear c151
                try clear p2
                obtain ⟨kq,x74_148,rfl,HA,HJ148,BK502,BK503,BK504,BK505,BK506,BK520,BK534,HB⟩:=hcut
                cases kq with
                | zero => exact absurd HA.out (by simp [celluloidlaw14_AffineSame.j2])
                | succ kj148 =>
                  have H:=HA.out;clear HA;simp only [celluloidlaw14_AffineSame.j2] at H
                  by_cases c158 : x74_148 = true
                  · subst c158
                    have H1 : (some false) = some r:=by rw [if_pos rfl] at H;exact H
                    clear H;have H:=H1;clear H1;obtain rfl:=Option.some.inj H
                    go_wp2
                    go_ret
                    exact ⟨by first|rfl|(simp [errW_none,errW_some] <;> rfl)|(simp [*,errW_none,errW_some] <;> rfl),by repeat (first|(with_reducible first|exact HB.out|apply sa|apply sn|apply sd|refine sy ?_ (by assumption))|exact HB.out)⟩
                  · replace c158:=Bool.eq_false_iff.mpr c158
                    subst c158
                    have H1 : ((affine_Grid.f kj148 a0_0 a0_1 a0_2 a0_3 a0_4 a0_5 a3_0 a3_1).bind fun bt558 => (if bt558.2.2 = 0 then (if (Int.tmod bt558.1 2) = 0 then (if (Int.tmod bt558.2.1 2) = 0 then ((celluloidlaw14_awake.f kj148).bind fun t562 => (some t562)) else (some false)) else (some false)) else ((celluloidlaw14_awake.f kj148).bind fun t563 => (some t563)))) = some r:=by rw [if_neg (show ¬ (false = true) by decide)] at H;exact H
                    clear H;have H:=H1;clear H1;replace H:=Option.bind_eq_some_iff.mp H;obtain ⟨⟨t558,t559,t560⟩,A1590,H⟩:=H;replace H : (if t560 = 0 then (if (Int.tmod t558 2) = 0 then (if (Int.tmod t559 2) = 0 then ((celluloidlaw14_awake.f kj148).bind fun t562 => (some t562)) else (some false)) else (some false)) else ((celluloidlaw14_awake.f kj148).bind fun t563 => (some t563))) = some r:=H;have A159:=am A1590;clear A1590
                    by_cases c160 : t560 = 0
                    · rw [if_pos c160] at H
                      have c160b0 : (t560 == 0) = true:=beq_iff_eq.mpr c160;have c160b1 : (t560 != 0) = false:=bne_eq_false_iff_eq.mpr c160;clear c160
                      by_cases c161 : (Int.tmod t558 2) = 0
                      · rw [if_pos c161] at H
                        have c161b0 : ((Int.tmod t558 2) == 0) = true:=beq_iff_eq.mpr c161;have c161b1 : ((Int.tmod t558 2) != 0) = false:=bne_eq_false_iff_eq.mpr c161;clear c161
                        by_cases c162 : (Int.tmod t559 2) = 0
                        · rw [if_pos c162] at H
                          have c162b0 : ((Int.tmod t559 2) == 0) = true:=beq_iff_eq.mpr c162;have c162b1 : ((Int.tmod t559 2) != 0) = false:=bne_eq_false_iff_eq.mpr c162;clear c162;replace H:=Option.bind_eq_some_iff.mp H;obtain ⟨t562,A1630,H⟩:=H;replace H : (some t562) = some r:=H;have A163:=am A1630;clear A1630;obtain rfl:=Option.some.inj H;have hnb164:=NB502_503.out;have hnc164:=NB503_502.out;have hnb165:=NB502_504.out;have hnc165:=NB504_502.out;have hnb166:=NB502_505.out;have hnc166:=NB505_502.out;have hnb167:=NB502_506.out;have hnc167:=NB506_502.out;have hnb168:=NB502_520.out;have hnc168:=NB520_502.out;have hnb169:=NB502_534.out;have hnc169:=NB534_502.out;have hcz170_0 : wc.cell? ⟨gb502,0,none⟩ = some (.int .i64 a0_0):=(bc BK502.out 0).trans rfl;have hcz170_1 : wc.cell? ⟨gb502,1,none⟩ = some (.int .i64 a0_1):=(bc BK502.out 1).trans rfl;have hcz170_2 : wc.cell? ⟨gb502,2,none⟩ = some (.int .i64 a0_2):=(bc BK502.out 2).trans rfl;have hcz170_3 : wc.cell? ⟨gb502,3,none⟩ = some (.int .i64 a0_3):=(bc BK502.out 3).trans rfl;have hcz170_4 : wc.cell? ⟨gb502,4,none⟩ = some (.int .i64 a0_4):=(bc BK502.out 4).trans rfl;have hcz170_5 : wc.cell? ⟨gb502,5,none⟩ = some (.int .i64 a0_5):=(bc BK502.out 5).trans rfl;have hfz170_0:=bz BK502.out 0;have hfz170_1:=bz BK502.out 1;have hfz170_2:=bz BK502.out 2;have hfz170_3:=bz BK502.out 3;have hfz170_4:=bz BK502.out 4;have hfz170_5:=bz BK502.out 5;have hnb171:=NB505_503.out;have hnc171:=NB503_505.out;have hnb172:=NB505_504.out;have hnc172:=NB504_505.out;have hnb173:=NB505_506.out;have hnc173:=NB506_505.out;have hnb174:=NB505_520.out;have hnc174:=NB520_505.out;have hnb175:=NB505_534.out;have hnc175:=NB534_505.out;have hcz176_0 : wc.cell? ⟨gb505,0,none⟩ = some (.int .i64 a3_0):=(bc BK505.out 0).trans rfl;have hcz176_1 : wc.cell? ⟨gb505,1,none⟩ = some (.int .i64 a3_1):=(bc BK505.out 1).trans rfl;have hfz176_0:=bz BK505.out 0;have hfz176_1:=bz BK505.out 1
                          go_wp2_with (first|((with_reducible refine gate_callee (f:=11) rfl ?_);refine goesL_ (some 78) rfl rfl Try.func11 (by kernel_rfl) rfl #[.agg #[.int .i64 a0_0,.int .i64 a0_1,.int .i64 a0_2,.int .i64 a0_3,.int .i64 a0_4,.int .i64 a0_5],.agg #[.int .i64 a3_0,.int .i64 a3_1]] rfl (by (try simp only [List.map_toArray,List.map_cons,List.map_nil]);first|done|rfl|(simp only [List.length_drop,List.length_take];rfl)) ?_;(with_reducible refine (affine_Grid.calls kj148 a0_0 a0_1 a0_2 a0_3 a0_4 a0_5 a3_0 a3_1 t558 t559 t560 _ A159.out).mono ?_);rintro e w177 ⟨rfl,hb⟩;refine ⟨_,rfl,?_⟩;replace BK502:=am (bw (by exact BK502.out) hb);replace BK503:=am (bw (by exact BK503.out) hb);replace BK504:=am (bw (by exact BK504.out) hb);replace BK505:=am (bw (by exact BK505.out) hb);replace BK506:=am (bw (by exact BK506.out) hb);replace BK520:=am (bw (by exact BK520.out) hb);replace BK534:=am (bw (by exact BK534.out) hb);replace HB:=am (ss (by repeat (first|(with_reducible first|exact HB.out|apply sa|apply sn|apply sd|refine sy ?_ (by assumption))|exact HB.out)) hb);(try clear hb);(try clear hb2);(try clear hk);(try clear hi))|((with_reducible refine gate_dst (N:=14) rfl ?_);refine box_event ?hg (N:=14) ?hd (cs:=#[.int .i64 0,.int .i64 0]) (t:=25) ?hr ?_;(case hd => rfl);(case hg => rfl);(case hr => first|(go_simp;done)|(go_simp;rfl));intro gb561 hg w178 hbox hb;have BK561:=am (hbox);obtain ⟨h1_,GW561⟩:=sg (by repeat (first|(with_reducible first|exact HB.out|apply sa|apply sn|apply sd|refine sy ?_ (by assumption))|exact HB.out)) hb hg;replace HB:=h1_;clear h1_;have GE561:=GW561;have NB502_561:=nb (by exact BK502.out) hg;replace BK502:=am (bw (by exact BK502.out) hb);have NB561_502:=am (Ne.symm NB502_561.out);have NB503_561:=nb (by exact BK503.out) hg;replace BK503:=am (bw (by exact BK503.out) hb);have NB561_503:=am (Ne.symm NB503_561.out);have NB504_561:=nb (by exact BK504.out) hg;replace BK504:=am (bw (by exact BK504.out) hb);have NB561_504:=am (Ne.symm NB504_561.out);have NB505_561:=nb (by exact BK505.out) hg;replace BK505:=am (bw (by exact BK505.out) hb);have NB561_505:=am (Ne.symm NB505_561.out);have NB506_561:=nb (by exact BK506.out) hg;replace BK506:=am (bw (by exact BK506.out) hb);have NB561_506:=am (Ne.symm NB506_561.out);have NB520_561:=nb (by exact BK520.out) hg;replace BK520:=am (bw (by exact BK520.out) hb);have NB561_520:=am (Ne.symm NB520_561.out);have NB534_561:=nb (by exact BK534.out) hg;have NB561_534:=ng (by exact BK534.out) hg;replace BK534:=am (bw (by exact BK534.out) hb);clear hb hbox hg;have hnb179:=NB561_502.out;have hnc179:=NB502_561.out;have hnb180:=NB561_503.out;have hnc180:=NB503_561.out;have hnb181:=NB561_504.out;have hnc181:=NB504_561.out;have hnb182:=NB561_505.out;have hnc182:=NB505_561.out;have hnb183:=NB561_506.out;have hnc183:=NB506_561.out;have hnb184:=NB561_520.out;have hnc184:=NB520_561.out;have hnb185:=NB561_534.out;have hnc185:=NB534_561.out;have hcz186_0 : w178.cell? ⟨gb561,0,none⟩ = some (.int .i64 0):=(bc BK561.out 0).trans rfl;have hcz186_1 : w178.cell? ⟨gb561,1,none⟩ = some (.int .i64 0):=(bc BK561.out 1).trans rfl;obtain ⟨hfz186_0,hfz186_1⟩:=fq2 BK561.out)|(go_at_call 14;(with_reducible refine (celluloidlaw14_awake.calls kj148  t562 _ A163.out).mono ?_);rintro e w187 ⟨rfl,hb⟩;replace BK502:=am (wz BK502.out (by (with_reducible repeat (first|refine bn ?_ _|refine bd ?_|refine ba ?_ _|refine bf ?_ NB502_561.out _));exact BK502.out) hb);replace BK503:=am (wz BK503.out (by (with_reducible repeat (first|refine bn ?_ _|refine bd ?_|refine ba ?_ _|refine bf ?_ NB503_561.out _));exact BK503.out) hb);replace BK504:=am (wz BK504.out (by (with_reducible repeat (first|refine bn ?_ _|refine bd ?_|refine ba ?_ _|refine bf ?_ NB504_561.out _));exact BK504.out) hb);replace BK505:=am (wz BK505.out (by (with_reducible repeat (first|refine bn ?_ _|refine bd ?_|refine ba ?_ _|refine bf ?_ NB505_561.out _));exact BK505.out) hb);replace BK506:=am (wz BK506.out (by (with_reducible repeat (first|refine bn ?_ _|refine bd ?_|refine ba ?_ _|refine bf ?_ NB506_561.out _));exact BK506.out) hb);replace BK520:=am (wz BK520.out (by (with_reducible repeat (first|refine bn ?_ _|refine bd ?_|refine ba ?_ _|refine bf ?_ NB520_561.out _));exact BK520.out) hb);replace BK534:=am (wz BK534.out (by (with_reducible repeat (first|refine bn ?_ _|refine bd ?_|refine ba ?_ _|refine bf ?_ NB534_561.out _));exact BK534.out) hb);replace BK561:=am (bw (g:=gb561) (o:=.cells #[.int .i64 t558,.int .i64 t559] 25 (0,0)) (by (with_reducible repeat (first|refine bn ?_ _|refine bd ?_|refine ba ?_ _));refine bp (cs:=#[.int .i64 t558,.int .i64 0]) ?_ 1 _ rfl;(with_reducible repeat (first|refine bn ?_ _|refine bd ?_|refine ba ?_ _));refine bp (cs:=#[.int .i64 0,.int .i64 0]) ?_ 0 _ rfl;(with_reducible repeat (first|refine bn ?_ _|refine bd ?_|refine ba ?_ _));exact BK561.out) hb);replace HB:=am (ss (by repeat (first|(with_reducible first|exact HB.out|apply sa|apply sn|apply sd|refine sy ?_ (by assumption))|exact HB.out)) hb);(try clear hb);(try clear hb2);(try clear hk);(try clear hi)))
                          go_ret
                          exact ⟨by first|rfl|(simp [errW_none,errW_some] <;> rfl)|(simp [*,errW_none,errW_some] <;> rfl),by repeat (first|(with_reducible first|exact HB.out|apply sa|apply sn|apply sd|refine sy ?_ (by assumption))|exact HB.out)⟩
                        · rw [if_neg c162] at H
                          have c162b0 : ((Int.tmod t559 2) == 0) = false:=beq_eq_false_iff_ne.mpr c162;have c162b1 : ((Int.tmod t559 2) != 0) = true:=bne_iff_ne.mpr c162;obtain rfl:=Option.some.inj H;have hnb188:=NB502_503.out;have hnc188:=NB503_502.out;have hnb189:=NB502_504.out;have hnc189:=NB504_502.out;have hnb190:=NB502_505.out;have hnc190:=NB505_502.out;have hnb191:=NB502_506.out;have hnc191:=NB506_502.out;have hnb192:=NB502_520.out;have hnc192:=NB520_502.out;have hnb193:=NB502_534.out;have hnc193:=NB534_502.out;have hcz194_0 : wc.cell? ⟨gb502,0,none⟩ = some (.int .i64 a0_0):=(bc BK502.out 0).trans rfl;have hcz194_1 : wc.cell? ⟨gb502,1,none⟩ = some (.int .i64 a0_1):=(bc BK502.out 1).trans rfl;have hcz194_2 : wc.cell? ⟨gb502,2,none⟩ = some (.int .i64 a0_2):=(bc BK502.out 2).trans rfl;have hcz194_3 : wc.cell? ⟨gb502,3,none⟩ = some (.int .i64 a0_3):=(bc BK502.out 3).trans rfl;have hcz194_4 : wc.cell? ⟨gb502,4,none⟩ = some (.int .i64 a0_4):=(bc BK502.out 4).trans rfl;have hcz194_5 : wc.cell? ⟨gb502,5,none⟩ = some (.int .i64 a0_5):=(bc BK502.out 5).trans rfl;have hfz194_0:=bz BK502.out 0;have hfz194_1:=bz BK502.out 1;have hfz194_2:=bz BK502.out 2;have hfz194_3:=bz BK502.out 3;have hfz194_4:=bz BK502.out 4;have hfz194_5:=bz BK502.out 5;have hnb195:=NB505_503.out;have hnc195:=NB503_505.out;have hnb196:=NB505_504.out;have hnc196:=NB504_505.out;have hnb197:=NB505_506.out;have hnc197:=NB506_505.out;have hnb198:=NB505_520.out;have hnc198:=NB520_505.out;have hnb199:=NB505_534.out;have hnc199:=NB534_505.out;have hcz200_0 : wc.cell? ⟨gb505,0,none⟩ = some (.int .i64 a3_0):=(bc BK505.out 0).trans rfl;have hcz200_1 : wc.cell? ⟨gb505,1,none⟩ = some (.int .i64 a3_1):=(bc BK505.out 1).trans rfl;have hfz200_0:=bz BK505.out 0;have hfz200_1:=bz BK505.out 1
                          go_wp2_with (first|((with_reducible refine gate_callee (f:=11) rfl ?_);refine goesL_ (some 78) rfl rfl Try.func11 (by kernel_rfl) rfl #[.agg #[.int .i64 a0_0,.int .i64 a0_1,.int .i64 a0_2,.int .i64 a0_3,.int .i64 a0_4,.int .i64 a0_5],.agg #[.int .i64 a3_0,.int .i64 a3_1]] rfl (by (try simp only [List.map_toArray,List.map_cons,List.map_nil]);first|done|rfl|(simp only [List.length_drop,List.length_take];rfl)) ?_;(with_reducible refine (affine_Grid.calls kj148 a0_0 a0_1 a0_2 a0_3 a0_4 a0_5 a3_0 a3_1 t558 t559 t560 _ A159.out).mono ?_);rintro e w201 ⟨rfl,hb⟩;refine ⟨_,rfl,?_⟩;replace BK502:=am (bw (by exact BK502.out) hb);replace BK503:=am (bw (by exact BK503.out) hb);replace BK504:=am (bw (by exact BK504.out) hb);replace BK505:=am (bw (by exact BK505.out) hb);replace BK506:=am (bw (by exact BK506.out) hb);replace BK520:=am (bw (by exact BK520.out) hb);replace BK534:=am (bw (by exact BK534.out) hb);replace HB:=am (ss (by repeat (first|(with_reducible first|exact HB.out|apply sa|apply sn|apply sd|refine sy ?_ (by assumption))|exact HB.out)) hb);(try clear hb);(try clear hb2);(try clear hk);(try clear hi))|((with_reducible refine gate_dst (N:=14) rfl ?_);refine box_event ?hg (N:=14) ?hd (cs:=#[.int .i64 0,.int .i64 0]) (t:=25) ?hr ?_;(case hd => rfl);(case hg => rfl);(case hr => first|(go_simp;done)|(go_simp;rfl));intro gb561 hg w202 hbox hb;have BK561:=am (hbox);obtain ⟨h1_,GW561⟩:=sg (by repeat (first|(with_reducible first|exact HB.out|apply sa|apply sn|apply sd|refine sy ?_ (by assumption))|exact HB.out)) hb hg;replace HB:=h1_;clear h1_;have GE561:=GW561;have NB502_561:=nb (by exact BK502.out) hg;replace BK502:=am (bw (by exact BK502.out) hb);have NB561_502:=am (Ne.symm NB502_561.out);have NB503_561:=nb (by exact BK503.out) hg;replace BK503:=am (bw (by exact BK503.out) hb);have NB561_503:=am (Ne.symm NB503_561.out);have NB504_561:=nb (by exact BK504.out) hg;replace BK504:=am (bw (by exact BK504.out) hb);have NB561_504:=am (Ne.symm NB504_561.out);have NB505_561:=nb (by exact BK505.out) hg;replace BK505:=am (bw (by exact BK505.out) hb);have NB561_505:=am (Ne.symm NB505_561.out);have NB506_561:=nb (by exact BK506.out) hg;replace BK506:=am (bw (by exact BK506.out) hb);have NB561_506:=am (Ne.symm NB506_561.out);have NB520_561:=nb (by exact BK520.out) hg;replace BK520:=am (bw (by exact BK520.out) hb);have NB561_520:=am (Ne.symm NB520_561.out);have NB534_561:=nb (by exact BK534.out) hg;have NB561_534:=ng (by exact BK534.out) hg;replace BK534:=am (bw (by exact BK534.out) hb);clear hb hbox hg;have hnb203:=NB561_502.out;have hnc203:=NB502_561.out;have hnb204:=NB561_503.out;have hnc204:=NB503_561.out;have hnb205:=NB561_504.out;have hnc205:=NB504_561.out;have hnb206:=NB561_505.out;have hnc206:=NB505_561.out;have hnb207:=NB561_506.out;have hnc207:=NB506_561.out;have hnb208:=NB561_520.out;have hnc208:=NB520_561.out;have hnb209:=NB561_534.out;have hnc209:=NB534_561.out;have hcz210_0 : w202.cell? ⟨gb561,0,none⟩ = some (.int .i64 0):=(bc BK561.out 0).trans rfl;have hcz210_1 : w202.cell? ⟨gb561,1,none⟩ = some (.int .i64 0):=(bc BK561.out 1).trans rfl;obtain ⟨hfz210_0,hfz210_1⟩:=fq2 BK561.out))
                          go_ret
                          exact ⟨by first|rfl|(simp [errW_none,errW_some] <;> rfl)|(simp [*,errW_none,errW_some] <;> rfl),by repeat (first|(with_reducible first|exact HB.out|apply sa|apply sn|apply sd|refine sy ?_ (by assumption))|exact HB.out)⟩
                      · rw [if_neg c161] at H
                        have c161b0 : ((Int.tmod t558 2) == 0) = false:=beq_eq_false_iff_ne.mpr c161;have c161b1 : ((Int.tmod t558 2) != 0) = true:=bne_iff_ne.mpr c161;obtain rfl:=Option.some.inj H;have hnb211:=NB502_503.out;have hnc211:=NB503_502.out;have hnb212:=NB502_504.out;have hnc212:=NB504_502.out;have hnb213:=NB502_505.out;have hnc213:=NB505_502.out;have hnb214:=NB502_506.out;have hnc214:=NB506_502.out;have hnb215:=NB502_520.out;have hnc215:=NB520_502.out;have hnb216:=NB502_534.out;have hnc216:=NB534_502.out;have hcz217_0 : wc.cell? ⟨gb502,0,none⟩ = some (.int .i64 a0_0):=(bc BK502.out 0).trans rfl;have hcz217_1 : wc.cell? ⟨gb502,1,none⟩ = some (.int .i64 a0_1):=(bc BK502.out 1).trans rfl;have hcz217_2 : wc.cell? ⟨gb502,2,none⟩ = some (.int .i64 a0_2):=(bc BK502.out 2).trans rfl;have hcz217_3 : wc.cell? ⟨gb502,3,none⟩ = some (.int .i64 a0_3):=(bc BK502.out 3).trans rfl;have hcz217_4 : wc.cell? ⟨gb502,4,none⟩ = some (.int .i64 a0_4):=(bc BK502.out 4).trans rfl;have hcz217_5 : wc.cell? ⟨gb502,5,none⟩ = some (.int .i64 a0_5):=(bc BK502.out 5).trans rfl;have hfz217_0:=bz BK502.out 0;have hfz217_1:=bz BK502.out 1;have hfz217_2:=bz BK502.out 2;have hfz217_3:=bz BK502.out 3;have hfz217_4:=bz BK502.out 4;have hfz217_5:=bz BK502.out 5;have hnb218:=NB505_503.out;have hnc218:=NB503_505.out;have hnb219:=NB505_504.out;have hnc219:=NB504_505.out;have hnb220:=NB505_506.out;have hnc220:=NB506_505.out;have hnb221:=NB505_520.out;have hnc221:=NB520_505.out;have hnb222:=NB505_534.out;have hnc222:=NB534_505.out;have hcz223_0 : wc.cell? ⟨gb505,0,none⟩ = some (.int .i64 a3_0):=(bc BK505.out 0).trans rfl;have hcz223_1 : wc.cell? ⟨gb505,1,none⟩ = some (.int .i64 a3_1):=(bc BK505.out 1).trans rfl;have hfz223_0:=bz BK505.out 0;have hfz223_1:=bz BK505.out 1
                        go_wp2_with (first|((with_reducible refine gate_callee (f:=11) rfl ?_);refine goesL_ (some 78) rfl rfl Try.func11 (by kernel_rfl) rfl #[.agg #[.int .i64 a0_0,.int .i64 a0_1,.int .i64 a0_2,.int .i64 a0_3,.int .i64 a0_4,.int .i64 a0_5],.agg #[.int .i64 a3_0,.int .i64 a3_1]] rfl (by (try simp only [List.map_toArray,List.map_cons,List.map_nil]);first|done|rfl|(simp only [List.length_drop,List.length_take];rfl)) ?_;(with_reducible refine (affine_Grid.calls kj148 a0_0 a0_1 a0_2 a0_3 a0_4 a0_5 a3_0 a3_1 t558 t559 t560 _ A159.out).mono ?_);rintro e w224 ⟨rfl,hb⟩;refine ⟨_,rfl,?_⟩;replace BK502:=am (bw (by exact BK502.out) hb);replace BK503:=am (bw (by exact BK503.out) hb);replace BK504:=am (bw (by exact BK504.out) hb);replace BK505:=am (bw (by exact BK505.out) hb);replace BK506:=am (bw (by exact BK506.out) hb);replace BK520:=am (bw (by exact BK520.out) hb);replace BK534:=am (bw (by exact BK534.out) hb);replace HB:=am (ss (by repeat (first|(with_reducible first|exact HB.out|apply sa|apply sn|apply sd|refine sy ?_ (by assumption))|exact HB.out)) hb);(try clear hb);(try clear hb2);(try clear hk);(try clear hi))|((with_reducible refine gate_dst (N:=14) rfl ?_);refine box_event ?hg (N:=14) ?hd (cs:=#[.int .i64 0,.int .i64 0]) (t:=25) ?hr ?_;(case hd => rfl);(case hg => rfl);(case hr => first|(go_simp;done)|(go_simp;rfl));intro gb561 hg w225 hbox hb;have BK561:=am (hbox);obtain ⟨h1_,GW561⟩:=sg (by repeat (first|(with_reducible first|exact HB.out|apply sa|apply sn|apply sd|refine sy ?_ (by assumption))|exact HB.out)) hb hg;replace HB:=h1_;clear h1_;have GE561:=GW561;have NB502_561:=nb (by exact BK502.out) hg;replace BK502:=am (bw (by exact BK502.out) hb);have NB561_502:=am (Ne.symm NB502_561.out);have NB503_561:=nb (by exact BK503.out) hg;replace BK503:=am (bw (by exact BK503.out) hb);have NB561_503:=am (Ne.symm NB503_561.out);have NB504_561:=nb (by exact BK504.out) hg;replace BK504:=am (bw (by exact BK504.out) hb);have NB561_504:=am (Ne.symm NB504_561.out);have NB505_561:=nb (by exact BK505.out) hg;replace BK505:=am (bw (by exact BK505.out) hb);have NB561_505:=am (Ne.symm NB505_561.out);have NB506_561:=nb (by exact BK506.out) hg;replace BK506:=am (bw (by exact BK506.out) hb);have NB561_506:=am (Ne.symm NB506_561.out);have NB520_561:=nb (by exact BK520.out) hg;replace BK520:=am (bw (by exact BK520.out) hb);have NB561_520:=am (Ne.symm NB520_561.out);have NB534_561:=nb (by exact BK534.out) hg;have NB561_534:=ng (by exact BK534.out) hg;replace BK534:=am (bw (by exact BK534.out) hb);clear hb hbox hg;have hnb226:=NB561_502.out;have hnc226:=NB502_561.out;have hnb227:=NB561_503.out;have hnc227:=NB503_561.out;have hnb228:=NB561_504.out;have hnc228:=NB504_561.out;have hnb229:=NB561_505.out;have hnc229:=NB505_561.out;have hnb230:=NB561_506.out;have hnc230:=NB506_561.out;have hnb231:=NB561_520.out;have hnc231:=NB520_561.out;have hnb232:=NB561_534.out;have hnc232:=NB534_561.out;have hcz233_0 : w225.cell? ⟨gb561,0,none⟩ = some (.int .i64 0):=(bc BK561.out 0).trans rfl;have hcz233_1 : w225.cell? ⟨gb561,1,none⟩ = some (.int .i64 0):=(bc BK561.out 1).trans rfl;obtain ⟨hfz233_0,hfz233_1⟩:=fq2 BK561.out))
                        go_ret
                        exact ⟨by first|rfl|(simp [errW_none,errW_some] <;> rfl)|(simp [*,errW_none,errW_some] <;> rfl),by repeat (first|(with_reducible first|exact HB.out|apply sa|apply sn|apply sd|refine sy ?_ (by assumption))|exact HB.out)⟩
                    · rw [if_neg c160] at H
                      have c160b0 : (t560 == 0) = false:=beq_eq_false_iff_ne.mpr c160;have c160b1 : (t560 != 0) = true:=bne_iff_ne.mpr c160;replace H:=Option.bind_eq_some_iff.mp H;obtain ⟨t563,A2340,H⟩:=H;replace H : (some t563) = some r:=H;have A234:=am A2340;clear A2340;obtain rfl:=Option.some.inj H;have hnb235:=NB502_503.out;have hnc235:=NB503_502.out;have hnb236:=NB502_504.out;have hnc236:=NB504_502.out;have hnb237:=NB502_505.out;have hnc237:=NB505_502.out;have hnb238:=NB502_506.out;have hnc238:=NB506_502.out;have hnb239:=NB502_520.out;have hnc239:=NB520_502.out;have hnb240:=NB502_534.out;have hnc240:=NB534_502.out;have hcz241_0 : wc.cell? ⟨gb502,0,none⟩ = some (.int .i64 a0_0):=(bc BK502.out 0).trans rfl;have hcz241_1 : wc.cell? ⟨gb502,1,none⟩ = some (.int .i64 a0_1):=(bc BK502.out 1).trans rfl;have hcz241_2 : wc.cell? ⟨gb502,2,none⟩ = some (.int .i64 a0_2):=(bc BK502.out 2).trans rfl;have hcz241_3 : wc.cell? ⟨gb502,3,none⟩ = some (.int .i64 a0_3):=(bc BK502.out 3).trans rfl;have hcz241_4 : wc.cell? ⟨gb502,4,none⟩ = some (.int .i64 a0_4):=(bc BK502.out 4).trans rfl;have hcz241_5 : wc.cell? ⟨gb502,5,none⟩ = some (.int .i64 a0_5):=(bc BK502.out 5).trans rfl;have hfz241_0:=bz BK502.out 0;have hfz241_1:=bz BK502.out 1;have hfz241_2:=bz BK502.out 2;have hfz241_3:=bz BK502.out 3;have hfz241_4:=bz BK502.out 4;have hfz241_5:=bz BK502.out 5;have hnb242:=NB505_503.out;have hnc242:=NB503_505.out;have hnb243:=NB505_504.out;have hnc243:=NB504_505.out;have hnb244:=NB505_506.out;have hnc244:=NB506_505.out;have hnb245:=NB505_520.out;have hnc245:=NB520_505.out;have hnb246:=NB505_534.out;have hnc246:=NB534_505.out;have hcz247_0 : wc.cell? ⟨gb505,0,none⟩ = some (.int .i64 a3_0):=(bc BK505.out 0).trans rfl;have hcz247_1 : wc.cell? ⟨gb505,1,none⟩ = some (.int .i64 a3_1):=(bc BK505.out 1).trans rfl;have hfz247_0:=bz BK505.out 0;have hfz247_1:=bz BK505.out 1
                      go_wp2_with (first|((with_reducible refine gate_callee (f:=11) rfl ?_);refine goesL_ (some 78) rfl rfl Try.func11 (by kernel_rfl) rfl #[.agg #[.int .i64 a0_0,.int .i64 a0_1,.int .i64 a0_2,.int .i64 a0_3,.int .i64 a0_4,.int .i64 a0_5],.agg #[.int .i64 a3_0,.int .i64 a3_1]] rfl (by (try simp only [List.map_toArray,List.map_cons,List.map_nil]);first|done|rfl|(simp only [List.length_drop,List.length_take];rfl)) ?_;(with_reducible refine (affine_Grid.calls kj148 a0_0 a0_1 a0_2 a0_3 a0_4 a0_5 a3_0 a3_1 t558 t559 t560 _ A159.out).mono ?_);rintro e w248 ⟨rfl,hb⟩;refine ⟨_,rfl,?_⟩;replace BK502:=am (bw (by exact BK502.out) hb);replace BK503:=am (bw (by exact BK503.out) hb);replace BK504:=am (bw (by exact BK504.out) hb);replace BK505:=am (bw (by exact BK505.out) hb);replace BK506:=am (bw (by exact BK506.out) hb);replace BK520:=am (bw (by exact BK520.out) hb);replace BK534:=am (bw (by exact BK534.out) hb);replace HB:=am (ss (by repeat (first|(with_reducible first|exact HB.out|apply sa|apply sn|apply sd|refine sy ?_ (by assumption))|exact HB.out)) hb);(try clear hb);(try clear hb2);(try clear hk);(try clear hi))|((with_reducible refine gate_dst (N:=14) rfl ?_);refine box_event ?hg (N:=14) ?hd (cs:=#[.int .i64 0,.int .i64 0]) (t:=25) ?hr ?_;(case hd => rfl);(case hg => rfl);(case hr => first|(go_simp;done)|(go_simp;rfl));intro gb561 hg w249 hbox hb;have BK561:=am (hbox);obtain ⟨h1_,GW561⟩:=sg (by repeat (first|(with_reducible first|exact HB.out|apply sa|apply sn|apply sd|refine sy ?_ (by assumption))|exact HB.out)) hb hg;replace HB:=h1_;clear h1_;have GE561:=GW561;have NB502_561:=nb (by exact BK502.out) hg;replace BK502:=am (bw (by exact BK502.out) hb);have NB561_502:=am (Ne.symm NB502_561.out);have NB503_561:=nb (by exact BK503.out) hg;replace BK503:=am (bw (by exact BK503.out) hb);have NB561_503:=am (Ne.symm NB503_561.out);have NB504_561:=nb (by exact BK504.out) hg;replace BK504:=am (bw (by exact BK504.out) hb);have NB561_504:=am (Ne.symm NB504_561.out);have NB505_561:=nb (by exact BK505.out) hg;replace BK505:=am (bw (by exact BK505.out) hb);have NB561_505:=am (Ne.symm NB505_561.out);have NB506_561:=nb (by exact BK506.out) hg;replace BK506:=am (bw (by exact BK506.out) hb);have NB561_506:=am (Ne.symm NB506_561.out);have NB520_561:=nb (by exact BK520.out) hg;replace BK520:=am (bw (by exact BK520.out) hb);have NB561_520:=am (Ne.symm NB520_561.out);have NB534_561:=nb (by exact BK534.out) hg;have NB561_534:=ng (by exact BK534.out) hg;replace BK534:=am (bw (by exact BK534.out) hb);clear hb hbox hg;have hnb250:=NB561_502.out;have hnc250:=NB502_561.out;have hnb251:=NB561_503.out;have hnc251:=NB503_561.out;have hnb252:=NB561_504.out;have hnc252:=NB504_561.out;have hnb253:=NB561_505.out;have hnc253:=NB505_561.out;have hnb254:=NB561_506.out;have hnc254:=NB506_561.out;have hnb255:=NB561_520.out;have hnc255:=NB520_561.out;have hnb256:=NB561_534.out;have hnc256:=NB534_561.out;have hcz257_0 : w249.cell? ⟨gb561,0,none⟩ = some (.int .i64 0):=(bc BK561.out 0).trans rfl;have hcz257_1 : w249.cell? ⟨gb561,1,none⟩ = some (.int .i64 0):=(bc BK561.out 1).trans rfl;obtain ⟨hfz257_0,hfz257_1⟩:=fq2 BK561.out)|(go_at_call 14;(with_reducible refine (celluloidlaw14_awake.calls kj148  t563 _ A234.out).mono ?_);rintro e w258 ⟨rfl,hb⟩;replace BK502:=am (wz BK502.out (by (with_reducible repeat (first|refine bn ?_ _|refine bd ?_|refine ba ?_ _|refine bf ?_ NB502_561.out _));exact BK502.out) hb);replace BK503:=am (wz BK503.out (by (with_reducible repeat (first|refine bn ?_ _|refine bd ?_|refine ba ?_ _|refine bf ?_ NB503_561.out _));exact BK503.out) hb);replace BK504:=am (wz BK504.out (by (with_reducible repeat (first|refine bn ?_ _|refine bd ?_|refine ba ?_ _|refine bf ?_ NB504_561.out _));exact BK504.out) hb);replace BK505:=am (wz BK505.out (by (with_reducible repeat (first|refine bn ?_ _|refine bd ?_|refine ba ?_ _|refine bf ?_ NB505_561.out _));exact BK505.out) hb);replace BK506:=am (wz BK506.out (by (with_reducible repeat (first|refine bn ?_ _|refine bd ?_|refine ba ?_ _|refine bf ?_ NB506_561.out _));exact BK506.out) hb);replace BK520:=am (wz BK520.out (by (with_reducible repeat (first|refine bn ?_ _|refine bd ?_|refine ba ?_ _|refine bf ?_ NB520_561.out _));exact BK520.out) hb);replace BK534:=am (wz BK534.out (by (with_reducible repeat (first|refine bn ?_ _|refine bd ?_|refine ba ?_ _|refine bf ?_ NB534_561.out _));exact BK534.out) hb);replace BK561:=am (bw (g:=gb561) (o:=.cells #[.int .i64 t558,.int .i64 t559] 25 (0,0)) (by (with_reducible repeat (first|refine bn ?_ _|refine bd ?_|refine ba ?_ _));refine bp (cs:=#[.int .i64 t558,.int .i64 0]) ?_ 1 _ rfl;(with_reducible repeat (first|refine bn ?_ _|refine bd ?_|refine ba ?_ _));refine bp (cs:=#[.int .i64 0,.int .i64 0]) ?_ 0 _ rfl;(with_reducible repeat (first|refine bn ?_ _|refine bd ?_|refine ba ?_ _));exact BK561.out) hb);replace HB:=am (ss (by repeat (first|(with_reducible first|exact HB.out|apply sa|apply sn|apply sd|refine sy ?_ (by assumption))|exact HB.out)) hb);(try clear hb);(try clear hb2);(try clear hk);(try clear hi)))
                      go_ret
                      exact ⟨by first|rfl|(simp [errW_none,errW_some] <;> rfl)|(simp [*,errW_none,errW_some] <;> rfl),by repeat (first|(with_reducible first|exact HB.out|apply sa|apply sn|apply sd|refine sy ?_ (by assumption))|exact HB.out)⟩

end Go.Proofs.Ytaognlikgbcejaa.P
