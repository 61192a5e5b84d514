/- Printed by printx.py (wip/tool) out of the translation: plain functions that tell what the program answers, and the proofs that the program comes to these answers, for all arguments of their kinds. Lean checks it. -/
import Derived.Test.YtlldbmodidhidaaShort
import Derived.Test.YtlldbmodidhidaaPx0
import Derived.Test.YtlldbmodidhidaaPx1
import Derived.Test.YtlldbmodidhidaaPx8
import Derived.Test.YtlldbmodidhidaaPx16
import Derived.Test.YtlldbmodidhidaaPx17
namespace Go.Proofs.Ytlldbmodidhidaa.P
open Go.RowKit Go.Proofs.YtlldbmodidhidaaW.PrintWords Go.Proofs.YtlldbmodidhidaaW.PrintLast Go.Proofs.YtlldbmodidhidaaW.PrintMore
attribute [local go_sem] max2_int min2_int max_two min_two max_three min_three max_four min_four max_five min_five max_six min_six   -- for this text's walks alone
set_option linter.unusedVariables false
set_option linter.unusedSimpArgs false

attribute [local go_sem high] eqA47
/-! ### celluloidlaw15_EdgeGoes: function 4 -/
mutual
def celluloidlaw15_EdgeGoes.l0 : Nat → Int → List (S49) → Int → Int → List (S65) → List (S79) → List (S51) → Int → Int → Option (Bool)
  | 0,_,_,_,_,_,_,_,_,_ => none
  | k + 1,x6,x30,x31,x32,x444000,x444001,x444002,x446000,x446001 => if x32 < x31 then (if 0 ≤ x32 then (if x32 < (x30.length : Int) then (if ((rd_T49 x30 x32).f0) = 1 then (celluloidlaw15_EdgeGoes.j1 k x6 x30 x31 x32 x444000 x444001 x444002 ((rd_T49 x30 x32).f1) ((rd_T49 x30 x32).f2) ((rd_T49 x30 x32).f0) ((rd_T49 x30 x32).f1) ((rd_T49 x30 x32).f2) ((rd_T49 x30 x32).f3) ((rd_T49 x30 x32).f4) ((rd_T49 x30 x32).f5) ((rd_T49 x30 x32).f6) ((rd_T49 x30 x32).f7) ((rd_T49 x30 x32).f8) ((rd_T49 x30 x32).f9)) else (celluloidlaw15_EdgeGoes.j1 k x6 x30 x31 x32 x444000 x444001 x444002 x446000 x446001 ((rd_T49 x30 x32).f0) ((rd_T49 x30 x32).f1) ((rd_T49 x30 x32).f2) ((rd_T49 x30 x32).f3) ((rd_T49 x30 x32).f4) ((rd_T49 x30 x32).f5) ((rd_T49 x30 x32).f6) ((rd_T49 x30 x32).f7) ((rd_T49 x30 x32).f8) ((rd_T49 x30 x32).f9))) else (none)) else (none)) else (if x6 = (x444002.length : Int) then ((celluloidlaw15_awake.f k).bind fun t446 => (some t446)) else (some false))
def celluloidlaw15_EdgeGoes.j1 : Nat → Int → List (S49) → Int → Int → List (S65) → List (S79) → List (S51) → Int → Int → Int → Int → Int → Int → Int → Int → Int → Int → List (S65) → List (S79) → Option (Bool)
  | 0,_,_,_,_,_,_,_,_,_,_,_,_,_,_,_,_,_,_,_ => none
  | k + 1,x6,x30,x31,x32,x444000,x444001,x444002,x446000,x446001,x449000,x449001,x449002,x449003,x449004,x449005,x449006,x449007,x449008,x449009 => if x449000 = 4 then (celluloidlaw15_EdgeGoes.j2 k x6 x30 x31 x32 false x444000 x444001 x444002 x446000 x446001 x449000 x449001 x449002 x449003 x449004 x449005 x449006 x449007 x449008 x449009) else (celluloidlaw15_EdgeGoes.j2 k x6 x30 x31 x32 (x449000 != 5) x444000 x444001 x444002 x446000 x446001 x449000 x449001 x449002 x449003 x449004 x449005 x449006 x449007 x449008 x449009)
def celluloidlaw15_EdgeGoes.j2 : Nat → Int → List (S49) → Int → Int → Bool → List (S65) → List (S79) → List (S51) → Int → Int → Int → Int → Int → Int → Int → Int → Int → Int → List (S65) → List (S79) → Option (Bool)
  | 0,_,_,_,_,_,_,_,_,_,_,_,_,_,_,_,_,_,_,_,_ => none
  | k + 1,x6,x30,x31,x32,x51,x444000,x444001,x444002,x446000,x446001,x449000,x449001,x449002,x449003,x449004,x449005,x449006,x449007,x449008,x449009 => if x51 = true then (celluloidlaw15_EdgeGoes.l0 k x6 x30 x31 (wrap64 (x32 + 1)) x444000 x444001 x444002 x446000 x446001) else (if x6 ≥ (x444002.length : Int) then (some false) else (if 0 ≤ x6 then (if x6 < (x444002.length : Int) then (if (!(((rd_T51 x444002 x6).f0.f0) == x446000) || (!(((rd_T51 x444002 x6).f0.f1) == x446001))) = true then (celluloidlaw15_EdgeGoes.j3 k (wrap64 (x6 + 1)) x30 x31 x32 true x444000 x444001 x444002 x449000 x449001 x449002 x449003 x449004 x449005 x449006 x449007 x449008 x449009 ((rd_T51 x444002 x6).f0.f0) ((rd_T51 x444002 x6).f0.f1) ((rd_T51 x444002 x6).f1.f0) ((rd_T51 x444002 x6).f1.f1) ((rd_T51 x444002 x6).f2.f0) ((rd_T51 x444002 x6).f2.f1) ((rd_T51 x444002 x6).f3) ((rd_T51 x444002 x6).f4) ((rd_T51 x444002 x6).f5) ((rd_T51 x444002 x6).f6)) else (if (((rd_T51 x444002 x6).f3) != (x449000 == 5)) = true then (celluloidlaw15_EdgeGoes.j3 k (wrap64 (x6 + 1)) x30 x31 x32 true x444000 x444001 x444002 x449000 x449001 x449002 x449003 x449004 x449005 x449006 x449007 x449008 x449009 ((rd_T51 x444002 x6).f0.f0) ((rd_T51 x444002 x6).f0.f1) ((rd_T51 x444002 x6).f1.f0) ((rd_T51 x444002 x6).f1.f1) ((rd_T51 x444002 x6).f2.f0) ((rd_T51 x444002 x6).f2.f1) ((rd_T51 x444002 x6).f3) ((rd_T51 x444002 x6).f4) ((rd_T51 x444002 x6).f5) ((rd_T51 x444002 x6).f6)) else (if ((rd_T51 x444002 x6).f4) < 0 then (celluloidlaw15_EdgeGoes.j3 k (wrap64 (x6 + 1)) x30 x31 x32 true x444000 x444001 x444002 x449000 x449001 x449002 x449003 x449004 x449005 x449006 x449007 x449008 x449009 ((rd_T51 x444002 x6).f0.f0) ((rd_T51 x444002 x6).f0.f1) ((rd_T51 x444002 x6).f1.f0) ((rd_T51 x444002 x6).f1.f1) ((rd_T51 x444002 x6).f2.f0) ((rd_T51 x444002 x6).f2.f1) ((rd_T51 x444002 x6).f3) ((rd_T51 x444002 x6).f4) ((rd_T51 x444002 x6).f5) ((rd_T51 x444002 x6).f6)) else (if ((rd_T51 x444002 x6).f5) < 0 then (celluloidlaw15_EdgeGoes.j3 k (wrap64 (x6 + 1)) x30 x31 x32 true x444000 x444001 x444002 x449000 x449001 x449002 x449003 x449004 x449005 x449006 x449007 x449008 x449009 ((rd_T51 x444002 x6).f0.f0) ((rd_T51 x444002 x6).f0.f1) ((rd_T51 x444002 x6).f1.f0) ((rd_T51 x444002 x6).f1.f1) ((rd_T51 x444002 x6).f2.f0) ((rd_T51 x444002 x6).f2.f1) ((rd_T51 x444002 x6).f3) ((rd_T51 x444002 x6).f4) ((rd_T51 x444002 x6).f5) ((rd_T51 x444002 x6).f6)) else (if ((rd_T51 x444002 x6).f6) < 0 then (celluloidlaw15_EdgeGoes.j3 k (wrap64 (x6 + 1)) x30 x31 x32 true x444000 x444001 x444002 x449000 x449001 x449002 x449003 x449004 x449005 x449006 x449007 x449008 x449009 ((rd_T51 x444002 x6).f0.f0) ((rd_T51 x444002 x6).f0.f1) ((rd_T51 x444002 x6).f1.f0) ((rd_T51 x444002 x6).f1.f1) ((rd_T51 x444002 x6).f2.f0) ((rd_T51 x444002 x6).f2.f1) ((rd_T51 x444002 x6).f3) ((rd_T51 x444002 x6).f4) ((rd_T51 x444002 x6).f5) ((rd_T51 x444002 x6).f6)) else (if (mx ((rd_T51 x444002 x6).f4) ((rd_T51 x444002 x6).f5)) > (x444000.length : Int) then (celluloidlaw15_EdgeGoes.j3 k (wrap64 (x6 + 1)) x30 x31 x32 true x444000 x444001 x444002 x449000 x449001 x449002 x449003 x449004 x449005 x449006 x449007 x449008 x449009 ((rd_T51 x444002 x6).f0.f0) ((rd_T51 x444002 x6).f0.f1) ((rd_T51 x444002 x6).f1.f0) ((rd_T51 x444002 x6).f1.f1) ((rd_T51 x444002 x6).f2.f0) ((rd_T51 x444002 x6).f2.f1) ((rd_T51 x444002 x6).f3) ((rd_T51 x444002 x6).f4) ((rd_T51 x444002 x6).f5) ((rd_T51 x444002 x6).f6)) else (if ((rd_T51 x444002 x6).f6) > (x444001.length : Int) then (celluloidlaw15_EdgeGoes.j3 k (wrap64 (x6 + 1)) x30 x31 x32 true x444000 x444001 x444002 x449000 x449001 x449002 x449003 x449004 x449005 x449006 x449007 x449008 x449009 ((rd_T51 x444002 x6).f0.f0) ((rd_T51 x444002 x6).f0.f1) ((rd_T51 x444002 x6).f1.f0) ((rd_T51 x444002 x6).f1.f1) ((rd_T51 x444002 x6).f2.f0) ((rd_T51 x444002 x6).f2.f1) ((rd_T51 x444002 x6).f3) ((rd_T51 x444002 x6).f4) ((rd_T51 x444002 x6).f5) ((rd_T51 x444002 x6).f6)) else (if ((rd_T51 x444002 x6).f3 = true) then (celluloidlaw15_EdgeGoes.j3 k (wrap64 (x6 + 1)) x30 x31 x32 false x444000 x444001 x444002 x449000 x449001 x449002 x449003 x449004 x449005 x449006 x449007 x449008 x449009 ((rd_T51 x444002 x6).f0.f0) ((rd_T51 x444002 x6).f0.f1) ((rd_T51 x444002 x6).f1.f0) ((rd_T51 x444002 x6).f1.f1) ((rd_T51 x444002 x6).f2.f0) ((rd_T51 x444002 x6).f2.f1) ((rd_T51 x444002 x6).f3) ((rd_T51 x444002 x6).f4) ((rd_T51 x444002 x6).f5) ((rd_T51 x444002 x6).f6)) else (celluloidlaw15_EdgeGoes.j3 k (wrap64 (x6 + 1)) x30 x31 x32 (!(((rd_T51 x444002 x6).f1.f0) == 0) || (!(((rd_T51 x444002 x6).f1.f1) == 0))) x444000 x444001 x444002 x449000 x449001 x449002 x449003 x449004 x449005 x449006 x449007 x449008 x449009 ((rd_T51 x444002 x6).f0.f0) ((rd_T51 x444002 x6).f0.f1) ((rd_T51 x444002 x6).f1.f0) ((rd_T51 x444002 x6).f1.f1) ((rd_T51 x444002 x6).f2.f0) ((rd_T51 x444002 x6).f2.f1) ((rd_T51 x444002 x6).f3) ((rd_T51 x444002 x6).f4) ((rd_T51 x444002 x6).f5) ((rd_T51 x444002 x6).f6)))))))))) else (none)) else (none)))
def celluloidlaw15_EdgeGoes.j3 : Nat → Int → List (S49) → Int → Int → Bool → List (S65) → List (S79) → List (S51) → Int → Int → Int → Int → Int → Int → Int → Int → List (S65) → List (S79) → Int → Int → Int → Int → Int → Int → Bool → Int → Int → Int → Option (Bool)
  | 0,_,_,_,_,_,_,_,_,_,_,_,_,_,_,_,_,_,_,_,_,_,_,_,_,_,_,_,_ => none
  | k + 1,x6,x30,x31,x32,x120,x444000,x444001,x444002,x449000,x449001,x449002,x449003,x449004,x449005,x449006,x449007,x449008,x449009,x451000,x451001,x451002,x451003,x451004,x451005,x451006,x451007,x451008,x451009 => if x120 = true then (some false) else (if (wrap64 (x451004 - x451000)) = (wrap64 (x449003 + x449001)) then (if (wrap64 (x451005 - x451001)) = (wrap64 (x449004 + x449002)) then (celluloidlaw15_EdgeGoes.l0 k x6 x30 x31 (wrap64 (x32 + 1)) x444000 x444001 x444002 x451004 x451005) else (some false)) else (some false))
end
def celluloidlaw15_EdgeGoes.f (k : Nat) (a0_0 : Int) (a0_1 : Int) (a0_2 : Int) (a0_3 : Int) (a0_4 : Int) (l0_5 : List (S65)) (l0_6 : List (S79)) (l0_7 : List (S49)) : Option (Bool):=(celluloidlaw15_small.f k a0_0 a0_1 a0_2 a0_3 a0_4 l0_5 l0_6 l0_7).bind fun t431 => (if t431 = true then ((edge_Of.f k a0_0 a0_1 a0_2 a0_3 a0_4 l0_5 l0_6 l0_7).bind fun bt433 => (if bt433.2.2.2 = 0 then (celluloidlaw15_EdgeGoes.l0 k 0 l0_7 (l0_7.length : Int) 0 bt433.1 bt433.2.1 bt433.2.2.1 0 0) else (if (bt433.2.2.1.length : Int) = 0 then ((celluloidlaw15_awake.f k).bind fun t444 => (some t444)) else (some false)))) else ((celluloidlaw15_awake.f k).bind fun t432 => (some t432)))
theorem celluloidlaw15_EdgeGoes.mono_l : ∀ k,(∀ y0 y1 y2 y3 y4 y5 y6 y7 y8,LeO (celluloidlaw15_EdgeGoes.l0 k y0 y1 y2 y3 y4 y5 y6 y7 y8) (celluloidlaw15_EdgeGoes.l0 (k + 1) y0 y1 y2 y3 y4 y5 y6 y7 y8)) ∧ (∀ y0 y1 y2 y3 y4 y5 y6 y7 y8 y9 y10 y11 y12 y13 y14 y15 y16 y17 y18,LeO (celluloidlaw15_EdgeGoes.j1 k y0 y1 y2 y3 y4 y5 y6 y7 y8 y9 y10 y11 y12 y13 y14 y15 y16 y17 y18) (celluloidlaw15_EdgeGoes.j1 (k + 1) y0 y1 y2 y3 y4 y5 y6 y7 y8 y9 y10 y11 y12 y13 y14 y15 y16 y17 y18)) ∧ (∀ y0 y1 y2 y3 y4 y5 y6 y7 y8 y9 y10 y11 y12 y13 y14 y15 y16 y17 y18 y19,LeO (celluloidlaw15_EdgeGoes.j2 k y0 y1 y2 y3 y4 y5 y6 y7 y8 y9 y10 y11 y12 y13 y14 y15 y16 y17 y18 y19) (celluloidlaw15_EdgeGoes.j2 (k + 1) y0 y1 y2 y3 y4 y5 y6 y7 y8 y9 y10 y11 y12 y13 y14 y15 y16 y17 y18 y19)) ∧ (∀ y0 y1 y2 y3 y4 y5 y6 y7 y8 y9 y10 y11 y12 y13 y14 y15 y16 y17 y18 y19 y20 y21 y22 y23 y24 y25 y26 y27,LeO (celluloidlaw15_EdgeGoes.j3 k y0 y1 y2 y3 y4 y5 y6 y7 y8 y9 y10 y11 y12 y13 y14 y15 y16 y17 y18 y19 y20 y21 y22 y23 y24 y25 y26 y27) (celluloidlaw15_EdgeGoes.j3 (k + 1) y0 y1 y2 y3 y4 y5 y6 y7 y8 y9 y10 y11 y12 y13 y14 y15 y16 y17 y18 y19 y20 y21 y22 y23 y24 y25 y26 y27))
  | 0 => ⟨fun _ _ _ _ _ _ _ _ _ r h => by simp [celluloidlaw15_EdgeGoes.l0] at h,fun _ _ _ _ _ _ _ _ _ _ _ _ _ _ _ _ _ _ _ r h => by simp [celluloidlaw15_EdgeGoes.j1] at h,fun _ _ _ _ _ _ _ _ _ _ _ _ _ _ _ _ _ _ _ _ r h => by simp [celluloidlaw15_EdgeGoes.j2] at h,fun _ _ _ _ _ _ _ _ _ _ _ _ _ _ _ _ _ _ _ _ _ _ _ _ _ _ _ _ r h => by simp [celluloidlaw15_EdgeGoes.j3] at h⟩
  | k + 1 => by
    obtain ⟨ih0,ih1,ih2,ih3⟩:=celluloidlaw15_EdgeGoes.mono_l k;refine ⟨?_,?_,?_,?_⟩
    · intro y0 y1 y2 y3 y4 y5 y6 y7 y8
      unfold celluloidlaw15_EdgeGoes.l0
      repeat' first
      | (with_reducible exact ih0 _ _ _ _ _ _ _ _ _)
      | (with_reducible exact ih1 _ _ _ _ _ _ _ _ _ _ _ _ _ _ _ _ _ _ _)
      | (with_reducible exact ih2 _ _ _ _ _ _ _ _ _ _ _ _ _ _ _ _ _ _ _ _)
      | (with_reducible exact ih3 _ _ _ _ _ _ _ _ _ _ _ _ _ _ _ _ _ _ _ _ _ _ _ _ _ _ _ _)
      | (with_reducible exact celluloidlaw15_awake.mono _)
      | (with_reducible exact celluloidlaw15_small.mono _ _ _ _ _ _ _ _ _)
      | (with_reducible exact edge_Of.mono _ _ _ _ _ _ _ _ _)
      | (with_reducible exact LeO.refl _)
      | (with_reducible exact LeO.none _)
      | (with_reducible refine LeO.ite ?_ ?_)
      | (with_reducible refine LeO.bind ?_ (fun _ => ?_))
      | exact ih0 _ _ _ _ _ _ _ _ _
      | exact ih1 _ _ _ _ _ _ _ _ _ _ _ _ _ _ _ _ _ _ _
      | exact ih2 _ _ _ _ _ _ _ _ _ _ _ _ _ _ _ _ _ _ _ _
      | exact ih3 _ _ _ _ _ _ _ _ _ _ _ _ _ _ _ _ _ _ _ _ _ _ _ _ _ _ _ _
      | exact celluloidlaw15_awake.mono _
      | exact celluloidlaw15_small.mono _ _ _ _ _ _ _ _ _
      | exact edge_Of.mono _ _ _ _ _ _ _ _ _
      | exact LeO.none _
      | refine LeO.ite ?_ ?_
      | refine LeO.bind ?_ (fun _ => ?_)
    · intro y0 y1 y2 y3 y4 y5 y6 y7 y8 y9 y10 y11 y12 y13 y14 y15 y16 y17 y18
      unfold celluloidlaw15_EdgeGoes.j1
      repeat' first
      | (with_reducible exact ih0 _ _ _ _ _ _ _ _ _)
      | (with_reducible exact ih1 _ _ _ _ _ _ _ _ _ _ _ _ _ _ _ _ _ _ _)
      | (with_reducible exact ih2 _ _ _ _ _ _ _ _ _ _ _ _ _ _ _ _ _ _ _ _)
      | (with_reducible exact ih3 _ _ _ _ _ _ _ _ _ _ _ _ _ _ _ _ _ _ _ _ _ _ _ _ _ _ _ _)
      | (with_reducible exact celluloidlaw15_awake.mono _)
      | (with_reducible exact celluloidlaw15_small.mono _ _ _ _ _ _ _ _ _)
      | (with_reducible exact edge_Of.mono _ _ _ _ _ _ _ _ _)
      | (with_reducible exact LeO.refl _)
      | (with_reducible exact LeO.none _)
      | (with_reducible refine LeO.ite ?_ ?_)
      | (with_reducible refine LeO.bind ?_ (fun _ => ?_))
      | exact ih0 _ _ _ _ _ _ _ _ _
      | exact ih1 _ _ _ _ _ _ _ _ _ _ _ _ _ _ _ _ _ _ _
      | exact ih2 _ _ _ _ _ _ _ _ _ _ _ _ _ _ _ _ _ _ _ _
      | exact ih3 _ _ _ _ _ _ _ _ _ _ _ _ _ _ _ _ _ _ _ _ _ _ _ _ _ _ _ _
      | exact celluloidlaw15_awake.mono _
      | exact celluloidlaw15_small.mono _ _ _ _ _ _ _ _ _
      | exact edge_Of.mono _ _ _ _ _ _ _ _ _
      | exact LeO.none _
      | refine LeO.ite ?_ ?_
      | refine LeO.bind ?_ (fun _ => ?_)
    · intro y0 y1 y2 y3 y4 y5 y6 y7 y8 y9 y10 y11 y12 y13 y14 y15 y16 y17 y18 y19
      unfold celluloidlaw15_EdgeGoes.j2
      repeat' first
      | (with_reducible exact ih0 _ _ _ _ _ _ _ _ _)
      | (with_reducible exact ih1 _ _ _ _ _ _ _ _ _ _ _ _ _ _ _ _ _ _ _)
      | (with_reducible exact ih2 _ _ _ _ _ _ _ _ _ _ _ _ _ _ _ _ _ _ _ _)
      | (with_reducible exact ih3 _ _ _ _ _ _ _ _ _ _ _ _ _ _ _ _ _ _ _ _ _ _ _ _ _ _ _ _)
      | (with_reducible exact celluloidlaw15_awake.mono _)
      | (with_reducible exact celluloidlaw15_small.mono _ _ _ _ _ _ _ _ _)
      | (with_reducible exact edge_Of.mono _ _ _ _ _ _ _ _ _)
      | (with_reducible exact LeO.refl _)
      | (with_reducible exact LeO.none _)
      | (with_reducible refine LeO.ite ?_ ?_)
      | (with_reducible refine LeO.bind ?_ (fun _ => ?_))
      | exact ih0 _ _ _ _ _ _ _ _ _
      | exact ih1 _ _ _ _ _ _ _ _ _ _ _ _ _ _ _ _ _ _ _
      | exact ih2 _ _ _ _ _ _ _ _ _ _ _ _ _ _ _ _ _ _ _ _
      | exact ih3 _ _ _ _ _ _ _ _ _ _ _ _ _ _ _ _ _ _ _ _ _ _ _ _ _ _ _ _
      | exact celluloidlaw15_awake.mono _
      | exact celluloidlaw15_small.mono _ _ _ _ _ _ _ _ _
      | exact edge_Of.mono _ _ _ _ _ _ _ _ _
      | exact LeO.none _
      | refine LeO.ite ?_ ?_
      | refine LeO.bind ?_ (fun _ => ?_)
    · intro y0 y1 y2 y3 y4 y5 y6 y7 y8 y9 y10 y11 y12 y13 y14 y15 y16 y17 y18 y19 y20 y21 y22 y23 y24 y25 y26 y27
      unfold celluloidlaw15_EdgeGoes.j3
      repeat' first
      | (with_reducible exact ih0 _ _ _ _ _ _ _ _ _)
      | (with_reducible exact ih1 _ _ _ _ _ _ _ _ _ _ _ _ _ _ _ _ _ _ _)
      | (with_reducible exact ih2 _ _ _ _ _ _ _ _ _ _ _ _ _ _ _ _ _ _ _ _)
      | (with_reducible exact ih3 _ _ _ _ _ _ _ _ _ _ _ _ _ _ _ _ _ _ _ _ _ _ _ _ _ _ _ _)
      | (with_reducible exact celluloidlaw15_awake.mono _)
      | (with_reducible exact celluloidlaw15_small.mono _ _ _ _ _ _ _ _ _)
      | (with_reducible exact edge_Of.mono _ _ _ _ _ _ _ _ _)
      | (with_reducible exact LeO.refl _)
      | (with_reducible exact LeO.none _)
      | (with_reducible refine LeO.ite ?_ ?_)
      | (with_reducible refine LeO.bind ?_ (fun _ => ?_))
      | exact ih0 _ _ _ _ _ _ _ _ _
      | exact ih1 _ _ _ _ _ _ _ _ _ _ _ _ _ _ _ _ _ _ _
      | exact ih2 _ _ _ _ _ _ _ _ _ _ _ _ _ _ _ _ _ _ _ _
      | exact ih3 _ _ _ _ _ _ _ _ _ _ _ _ _ _ _ _ _ _ _ _ _ _ _ _ _ _ _ _
      | exact celluloidlaw15_awake.mono _
      | exact celluloidlaw15_small.mono _ _ _ _ _ _ _ _ _
      | exact edge_Of.mono _ _ _ _ _ _ _ _ _
      | exact LeO.none _
      | refine LeO.ite ?_ ?_
      | refine LeO.bind ?_ (fun _ => ?_)
theorem celluloidlaw15_EdgeGoes.mono : ∀ a0 a1 a2 a3 a4 a5 a6 a7 k,LeO (celluloidlaw15_EdgeGoes.f k a0 a1 a2 a3 a4 a5 a6 a7) (celluloidlaw15_EdgeGoes.f (k + 1) a0 a1 a2 a3 a4 a5 a6 a7):=by
  intro a0 a1 a2 a3 a4 a5 a6 a7 k
  obtain ⟨ih0,ih1,ih2,ih3⟩:=celluloidlaw15_EdgeGoes.mono_l k
  unfold celluloidlaw15_EdgeGoes.f
  repeat' first
      | (with_reducible exact ih0 _ _ _ _ _ _ _ _ _)
      | (with_reducible exact ih1 _ _ _ _ _ _ _ _ _ _ _ _ _ _ _ _ _ _ _)
      | (with_reducible exact ih2 _ _ _ _ _ _ _ _ _ _ _ _ _ _ _ _ _ _ _ _)
      | (with_reducible exact ih3 _ _ _ _ _ _ _ _ _ _ _ _ _ _ _ _ _ _ _ _ _ _ _ _ _ _ _ _)
      | (with_reducible exact celluloidlaw15_awake.mono _)
      | (with_reducible exact celluloidlaw15_small.mono _ _ _ _ _ _ _ _ _)
      | (with_reducible exact edge_Of.mono _ _ _ _ _ _ _ _ _)
      | (with_reducible exact LeO.refl _)
      | (with_reducible exact LeO.none _)
      | (with_reducible refine LeO.ite ?_ ?_)
      | (with_reducible refine LeO.bind ?_ (fun _ => ?_))
      | exact ih0 _ _ _ _ _ _ _ _ _
      | exact ih1 _ _ _ _ _ _ _ _ _ _ _ _ _ _ _ _ _ _ _
      | exact ih2 _ _ _ _ _ _ _ _ _ _ _ _ _ _ _ _ _ _ _ _
      | exact ih3 _ _ _ _ _ _ _ _ _ _ _ _ _ _ _ _ _ _ _ _ _ _ _ _ _ _ _ _
      | exact celluloidlaw15_awake.mono _
      | exact celluloidlaw15_small.mono _ _ _ _ _ _ _ _ _
      | exact edge_Of.mono _ _ _ _ _ _ _ _ _
      | exact LeO.none _
      | refine LeO.ite ?_ ?_
      | refine LeO.bind ?_ (fun _ => ?_)
set_option maxHeartbeats 8000000 in
set_option maxRecDepth 100000 in
theorem celluloidlaw15_EdgeGoes.calls (k : Nat) (a0_0 : Int) (a0_1 : Int) (a0_2 : Int) (a0_3 : Int) (a0_4 : Int) (A0_5 : Option Addr) (c0_5 : Nat) (l0_5 : List (S65)) (A0_6 : Option Addr) (c0_6 : Nat) (l0_6 : List (S79)) (A0_7 : Option Addr) (c0_7 : Nat) (l0_7 : List (S49)) (r : Bool) (w : World) (hr0_5 : Kd.C k65 w A0_5 l0_5.length l0_5) (hc0_5 : l0_5.length ≤ c0_5) (hr0_6 : Kd.C k79 w A0_6 l0_6.length l0_6) (hc0_6 : l0_6.length ≤ c0_6) (hr0_7 : Kd.C k49 w A0_7 l0_7.length l0_7) (hc0_7 : l0_7.length ≤ c0_7) (h : celluloidlaw15_EdgeGoes.f k a0_0 a0_1 a0_2 a0_3 a0_4 l0_5 l0_6 l0_7 = some r) :
    Calls Try.prog 4 #[.agg #[.int .i64 a0_0,.int .i64 a0_1,.int .i64 a0_2,.int .i64 a0_3,.int .i64 a0_4,.slice A0_5 l0_5.length c0_5,.slice A0_6 l0_6.length c0_6,.slice A0_7 l0_7.length c0_7]] w fun e w' => e = .returned (.bool r) ∧ Below w.heap.size w w':=by
  have hu28:=Try.underlying28;have hu33:=Try.underlying33;have hu47:=Try.underlying47;have hu49:=Try.underlying49;have hu51:=Try.underlying51;have HR0_5:=am hr0_5;have HC0_5:=am hc0_5;clear hr0_5 hc0_5;have HR0_6:=am hr0_6;have HC0_6:=am hc0_6;clear hr0_6 hc0_6;have HR0_7:=am hr0_7;have HC0_7:=am hc0_7;clear hr0_7 hc0_7;have HB:=am (Below.refl w.heap.size w);have H : ((celluloidlaw15_small.f k a0_0 a0_1 a0_2 a0_3 a0_4 l0_5 l0_6 l0_7).bind fun t431 => (if t431 = true then ((edge_Of.f k a0_0 a0_1 a0_2 a0_3 a0_4 l0_5 l0_6 l0_7).bind fun bt433 => (if bt433.2.2.2 = 0 then (celluloidlaw15_EdgeGoes.l0 k 0 l0_7 (l0_7.length : Int) 0 bt433.1 bt433.2.1 bt433.2.2.1 0 0) else (if (bt433.2.2.1.length : Int) = 0 then ((celluloidlaw15_awake.f k).bind fun t444 => (some t444)) else (some false)))) else ((celluloidlaw15_awake.f k).bind fun t432 => (some t432)))) = some r:=h;clear h;replace H:=Option.bind_eq_some_iff.mp H;obtain ⟨t431,A20,H⟩:=H;replace H : (if t431 = true then ((edge_Of.f k a0_0 a0_1 a0_2 a0_3 a0_4 l0_5 l0_6 l0_7).bind fun bt433 => (if bt433.2.2.2 = 0 then (celluloidlaw15_EdgeGoes.l0 k 0 l0_7 (l0_7.length : Int) 0 bt433.1 bt433.2.1 bt433.2.2.1 0 0) else (if (bt433.2.2.1.length : Int) = 0 then ((celluloidlaw15_awake.f k).bind fun t444 => (some t444)) else (some false)))) else ((celluloidlaw15_awake.f k).bind fun t432 => (some t432))) = some r:=H;have A2:=am A20;clear A20
  by_cases c3 : t431 = true
  focus
    subst c3
    have H1 : ((edge_Of.f k a0_0 a0_1 a0_2 a0_3 a0_4 l0_5 l0_6 l0_7).bind fun bt433 => (if bt433.2.2.2 = 0 then (celluloidlaw15_EdgeGoes.l0 k 0 l0_7 (l0_7.length : Int) 0 bt433.1 bt433.2.1 bt433.2.2.1 0 0) else (if (bt433.2.2.1.length : Int) = 0 then ((celluloidlaw15_awake.f k).bind fun t444 => (some t444)) else (some false)))) = some r:=by rw [if_pos rfl] at H;exact H
    clear H;have H:=H1;clear H1;replace H:=Option.bind_eq_some_iff.mp H;obtain ⟨⟨t433,t436,t439,t442⟩,A40,H⟩:=H;replace H : (if t442 = 0 then (celluloidlaw15_EdgeGoes.l0 k 0 l0_7 (l0_7.length : Int) 0 t433 t436 t439 0 0) else (if (t439.length : Int) = 0 then ((celluloidlaw15_awake.f k).bind fun t444 => (some t444)) else (some false))) = some r:=H;have A4:=am A40;clear A40
    by_cases c5 : t442 = 0
    focus
      rw [if_pos c5] at H;have c5b0 : (t442 == 0) = true:=beq_iff_eq.mpr c5;have c5b1 : (t442 != 0) = false:=bne_eq_false_iff_eq.mpr c5;clear c5;have H':=am H;clear H
      go_enter Try.func4,Try.ntmps4
      go_wp2_with (first|((with_reducible refine gate_dst (N:=1) rfl ?_);(try (refine gate_guard (by rfl) ?_;dsimp only));refine box_event ?hg (N:=1) ?hd (cs:=#[.int .i64 a0_0,.int .i64 a0_1,.int .i64 a0_2,.int .i64 a0_3,.int .i64 a0_4,.slice A0_5 l0_5.length c0_5,.slice A0_6 l0_6.length c0_6,.slice A0_7 l0_7.length c0_7]) (t:=28) ?hr ?_;(case hd => rfl);(case hg => rfl);(case hr => first|(go_simp;done)|(go_simp;rfl));intro gb430 hg w6 hbox hb;have BK430:=am (hbox);have GW430:=am ((by rw [hg];exact (sz (by repeat (first|(with_reducible first|exact HB.out|apply sa|apply sn|apply sd)|exact HB.out))) : w.heap.size ≤ gb430));have GE430:=am ((by rw [hg];exact (sz (by repeat (first|(with_reducible first|exact HB.out|apply sa|apply sn|apply sd)|exact HB.out))) : w.heap.size ≤ gb430));replace HB:=am (ss (by repeat (first|(with_reducible first|exact HB.out|apply sa|apply sn|apply sd)|exact HB.out)) hb);clear hb hbox hg;obtain ⟨hcz7_0,hcz7_1,hcz7_2,hcz7_3,hcz7_4,hcz7_5,hcz7_6,hcz7_7⟩:=cq8 BK430.out;obtain ⟨hfz7_0,hfz7_1,hfz7_2,hfz7_3,hfz7_4,hfz7_5,hfz7_6,hfz7_7⟩:=fq8 BK430.out)|((with_reducible refine gate_callee (f:=8) rfl ?_);refine goesL_ (some 11) rfl rfl Try.func8 (by kernel_rfl) rfl #[.agg #[.int .i64 a0_0,.int .i64 a0_1,.int .i64 a0_2,.int .i64 a0_3,.int .i64 a0_4,.slice A0_5 l0_5.length c0_5,.slice A0_6 l0_6.length c0_6,.slice A0_7 l0_7.length c0_7]] rfl (by (try simp only [List.map_toArray,List.map_cons,List.map_nil]);first|done|rfl|(simp only [List.length_drop,List.length_take];rfl)) ?_;(with_reducible refine (celluloidlaw15_small.calls k a0_0 a0_1 a0_2 a0_3 a0_4 _ _ l0_5 _ _ l0_6 _ _ l0_7 true _ ?side1 ?side2 ?side3 ?side4 ?side5 ?side6 A2.out).mono ?_);(case side1 => repeat (first|exact (Kd.C_below HR0_5.out HB.out)|(with_reducible refine Kd.C_alloc ?_ _)|(with_reducible refine Kd.C_drewN ?_ _)|(with_reducible refine Kd.C_drew ?_)));(case side2 => exact HC0_5.out);(case side3 => repeat (first|exact (Kd.C_below HR0_6.out HB.out)|(with_reducible refine Kd.C_alloc ?_ _)|(with_reducible refine Kd.C_drewN ?_ _)|(with_reducible refine Kd.C_drew ?_)));(case side4 => exact HC0_6.out);(case side5 => repeat (first|exact (Kd.C_below HR0_7.out HB.out)|(with_reducible refine Kd.C_alloc ?_ _)|(with_reducible refine Kd.C_drewN ?_ _)|(with_reducible refine Kd.C_drew ?_)));(case side6 => exact HC0_7.out);rintro e w8 ⟨rfl,hb⟩;refine ⟨_,rfl,?_⟩;replace BK430:=am (bw (by exact BK430.out) hb);replace HB:=am (ss (by repeat (first|(with_reducible first|exact HB.out|apply sa|apply sn|apply sd|refine sx ?_ GE430.out)|exact HB.out)) hb);(try clear hb);(try clear hb2);(try clear hk);(try clear hi);obtain ⟨hcz9_0,hcz9_1,hcz9_2,hcz9_3,hcz9_4,hcz9_5,hcz9_6,hcz9_7⟩:=cq8 BK430.out;obtain ⟨hfz9_0,hfz9_1,hfz9_2,hfz9_3,hfz9_4,hfz9_5,hfz9_6,hfz9_7⟩:=fq8 BK430.out)|((with_reducible refine gate_callee (f:=10) rfl ?_);refine goesL_ (some 16) rfl rfl Try.func10 (by kernel_rfl) rfl #[.agg #[.int .i64 a0_0,.int .i64 a0_1,.int .i64 a0_2,.int .i64 a0_3,.int .i64 a0_4,.slice A0_5 l0_5.length c0_5,.slice A0_6 l0_6.length c0_6,.slice A0_7 l0_7.length c0_7]] rfl (by (try simp only [List.map_toArray,List.map_cons,List.map_nil]);first|done|rfl|(simp only [List.length_drop,List.length_take];rfl)) ?_;(with_reducible refine (edge_Of.calls k a0_0 a0_1 a0_2 a0_3 a0_4 (fun k_ => k_ < w.heap.size) _ _ l0_5 _ _ l0_6 (fun k_ => k_ < w.heap.size) _ _ l0_7 t433 t436 t439 t442 _ ?side1 ?side2 ?side3 ?side4 A4.out).mono ?_);(case side1 => exact Kd.V_mk HC0_5.out (Kd.F_below (Kd.C_F k65_heap HR0_5.out) (by repeat (first|(with_reducible first|exact HB.out|apply sa|apply sn|apply sd|refine sx ?_ GE430.out)|exact HB.out))));(case side2 => repeat (first|exact (Kd.C_below HR0_6.out HB.out)|(with_reducible refine Kd.C_alloc ?_ _)|(with_reducible refine Kd.C_drewN ?_ _)|(with_reducible refine Kd.C_drew ?_)));(case side3 => exact HC0_6.out);(case side4 => exact Kd.V_mk HC0_7.out (Kd.F_below (Kd.C_F k49_heap HR0_7.out) (by repeat (first|(with_reducible first|exact HB.out|apply sa|apply sn|apply sd|refine sx ?_ GE430.out)|exact HB.out))));rintro e w10 ⟨v434,v437,v440,rfl,ho0,ho1,ho2,hb⟩;refine ⟨_,rfl,?_⟩;have HO435:=am (Kd.N_lower (Kd.N_mono (ok':=fun k_ => some k_ ≠ (v437 : Value).ownBlock ∧ some k_ ≠ (v440 : Value).ownBlock ∧ k_ ≠ gb430) ho0 (fun k_ hk_ => ⟨hk_.2.1,hk_.2.2,Or.elim hk_.1 (fun hs_ => Or.elim hs_ (fun hs_ => fun e_ => Nat.not_le.2 hs_ (by rw [e_];exact GW430.out)) (fun hs_ => fun e_ => Nat.not_le.2 hs_ (by rw [e_];exact GW430.out))) (fun hn_ => (Kd.freshB (g:=gb430) (o:=.cells #[.int .i64 a0_0,.int .i64 a0_1,.int .i64 a0_2,.int .i64 a0_3,.int .i64 a0_4,.slice A0_5 l0_5.length c0_5,.slice A0_6 l0_6.length c0_6,.slice A0_7 l0_7.length c0_7] 28 (0,0)) (by exact BK430.out) k_ hn_))⟩)) (sz (by repeat (first|(with_reducible first|exact HB.out|apply sa|apply sn|apply sd|refine sx ?_ GE430.out)|exact HB.out))));have HO438:=am (Kd.R_lower (Kd.R_mono (ok':=fun k_ => True) ho1 (fun _ hk_ => trivial)) (sz (by repeat (first|(with_reducible first|exact HB.out|apply sa|apply sn|apply sd|refine sx ?_ GE430.out)|exact HB.out))));have HO441:=am (Kd.R_lower (Kd.R_mono (ok':=fun k_ => True) ho2 (fun _ hk_ => trivial)) (sz (by repeat (first|(with_reducible first|exact HB.out|apply sa|apply sn|apply sd|refine sx ?_ GE430.out)|exact HB.out))));replace BK430:=am (bw (by exact BK430.out) hb);replace HB:=am (ss (by repeat (first|(with_reducible first|exact HB.out|apply sa|apply sn|apply sd|refine sx ?_ GE430.out)|exact HB.out)) hb);(try clear hb);(try clear hb2);(try clear hk);(try clear hi);(try clear ho0);(try clear ho1);(try clear ho2))|((with_reducible refine gate_dst (N:=3) rfl ?_);(try (refine gate_guard (by rfl) ?_;dsimp only));refine box_event ?hg (N:=3) ?hd (cs:=#[.slice none 0 0,.slice none 0 0,.slice none 0 0]) (t:=33) ?hr ?_;(case hd => rfl);(case hg => rfl);(case hr => first|(go_simp;done)|(go_simp;rfl));intro gb443 hg w11 hbox hb;replace HO435:=am (nE (by (with_reducible repeat (first|apply Kd.N_alloc|apply Kd.N_drewN|apply Kd.N_drew));exact HO435.out) hg hb);replace HO438:=am (Kd.R_below (by (with_reducible repeat (first|apply Kd.R_alloc|apply Kd.R_drewN|apply Kd.R_drew));exact HO438.out) hb);replace HO441:=am (Kd.R_below (by (with_reducible repeat (first|apply Kd.R_alloc|apply Kd.R_drewN|apply Kd.R_drew));exact HO441.out) hb);have BK443:=am (hbox);obtain ⟨h1_,GW443⟩:=sg (by repeat (first|(with_reducible first|exact HB.out|apply sa|apply sn|apply sd|refine sx ?_ GE430.out)|exact HB.out)) hb hg;replace HB:=h1_;clear h1_;have GE443:=GW443;have NB430_443:=nb (by exact BK430.out) hg;have NB443_430:=ng (by exact BK430.out) hg;replace BK430:=am (bw (by exact BK430.out) hb);clear hb hbox hg;obtain ⟨Ao12,co12,eo12⟩:=Kd.N_slice HO435.out;subst eo12;have hnb13:=NB443_430.out;have hnc13:=NB430_443.out;obtain ⟨hcz14_0,hcz14_1,hcz14_2⟩:=cq3 BK443.out;obtain ⟨hfz14_0,hfz14_1,hfz14_2⟩:=fq3 BK443.out;obtain ⟨Ao15,co15,eo15⟩:=Kd.R_slice HO438.out;subst eo15;obtain ⟨Ao16,co16,eo16⟩:=Kd.R_slice HO441.out;subst eo16)|((with_reducible refine gate_dst (N:=5) rfl ?_);(try (refine gate_guard (by rfl) ?_;dsimp only));refine box_event ?hg (N:=5) ?hd (cs:=#[.int .i64 0,.int .i64 0]) (t:=47) ?hr ?_;(case hd => rfl);(case hg => rfl);(case hr => first|(go_simp;done)|(go_simp;rfl));intro gb445 hg w17 hbox hb;replace HO435:=am (nE (by (with_reducible repeat (first|apply Kd.N_alloc|apply Kd.N_drewN|apply Kd.N_drew));exact (nm (nf (nf (nf (np HO435.out)))))) hg hb);replace HO438:=am (Kd.R_below (by (with_reducible repeat (first|apply Kd.R_alloc|apply Kd.R_drewN|apply Kd.R_drew));exact (rm (rf (rf (rf (Kd.R_types HO438.out BK443.out (by decide))))))) hb);replace HO441:=am (Kd.R_below (by (with_reducible repeat (first|apply Kd.R_alloc|apply Kd.R_drewN|apply Kd.R_drew));exact (rm (rf (rf (rf (Kd.R_types HO441.out BK443.out (by decide))))))) hb);have BK445:=am (hbox);obtain ⟨h1_,GW445⟩:=sg (by repeat (first|(with_reducible first|exact HB.out|apply sa|apply sn|apply sd|refine sy ?_ (by assumption))|exact HB.out)) hb hg;replace HB:=h1_;clear h1_;have GE445:=GW445;have NB430_445:=am (by have:=blk_lt BK430.out;rw [hg];(try simp only [ks,kd,ke,ka]);omega : gb430 ≠ gb445);have NB445_430:=am (by have:=blk_lt BK430.out;rw [hg];(try simp only [ks,kd,ke,ka]);omega : gb445 ≠ gb430);replace BK430:=am (wz BK430.out (by (with_reducible repeat (first|refine bn ?_ _|refine bd ?_|refine ba ?_ _|refine bf ?_ NB430_443.out _));exact BK430.out) hb);have NB443_445:=am (by have:=blk_lt BK443.out;rw [hg];(try simp only [ks,kd,ke,ka]);omega : gb443 ≠ gb445);have NB445_443:=am (by have:=blk_lt BK443.out;rw [hg];(try simp only [ks,kd,ke,ka]);omega : gb445 ≠ gb443);replace BK443:=am (bw (g:=gb443) (o:=.cells #[.slice Ao12 t433.length co12,.slice Ao15 t436.length co15,.slice Ao16 t439.length co16] 33 (0,0)) (bp (bp (bp BK443.out 0 _ rfl) 1 _ rfl) 2 _ rfl) hb);clear hb hbox hg;have hnb18:=NB445_430.out;have hnc18:=NB430_445.out;have hnb19:=NB445_443.out;have hnc19:=NB443_445.out;obtain ⟨hcz20_0,hcz20_1⟩:=cq2 BK445.out;obtain ⟨hfz20_0,hfz20_1⟩:=fq2 BK445.out;obtain ⟨hcz21_0,hcz21_1,hcz21_2,hcz21_3,hcz21_4,hcz21_5,hcz21_6,hcz21_7⟩:=cq8 BK430.out;obtain ⟨hfz21_0,hfz21_1,hfz21_2,hfz21_3,hfz21_4,hfz21_5,hfz21_6,hfz21_7⟩:=fq8 BK430.out))
      go_loopg [6,32] k (fun kq v6 v32 w' => ∃ (x6_1 : Int) (x32_1 : Int) (x446000_1 : Int) (x446001_1 : Int),v6 = .int .i64 x6_1 ∧ v32 = .int .i64 x32_1 ∧ Aside0 (celluloidlaw15_EdgeGoes.l0 kq x6_1 l0_7 (l0_7.length : Int) x32_1 t433 t436 t439 x446000_1 x446001_1 = some r) ∧ Aside0 (kq ≤ k) ∧ Aside0 (Kd.N k65 65 w' w.heap.size (fun k_ => some k_ ≠ ((.slice Ao15 t436.length co15) : Value).ownBlock ∧ some k_ ≠ ((.slice Ao16 t439.length co16) : Value).ownBlock ∧ k_ ≠ gb430 ∧ k_ ≠ gb443 ∧ k_ ≠ gb445) (.slice Ao12 t433.length co12) t433) ∧ Aside0 (Kd.R k79 79 w' w.heap.size (fun _ => True) (.slice Ao15 t436.length co15) t436) ∧ Aside0 (Kd.R k51 51 w' w.heap.size (fun _ => True) (.slice Ao16 t439.length co16) t439) ∧ Aside0 (w'.heap[gb430]? = some (.cells #[.int .i64 a0_0,.int .i64 a0_1,.int .i64 a0_2,.int .i64 a0_3,.int .i64 a0_4,(.slice A0_5 l0_5.length c0_5),(.slice A0_6 l0_6.length c0_6),(.slice A0_7 l0_7.length c0_7)] 28 (0,0))) ∧ Aside0 (w'.heap[gb443]? = some (.cells #[(.slice Ao12 t433.length co12),(.slice Ao15 t436.length co15),(.slice Ao16 t439.length co16)] 33 (0,0))) ∧ Aside0 (w'.heap[gb445]? = some (.cells #[.int .i64 x446000_1,.int .i64 x446001_1] 47 (0,0))) ∧ Aside0 (Below w.heap.size w w'))
      case atStart => exact ⟨(0),(0),(0),(0),(by first|rfl|(simp;done)|(simp [*];done)),(by first|rfl|(simp;done)|(simp [*];done)),H',⟨Nat.le_refl _⟩,⟨by (with_reducible repeat (first|apply Kd.N_alloc|apply Kd.N_drewN|apply Kd.N_drew));exact Kd.N_mono (nf (nf (np HO435.out))) (fun _ hk => ⟨hk.1.1.1.1,⟨hk.1.1.1.2.1,⟨hk.1.1.1.2.2,⟨hk.1.1.2,hk.1.2⟩⟩⟩⟩)⟩,⟨by (with_reducible repeat (first|apply Kd.R_alloc|apply Kd.R_drewN|apply Kd.R_drew));exact Kd.R_mono (rf (rf (Kd.R_types HO438.out BK445.out (by decide)))) (fun _ hk => trivial)⟩,⟨by (with_reducible repeat (first|apply Kd.R_alloc|apply Kd.R_drewN|apply Kd.R_drew));exact Kd.R_mono (rf (rf (Kd.R_types HO441.out BK445.out (by decide)))) (fun _ hk => trivial)⟩,⟨by (with_reducible repeat (first|refine bn ?_ _|refine bd ?_|refine ba ?_ _|refine bf ?_ NB430_445.out _));exact BK430.out⟩,⟨by (with_reducible repeat (first|refine bn ?_ _|refine bd ?_|refine ba ?_ _|refine bf ?_ NB443_445.out _));exact BK443.out⟩,⟨(bp (bp BK445.out 0 _ rfl) 1 _ rfl)⟩,⟨by repeat (first|(with_reducible first|exact HB.out|apply sa|apply sn|apply sd|refine sy ?_ (by assumption))|exact HB.out)⟩⟩
      case round =>
        clear H'
        try clear c1
        try clear p2
        try clear c3
        try clear c4
        try clear c5
        try clear c5b0
        try clear c5b1
        try clear c8
        try clear c10
        try clear c13
        try clear c18
        try clear c19
        try clear hcz14_0
        try clear hcz14_1
        try clear hcz14_2
        try clear hcz20_0
        try clear hcz20_1
        try clear hcz21_0
        try clear hcz21_1
        try clear hcz21_2
        try clear hcz21_3
        try clear hcz21_4
        try clear hcz21_5
        try clear hcz21_6
        try clear hcz21_7
        try clear hcz7_0
        try clear hcz7_1
        try clear hcz7_2
        try clear hcz7_3
        try clear hcz7_4
        try clear hcz7_5
        try clear hcz7_6
        try clear hcz7_7
        try clear hcz9_0
        try clear hcz9_1
        try clear hcz9_2
        try clear hcz9_3
        try clear hcz9_4
        try clear hcz9_5
        try clear hcz9_6
        try clear hcz9_7
        try clear hfz14_0
        try clear hfz14_1
        try clear hfz14_2
        try clear hfz20_0
        try clear hfz20_1
        try clear hfz21_0
        try clear hfz21_1
        try clear hfz21_2
        try clear hfz21_3
        try clear hfz21_4
        try clear hfz21_5
        try clear hfz21_6
        try clear hfz21_7
        try clear hfz7_0
        try clear hfz7_1
        try clear hfz7_2
        try clear hfz7_3
        try clear hfz7_4
        try clear hfz7_5
        try clear hfz7_6
        try clear hfz7_7
        try clear hfz9_0
        try clear hfz9_1
        try clear hfz9_2
        try clear hfz9_3
        try clear hfz9_4
        try clear hfz9_5
        try clear hfz9_6
        try clear hfz9_7
        obtain ⟨x6_1,x32_1,x446000_1,x446001_1,rfl,rfl,HA,HK1,HO_444000,HO_444001,HO_444002,BK430,BK443,BK445,HB⟩:=hrel
        cases gk with
        | zero => exact absurd HA.out (by simp [celluloidlaw15_EdgeGoes.l0])
        | succ k1 =>
          have H:=HA.out;clear HA;simp only [celluloidlaw15_EdgeGoes.l0] at H
          by_cases c22 : x32_1 < (l0_7.length : Int)
          · rw [if_pos c22] at H
            have c22b0 : decide (x32_1 < (l0_7.length : Int)) = true:=decide_eq_true c22;clear c22
            by_cases c23 : 0 ≤ x32_1
            · rw [if_pos c23] at H
              have c23b0 : decide (0 ≤ x32_1) = true:=decide_eq_true c23;clear c23
              by_cases c24 : x32_1 < (l0_7.length : Int)
              · rw [if_pos c24] at H
                have c24b0 : decide (x32_1 < (l0_7.length : Int)) = true:=decide_eq_true c24;clear c24;have HC25:=am H;clear H;have p447 : 0 ≤ (x32_1 : Int):=of_decide_eq_true (by first|(with_reducible assumption)|assumption);have q447 : x32_1 < (l0_7.length : Int):=of_decide_eq_true (by first|(with_reducible assumption)|assumption);obtain ⟨ad447,A447_8,c447_8,A447_9,c447_9,e447,hx447_0,hx447_1,hx447_2,hx447_3,hx447_4,hx447_5,hx447_6,hx447_7,hx447_8,hx447_9,hl447_8,hi447_8,hl447_9,hi447_9⟩:=at_T49 HR0_7.out x32_1 p447 q447
                cases e447
                replace hx447_0:=(HB.out.cell (World.block_lt_of_cell? w _ hx447_0)).trans hx447_0;replace hx447_1:=(HB.out.cell (World.block_lt_of_cell? w _ hx447_1)).trans hx447_1;replace hx447_2:=(HB.out.cell (World.block_lt_of_cell? w _ hx447_2)).trans hx447_2;replace hx447_3:=(HB.out.cell (World.block_lt_of_cell? w _ hx447_3)).trans hx447_3;replace hx447_4:=(HB.out.cell (World.block_lt_of_cell? w _ hx447_4)).trans hx447_4;replace hx447_5:=(HB.out.cell (World.block_lt_of_cell? w _ hx447_5)).trans hx447_5;replace hx447_6:=(HB.out.cell (World.block_lt_of_cell? w _ hx447_6)).trans hx447_6;replace hx447_7:=(HB.out.cell (World.block_lt_of_cell? w _ hx447_7)).trans hx447_7;replace hx447_8:=(HB.out.cell (World.block_lt_of_cell? w _ hx447_8)).trans hx447_8;replace hx447_9:=(HB.out.cell (World.block_lt_of_cell? w _ hx447_9)).trans hx447_9;have HR447_8:=am hi447_8;have HC447_8:=am hl447_8;clear hi447_8 hl447_8;have HR447_9:=am hi447_9;have HC447_9:=am hl447_9;clear hi447_9 hl447_9;replace p447:=eq_true p447;replace q447:=eq_true q447
                go_upto_if 38 with (first|((with_reducible refine gate_dst (N:=8) rfl ?_);(try (refine gate_guard (by rfl) ?_;dsimp only));refine box_event ?hg (N:=8) ?hd (cs:=#[.int .i64 0,.int .i64 0,.int .i64 0,.int .i64 0,.int .i64 0,.int .i64 0,.int .i64 0,.int .i64 0,.slice none 0 0,.slice none 0 0]) (t:=49) ?hr ?_;(case hd => rfl);(case hg => rfl);(case hr => first|(go_simp;done)|(go_simp;rfl));intro gb448 hg w26 hbox hb;have n0_:=am (nE (by (with_reducible repeat (first|apply Kd.N_alloc|apply Kd.N_drewN|apply Kd.N_drew));exact HO_444000.out) hg hb);have n1_:=am (Kd.R_below (by (with_reducible repeat (first|apply Kd.R_alloc|apply Kd.R_drewN|apply Kd.R_drew));exact HO_444001.out) hb);have n2_:=am (Kd.R_below (by (with_reducible repeat (first|apply Kd.R_alloc|apply Kd.R_drewN|apply Kd.R_drew));exact HO_444002.out) hb);have n3_:=am (bw (by exact BK430.out) hb);have n4_:=am (bw (by exact BK443.out) hb);have n5_:=am (bw (by exact BK445.out) hb);have n6_:=am (ss (by repeat (first|(with_reducible first|exact HB.out|apply sa|apply sn|apply sd|refine sy ?_ (by assumption))|exact HB.out)) hb);have n7_:=am (hbox);have n8_:=am ((by rw [hg];exact (sz (by repeat (first|(with_reducible first|exact HB.out|apply sa|apply sn|apply sd|refine sy ?_ (by assumption))|exact HB.out))) : w.heap.size ≤ gb448));have n9_:=n8_;have n10_:=nb (by exact BK430.out) hg;have n11_:=am (Ne.symm n10_.out);have n12_:=nb (by exact BK443.out) hg;have n13_:=am (Ne.symm n12_.out);have n14_:=nb (by exact BK445.out) hg;have n15_:=ng (by exact BK445.out) hg;clear HO_444000;clear HO_444001;clear HO_444002;clear BK430;clear BK443;clear BK445;clear HB;have HO_444000:=n0_;have HO_444001:=n1_;have HO_444002:=n2_;have BK430:=n3_;have BK443:=n4_;have BK445:=n5_;have HB:=n6_;have BK448:=n7_;have GW448:=n8_;have GE448:=n9_;have NB430_448:=n10_;have NB448_430:=n11_;have NB443_448:=n12_;have NB448_443:=n13_;have NB445_448:=n14_;have NB448_445:=n15_;clear n0_ n1_ n2_ n3_ n4_ n5_ n6_ n7_ n8_ n9_ n10_ n11_ n12_ n13_ n14_ n15_;clear hb hbox hg;have hnb27:=NB448_430.out;have hnc27:=NB430_448.out;have hnb28:=NB448_443.out;have hnc28:=NB443_448.out;have hnb29:=NB448_445.out;have hnc29:=NB445_448.out;obtain ⟨hcz30_0,hcz30_1,hcz30_2,hcz30_3,hcz30_4,hcz30_5,hcz30_6,hcz30_7,hcz30_8,hcz30_9⟩:=cq10 BK448.out;obtain ⟨hfz30_0,hfz30_1,hfz30_2,hfz30_3,hfz30_4,hfz30_5,hfz30_6,hfz30_7,hfz30_8,hfz30_9⟩:=fq10 BK448.out))
                (try simp only [Act.put,q1,q2,q3])
                go_cut [] (fun wc => ∃ (kq : Nat) (x446000_24 : Int) (x446001_24 : Int),Aside0 (celluloidlaw15_EdgeGoes.j1 kq x6_1 l0_7 (l0_7.length : Int) x32_1 t433 t436 t439 x446000_24 x446001_24 ((rd_T49 l0_7 x32_1).f0) ((rd_T49 l0_7 x32_1).f1) ((rd_T49 l0_7 x32_1).f2) ((rd_T49 l0_7 x32_1).f3) ((rd_T49 l0_7 x32_1).f4) ((rd_T49 l0_7 x32_1).f5) ((rd_T49 l0_7 x32_1).f6) ((rd_T49 l0_7 x32_1).f7) ((rd_T49 l0_7 x32_1).f8) ((rd_T49 l0_7 x32_1).f9) = some r) ∧ Aside0 (kq ≤ k1) ∧ Aside0 (Kd.N k65 65 wc w.heap.size (fun k_ => some k_ ≠ ((.slice Ao15 t436.length co15) : Value).ownBlock ∧ some k_ ≠ ((.slice Ao16 t439.length co16) : Value).ownBlock ∧ k_ ≠ gb430 ∧ k_ ≠ gb443 ∧ k_ ≠ gb445 ∧ k_ ≠ gb448) (.slice Ao12 t433.length co12) t433) ∧ Aside0 (Kd.R k79 79 wc w.heap.size (fun _ => True) (.slice Ao15 t436.length co15) t436) ∧ Aside0 (Kd.R k51 51 wc w.heap.size (fun _ => True) (.slice Ao16 t439.length co16) t439) ∧ Aside0 (wc.heap[gb430]? = some (.cells #[.int .i64 a0_0,.int .i64 a0_1,.int .i64 a0_2,.int .i64 a0_3,.int .i64 a0_4,(.slice A0_5 l0_5.length c0_5),(.slice A0_6 l0_6.length c0_6),(.slice (some ad447) l0_7.length c0_7)] 28 (0,0))) ∧ Aside0 (wc.heap[gb443]? = some (.cells #[(.slice Ao12 t433.length co12),(.slice Ao15 t436.length co15),(.slice Ao16 t439.length co16)] 33 (0,0))) ∧ Aside0 (wc.heap[gb445]? = some (.cells #[.int .i64 x446000_24,.int .i64 x446001_24] 47 (0,0))) ∧ Aside0 (wc.heap[gb448]? = some (.cells #[.int .i64 ((rd_T49 l0_7 x32_1).f0),.int .i64 ((rd_T49 l0_7 x32_1).f1),.int .i64 ((rd_T49 l0_7 x32_1).f2),.int .i64 ((rd_T49 l0_7 x32_1).f3),.int .i64 ((rd_T49 l0_7 x32_1).f4),.int .i64 ((rd_T49 l0_7 x32_1).f5),.int .i64 ((rd_T49 l0_7 x32_1).f6),.int .i64 ((rd_T49 l0_7 x32_1).f7),(.slice A447_8 ((rd_T49 l0_7 x32_1).f8).length c447_8),(.slice A447_9 ((rd_T49 l0_7 x32_1).f9).length c447_9)] 49 (0,0))) ∧ Aside0 (Below w.heap.size w wc))
                case first =>
                  have H:=HC25.out;clear HC25
                  by_cases c31 : ((rd_T49 l0_7 x32_1).f0) = 1
                  · rw [if_pos c31] at H
                    have c31b0 : (((rd_T49 l0_7 x32_1).f0) == 1) = true:=beq_iff_eq.mpr c31;have c31b1 : (((rd_T49 l0_7 x32_1).f0) != 1) = false:=bne_eq_false_iff_eq.mpr c31;clear c31
                    (first|rw [c31b0]|(simp only [i64_w,i32_w];rw [c31b0])|skip)
                    have H':=am H;clear H;have hnb32:=NB448_430.out;have hnc32:=NB430_448.out;have hnb33:=NB448_443.out;have hnc33:=NB443_448.out;have hnb34:=NB448_445.out;have hnc34:=NB445_448.out;have hcz35_0 : w26.cell? ⟨gb448,0,none⟩ = some (.int .i64 0):=(bc BK448.out 0).trans rfl;have hcz35_1 : w26.cell? ⟨gb448,1,none⟩ = some (.int .i64 0):=(bc BK448.out 1).trans rfl;have hcz35_2 : w26.cell? ⟨gb448,2,none⟩ = some (.int .i64 0):=(bc BK448.out 2).trans rfl;have hcz35_3 : w26.cell? ⟨gb448,3,none⟩ = some (.int .i64 0):=(bc BK448.out 3).trans rfl;have hcz35_4 : w26.cell? ⟨gb448,4,none⟩ = some (.int .i64 0):=(bc BK448.out 4).trans rfl;have hcz35_5 : w26.cell? ⟨gb448,5,none⟩ = some (.int .i64 0):=(bc BK448.out 5).trans rfl;have hcz35_6 : w26.cell? ⟨gb448,6,none⟩ = some (.int .i64 0):=(bc BK448.out 6).trans rfl;have hcz35_7 : w26.cell? ⟨gb448,7,none⟩ = some (.int .i64 0):=(bc BK448.out 7).trans rfl;have hcz35_8 : w26.cell? ⟨gb448,8,none⟩ = some (.slice none 0 0):=(bc BK448.out 8).trans rfl;have hcz35_9 : w26.cell? ⟨gb448,9,none⟩ = some (.slice none 0 0):=(bc BK448.out 9).trans rfl;have hfz35_0:=bz BK448.out 0;have hfz35_1:=bz BK448.out 1;have hfz35_2:=bz BK448.out 2;have hfz35_3:=bz BK448.out 3;have hfz35_4:=bz BK448.out 4;have hfz35_5:=bz BK448.out 5;have hfz35_6:=bz BK448.out 6;have hfz35_7:=bz BK448.out 7;have hfz35_8:=bz BK448.out 8;have hfz35_9:=bz BK448.out 9;have hnb36:=NB445_430.out;have hnc36:=NB430_445.out;have hnb37:=NB445_443.out;have hnc37:=NB443_445.out;have hcz38_0 : w26.cell? ⟨gb445,0,none⟩ = some (.int .i64 x446000_1):=(bc BK445.out 0).trans rfl;have hcz38_1 : w26.cell? ⟨gb445,1,none⟩ = some (.int .i64 x446001_1):=(bc BK445.out 1).trans rfl;have hfz38_0:=bz BK445.out 0;have hfz38_1:=bz BK445.out 1
                    go_wp2
                    go_meet
                    case rel => exact ⟨_,((rd_T49 l0_7 x32_1).f1),((rd_T49 l0_7 x32_1).f2),H',⟨by have:=HK1.out;first|omega|exact Nat.le_refl _⟩,⟨by (with_reducible repeat (first|apply Kd.N_alloc|apply Kd.N_drewN|apply Kd.N_drew));exact Kd.N_mono (nf (nf (Kd.N_far (p:=⟨gb448,9,none⟩) (Kd.N_far (p:=⟨gb448,8,none⟩) (Kd.N_far (p:=⟨gb448,7,none⟩) (Kd.N_far (p:=⟨gb448,6,none⟩) (Kd.N_far (p:=⟨gb448,5,none⟩) (Kd.N_far (p:=⟨gb448,4,none⟩) (Kd.N_far (p:=⟨gb448,3,none⟩) (Kd.N_far (p:=⟨gb448,2,none⟩) (Kd.N_far (p:=⟨gb448,1,none⟩) (Kd.N_far (p:=⟨gb448,0,none⟩) (Kd.N_mono (np HO_444000.out) (fun k_ hk => (⟨hk,hk.1.1.2.2.2.2⟩ : _ ∧ k_ ≠ gb445))) (fun _ hk => hk.1.2) (.int .i64 ((rd_T49 l0_7 x32_1).f0))) (fun _ hk => hk.1.2) (.int .i64 ((rd_T49 l0_7 x32_1).f1))) (fun _ hk => hk.1.2) (.int .i64 ((rd_T49 l0_7 x32_1).f2))) (fun _ hk => hk.1.2) (.int .i64 ((rd_T49 l0_7 x32_1).f3))) (fun _ hk => hk.1.2) (.int .i64 ((rd_T49 l0_7 x32_1).f4))) (fun _ hk => hk.1.2) (.int .i64 ((rd_T49 l0_7 x32_1).f5))) (fun _ hk => hk.1.2) (.int .i64 ((rd_T49 l0_7 x32_1).f6))) (fun _ hk => hk.1.2) (.int .i64 ((rd_T49 l0_7 x32_1).f7))) (fun _ hk => hk.1.2) (.slice A447_8 ((rd_T49 l0_7 x32_1).f8).length c447_8)) (fun _ hk => hk.1.2) (.slice A447_9 ((rd_T49 l0_7 x32_1).f9).length c447_9)))) (fun _ hk => ⟨hk.1.1.1.1,⟨hk.1.1.1.2.1,⟨hk.1.1.1.2.2.1,⟨hk.1.1.1.2.2.2.1,⟨hk.1.1.1.2.2.2.2,hk.1.1.2⟩⟩⟩⟩⟩)⟩,⟨by (with_reducible repeat (first|apply Kd.R_alloc|apply Kd.R_drewN|apply Kd.R_drew));exact Kd.R_mono (rf (rf (Kd.R_far (p:=⟨gb448,9,none⟩) (Kd.R_far (p:=⟨gb448,8,none⟩) (Kd.R_far (p:=⟨gb448,7,none⟩) (Kd.R_far (p:=⟨gb448,6,none⟩) (Kd.R_far (p:=⟨gb448,5,none⟩) (Kd.R_far (p:=⟨gb448,4,none⟩) (Kd.R_far (p:=⟨gb448,3,none⟩) (Kd.R_far (p:=⟨gb448,2,none⟩) (Kd.R_far (p:=⟨gb448,1,none⟩) (Kd.R_far (p:=⟨gb448,0,none⟩) (Kd.R_types (Kd.R_types HO_444001.out BK448.out (by decide)) BK445.out (by decide)) (fun _ hk => hk.1.2) (.int .i64 ((rd_T49 l0_7 x32_1).f0))) (fun _ hk => hk.1.2) (.int .i64 ((rd_T49 l0_7 x32_1).f1))) (fun _ hk => hk.1.2) (.int .i64 ((rd_T49 l0_7 x32_1).f2))) (fun _ hk => hk.1.2) (.int .i64 ((rd_T49 l0_7 x32_1).f3))) (fun _ hk => hk.1.2) (.int .i64 ((rd_T49 l0_7 x32_1).f4))) (fun _ hk => hk.1.2) (.int .i64 ((rd_T49 l0_7 x32_1).f5))) (fun _ hk => hk.1.2) (.int .i64 ((rd_T49 l0_7 x32_1).f6))) (fun _ hk => hk.1.2) (.int .i64 ((rd_T49 l0_7 x32_1).f7))) (fun _ hk => hk.1.2) (.slice A447_8 ((rd_T49 l0_7 x32_1).f8).length c447_8)) (fun _ hk => hk.1.2) (.slice A447_9 ((rd_T49 l0_7 x32_1).f9).length c447_9)))) (fun _ hk => trivial)⟩,⟨by (with_reducible repeat (first|apply Kd.R_alloc|apply Kd.R_drewN|apply Kd.R_drew));exact Kd.R_mono (rf (rf (Kd.R_far (p:=⟨gb448,9,none⟩) (Kd.R_far (p:=⟨gb448,8,none⟩) (Kd.R_far (p:=⟨gb448,7,none⟩) (Kd.R_far (p:=⟨gb448,6,none⟩) (Kd.R_far (p:=⟨gb448,5,none⟩) (Kd.R_far (p:=⟨gb448,4,none⟩) (Kd.R_far (p:=⟨gb448,3,none⟩) (Kd.R_far (p:=⟨gb448,2,none⟩) (Kd.R_far (p:=⟨gb448,1,none⟩) (Kd.R_far (p:=⟨gb448,0,none⟩) (Kd.R_types (Kd.R_types HO_444002.out BK448.out (by decide)) BK445.out (by decide)) (fun _ hk => hk.1.2) (.int .i64 ((rd_T49 l0_7 x32_1).f0))) (fun _ hk => hk.1.2) (.int .i64 ((rd_T49 l0_7 x32_1).f1))) (fun _ hk => hk.1.2) (.int .i64 ((rd_T49 l0_7 x32_1).f2))) (fun _ hk => hk.1.2) (.int .i64 ((rd_T49 l0_7 x32_1).f3))) (fun _ hk => hk.1.2) (.int .i64 ((rd_T49 l0_7 x32_1).f4))) (fun _ hk => hk.1.2) (.int .i64 ((rd_T49 l0_7 x32_1).f5))) (fun _ hk => hk.1.2) (.int .i64 ((rd_T49 l0_7 x32_1).f6))) (fun _ hk => hk.1.2) (.int .i64 ((rd_T49 l0_7 x32_1).f7))) (fun _ hk => hk.1.2) (.slice A447_8 ((rd_T49 l0_7 x32_1).f8).length c447_8)) (fun _ hk => hk.1.2) (.slice A447_9 ((rd_T49 l0_7 x32_1).f9).length c447_9)))) (fun _ hk => trivial)⟩,⟨by (with_reducible repeat (first|refine bn ?_ _|refine bd ?_|refine ba ?_ _|refine bf ?_ NB430_445.out _|refine bf ?_ NB430_448.out _));exact BK430.out⟩,⟨by (with_reducible repeat (first|refine bn ?_ _|refine bd ?_|refine ba ?_ _|refine bf ?_ NB443_445.out _|refine bf ?_ NB443_448.out _));exact BK443.out⟩,⟨by (with_reducible repeat (first|refine bn ?_ _|refine bd ?_|refine ba ?_ _));refine bp (cs:=#[.int .i64 ((rd_T49 l0_7 x32_1).f1),.int .i64 x446001_1]) ?_ 1 _ rfl;(with_reducible repeat (first|refine bn ?_ _|refine bd ?_|refine ba ?_ _));refine bp (cs:=#[.int .i64 x446000_1,.int .i64 x446001_1]) ?_ 0 _ rfl;(with_reducible repeat (first|refine bn ?_ _|refine bd ?_|refine ba ?_ _));refine bf ?_ NB445_448.out _;(with_reducible repeat (first|refine bn ?_ _|refine bd ?_|refine ba ?_ _));refine bf ?_ NB445_448.out _;(with_reducible repeat (first|refine bn ?_ _|refine bd ?_|refine ba ?_ _));refine bf ?_ NB445_448.out _;(with_reducible repeat (first|refine bn ?_ _|refine bd ?_|refine ba ?_ _));refine bf ?_ NB445_448.out _;(with_reducible repeat (first|refine bn ?_ _|refine bd ?_|refine ba ?_ _));refine bf ?_ NB445_448.out _;(with_reducible repeat (first|refine bn ?_ _|refine bd ?_|refine ba ?_ _));refine bf ?_ NB445_448.out _;(with_reducible repeat (first|refine bn ?_ _|refine bd ?_|refine ba ?_ _));refine bf ?_ NB445_448.out _;(with_reducible repeat (first|refine bn ?_ _|refine bd ?_|refine ba ?_ _));refine bf ?_ NB445_448.out _;(with_reducible repeat (first|refine bn ?_ _|refine bd ?_|refine ba ?_ _));refine bf ?_ NB445_448.out _;(with_reducible repeat (first|refine bn ?_ _|refine bd ?_|refine ba ?_ _));refine bf ?_ NB445_448.out _;(with_reducible repeat (first|refine bn ?_ _|refine bd ?_|refine ba ?_ _));exact BK445.out⟩,⟨by (with_reducible repeat (first|refine bn ?_ _|refine bd ?_|refine ba ?_ _));refine bf ?_ NB448_445.out _;(with_reducible repeat (first|refine bn ?_ _|refine bd ?_|refine ba ?_ _));refine bf ?_ NB448_445.out _;(with_reducible repeat (first|refine bn ?_ _|refine bd ?_|refine ba ?_ _));refine bp (cs:=#[.int .i64 ((rd_T49 l0_7 x32_1).f0),.int .i64 ((rd_T49 l0_7 x32_1).f1),.int .i64 ((rd_T49 l0_7 x32_1).f2),.int .i64 ((rd_T49 l0_7 x32_1).f3),.int .i64 ((rd_T49 l0_7 x32_1).f4),.int .i64 ((rd_T49 l0_7 x32_1).f5),.int .i64 ((rd_T49 l0_7 x32_1).f6),.int .i64 ((rd_T49 l0_7 x32_1).f7),.slice A447_8 ((rd_T49 l0_7 x32_1).f8).length c447_8,.slice none 0 0]) ?_ 9 _ rfl;(with_reducible repeat (first|refine bn ?_ _|refine bd ?_|refine ba ?_ _));refine bp (cs:=#[.int .i64 ((rd_T49 l0_7 x32_1).f0),.int .i64 ((rd_T49 l0_7 x32_1).f1),.int .i64 ((rd_T49 l0_7 x32_1).f2),.int .i64 ((rd_T49 l0_7 x32_1).f3),.int .i64 ((rd_T49 l0_7 x32_1).f4),.int .i64 ((rd_T49 l0_7 x32_1).f5),.int .i64 ((rd_T49 l0_7 x32_1).f6),.int .i64 ((rd_T49 l0_7 x32_1).f7),.slice none 0 0,.slice none 0 0]) ?_ 8 _ rfl;(with_reducible repeat (first|refine bn ?_ _|refine bd ?_|refine ba ?_ _));refine bp (cs:=#[.int .i64 ((rd_T49 l0_7 x32_1).f0),.int .i64 ((rd_T49 l0_7 x32_1).f1),.int .i64 ((rd_T49 l0_7 x32_1).f2),.int .i64 ((rd_T49 l0_7 x32_1).f3),.int .i64 ((rd_T49 l0_7 x32_1).f4),.int .i64 ((rd_T49 l0_7 x32_1).f5),.int .i64 ((rd_T49 l0_7 x32_1).f6),.int .i64 0,.slice none 0 0,.slice none 0 0]) ?_ 7 _ rfl;(with_reducible repeat (first|refine bn ?_ _|refine bd ?_|refine ba ?_ _));refine bp (cs:=#[.int .i64 ((rd_T49 l0_7 x32_1).f0),.int .i64 ((rd_T49 l0_7 x32_1).f1),.int .i64 ((rd_T49 l0_7 x32_1).f2),.int .i64 ((rd_T49 l0_7 x32_1).f3),.int .i64 ((rd_T49 l0_7 x32_1).f4),.int .i64 ((rd_T49 l0_7 x32_1).f5),.int .i64 0,.int .i64 0,.slice none 0 0,.slice none 0 0]) ?_ 6 _ rfl;(with_reducible repeat (first|refine bn ?_ _|refine bd ?_|refine ba ?_ _));refine bp (cs:=#[.int .i64 ((rd_T49 l0_7 x32_1).f0),.int .i64 ((rd_T49 l0_7 x32_1).f1),.int .i64 ((rd_T49 l0_7 x32_1).f2),.int .i64 ((rd_T49 l0_7 x32_1).f3),.int .i64 ((rd_T49 l0_7 x32_1).f4),.int .i64 0,.int .i64 0,.int .i64 0,.slice none 0 0,.slice none 0 0]) ?_ 5 _ rfl;(with_reducible repeat (first|refine bn ?_ _|refine bd ?_|refine ba ?_ _));refine bp (cs:=#[.int .i64 ((rd_T49 l0_7 x32_1).f0),.int .i64 ((rd_T49 l0_7 x32_1).f1),.int .i64 ((rd_T49 l0_7 x32_1).f2),.int .i64 ((rd_T49 l0_7 x32_1).f3),.int .i64 0,.int .i64 0,.int .i64 0,.int .i64 0,.slice none 0 0,.slice none 0 0]) ?_ 4 _ rfl;(with_reducible repeat (first|refine bn ?_ _|refine bd ?_|refine ba ?_ _));refine bp (cs:=#[.int .i64 ((rd_T49 l0_7 x32_1).f0),.int .i64 ((rd_T49 l0_7 x32_1).f1),.int .i64 ((rd_T49 l0_7 x32_1).f2),.int .i64 0,.int .i64 0,.int .i64 0,.int .i64 0,.int .i64 0,.slice none 0 0,.slice none 0 0]) ?_ 3 _ rfl;(with_reducible repeat (first|refine bn ?_ _|refine bd ?_|refine ba ?_ _));refine bp (cs:=#[.int .i64 ((rd_T49 l0_7 x32_1).f0),.int .i64 ((rd_T49 l0_7 x32_1).f1),.int .i64 0,.int .i64 0,.int .i64 0,.int .i64 0,.int .i64 0,.int .i64 0,.slice none 0 0,.slice none 0 0]) ?_ 2 _ rfl;(with_reducible repeat (first|refine bn ?_ _|refine bd ?_|refine ba ?_ _));refine bp (cs:=#[.int .i64 ((rd_T49 l0_7 x32_1).f0),.int .i64 0,.int .i64 0,.int .i64 0,.int .i64 0,.int .i64 0,.int .i64 0,.int .i64 0,.slice none 0 0,.slice none 0 0]) ?_ 1 _ rfl;(with_reducible repeat (first|refine bn ?_ _|refine bd ?_|refine ba ?_ _));refine bp (cs:=#[.int .i64 0,.int .i64 0,.int .i64 0,.int .i64 0,.int .i64 0,.int .i64 0,.int .i64 0,.int .i64 0,.slice none 0 0,.slice none 0 0]) ?_ 0 _ rfl;(with_reducible repeat (first|refine bn ?_ _|refine bd ?_|refine ba ?_ _));exact BK448.out⟩,⟨by repeat (first|(with_reducible first|exact HB.out|apply sa|apply sn|apply sd|refine sy ?_ (by assumption))|exact HB.out)⟩⟩
                  · rw [if_neg c31] at H
                    have c31b0 : (((rd_T49 l0_7 x32_1).f0) == 1) = false:=beq_eq_false_iff_ne.mpr c31;have c31b1 : (((rd_T49 l0_7 x32_1).f0) != 1) = true:=bne_iff_ne.mpr c31
                    (first|rw [c31b0]|(simp only [i64_w,i32_w];rw [c31b0])|skip)
                    have H':=am H;clear H
                    go_wp2
                    go_meet
                    case rel => exact ⟨_,(x446000_1),(x446001_1),H',⟨by have:=HK1.out;first|omega|exact Nat.le_refl _⟩,⟨by (with_reducible repeat (first|apply Kd.N_alloc|apply Kd.N_drewN|apply Kd.N_drew));exact Kd.N_mono (nf (nf (nf (nf (nf (nf (nf (nf (nf (nf (np HO_444000.out))))))))))) (fun _ hk => ⟨hk.1.1.1,⟨hk.1.1.2.1,⟨hk.1.1.2.2.1,⟨hk.1.1.2.2.2.1,⟨hk.1.1.2.2.2.2,hk.1.2⟩⟩⟩⟩⟩)⟩,⟨by (with_reducible repeat (first|apply Kd.R_alloc|apply Kd.R_drewN|apply Kd.R_drew));exact Kd.R_mono (rf (rf (rf (rf (rf (rf (rf (rf (rf (rf (Kd.R_types HO_444001.out BK448.out (by decide)))))))))))) (fun _ hk => trivial)⟩,⟨by (with_reducible repeat (first|apply Kd.R_alloc|apply Kd.R_drewN|apply Kd.R_drew));exact Kd.R_mono (rf (rf (rf (rf (rf (rf (rf (rf (rf (rf (Kd.R_types HO_444002.out BK448.out (by decide)))))))))))) (fun _ hk => trivial)⟩,⟨by (with_reducible repeat (first|refine bn ?_ _|refine bd ?_|refine ba ?_ _|refine bf ?_ NB430_448.out _));exact BK430.out⟩,⟨by (with_reducible repeat (first|refine bn ?_ _|refine bd ?_|refine ba ?_ _|refine bf ?_ NB443_448.out _));exact BK443.out⟩,⟨by (with_reducible repeat (first|refine bn ?_ _|refine bd ?_|refine ba ?_ _|refine bf ?_ NB445_448.out _));exact BK445.out⟩,⟨(bp10 BK448.out)⟩,⟨by repeat (first|(with_reducible first|exact HB.out|apply sa|apply sn|apply sd|refine sy ?_ (by assumption))|exact HB.out)⟩⟩
                case rest =>
                  clear HC25
                  try clear c1
                  try clear c2
                  try clear p2
                  try clear c3
                  try clear c4
                  try clear p4
                  try clear q4
                  try clear hx4
                  try clear c5
                  try clear c5b0
                  try clear c5b1
                  try clear c8
                  try clear c10
                  try clear c13
                  try clear c18
                  try clear c19
                  try clear c22
                  try clear c22b0
                  try clear c23
                  try clear c23b0
                  try clear c24
                  try clear c24b0
                  try clear c27
                  try clear c28
                  try clear c29
                  try clear c31
                  try clear c31b0
                  try clear c31b1
                  try clear c32
                  try clear c33
                  try clear c34
                  try clear c36
                  try clear c37
                  try clear hcz14_0
                  try clear hcz14_1
                  try clear hcz14_2
                  try clear hcz20_0
                  try clear hcz20_1
                  try clear hcz21_0
                  try clear hcz21_1
                  try clear hcz21_2
                  try clear hcz21_3
                  try clear hcz21_4
                  try clear hcz21_5
                  try clear hcz21_6
                  try clear hcz21_7
                  try clear hcz30_0
                  try clear hcz30_1
                  try clear hcz30_2
                  try clear hcz30_3
                  try clear hcz30_4
                  try clear hcz30_5
                  try clear hcz30_6
                  try clear hcz30_7
                  try clear hcz30_8
                  try clear hcz30_9
                  try clear hcz35_0
                  try clear hcz35_1
                  try clear hcz35_2
                  try clear hcz35_3
                  try clear hcz35_4
                  try clear hcz35_5
                  try clear hcz35_6
                  try clear hcz35_7
                  try clear hcz35_8
                  try clear hcz35_9
                  try clear hcz38_0
                  try clear hcz38_1
                  try clear hcz7_0
                  try clear hcz7_1
                  try clear hcz7_2
                  try clear hcz7_3
                  try clear hcz7_4
                  try clear hcz7_5
                  try clear hcz7_6
                  try clear hcz7_7
                  try clear hcz9_0
                  try clear hcz9_1
                  try clear hcz9_2
                  try clear hcz9_3
                  try clear hcz9_4
                  try clear hcz9_5
                  try clear hcz9_6
                  try clear hcz9_7
                  try clear hfz14_0
                  try clear hfz14_1
                  try clear hfz14_2
                  try clear hfz20_0
                  try clear hfz20_1
                  try clear hfz21_0
                  try clear hfz21_1
                  try clear hfz21_2
                  try clear hfz21_3
                  try clear hfz21_4
                  try clear hfz21_5
                  try clear hfz21_6
                  try clear hfz21_7
                  try clear hfz30_0
                  try clear hfz30_1
                  try clear hfz30_2
                  try clear hfz30_3
                  try clear hfz30_4
                  try clear hfz30_5
                  try clear hfz30_6
                  try clear hfz30_7
                  try clear hfz30_8
                  try clear hfz30_9
                  try clear hfz35_0
                  try clear hfz35_1
                  try clear hfz35_2
                  try clear hfz35_3
                  try clear hfz35_4
                  try clear hfz35_5
                  try clear hfz35_6
                  try clear hfz35_7
                  try clear hfz35_8
                  try clear hfz35_9
                  try clear hfz38_0
                  try clear hfz38_1
                  try clear hfz7_0
                  try clear hfz7_1
                  try clear hfz7_2
                  try clear hfz7_3
                  try clear hfz7_4
                  try clear hfz7_5
                  try clear hfz7_6
                  try clear hfz7_7
                  try clear hfz9_0
                  try clear hfz9_1
                  try clear hfz9_2
                  try clear hfz9_3
                  try clear hfz9_4
                  try clear hfz9_5
                  try clear hfz9_6
                  try clear hfz9_7
                  try clear hx447_0
                  try clear hx447_1
                  try clear hx447_2
                  try clear hx447_3
                  try clear hx447_4
                  try clear hx447_5
                  try clear hx447_6
                  try clear hx447_7
                  try clear hx447_8
                  try clear hx447_9
                  try clear p2
                  try clear p447
                  try clear q447
                  obtain ⟨kq,x446000_24,x446001_24,HA,HJ24,HO_444000,HO_444001,HO_444002,BK430,BK443,BK445,BK448,HB⟩:=hcut
                  cases kq with
                  | zero => exact absurd HA.out (by simp [celluloidlaw15_EdgeGoes.j1])
                  | succ kj24 =>
                    have H:=HA.out;clear HA;simp only [celluloidlaw15_EdgeGoes.j1] at H;have HC39:=am H;clear H
                    go_upto_region 12 with (fail)
                    go_cut [51] (fun v51 wc => ∃ (kq : Nat) (x51_38 : Bool),v51 = .bool x51_38 ∧ Aside0 (celluloidlaw15_EdgeGoes.j2 kq x6_1 l0_7 (l0_7.length : Int) x32_1 x51_38 t433 t436 t439 x446000_24 x446001_24 ((rd_T49 l0_7 x32_1).f0) ((rd_T49 l0_7 x32_1).f1) ((rd_T49 l0_7 x32_1).f2) ((rd_T49 l0_7 x32_1).f3) ((rd_T49 l0_7 x32_1).f4) ((rd_T49 l0_7 x32_1).f5) ((rd_T49 l0_7 x32_1).f6) ((rd_T49 l0_7 x32_1).f7) ((rd_T49 l0_7 x32_1).f8) ((rd_T49 l0_7 x32_1).f9) = some r) ∧ Aside0 (kq ≤ kj24) ∧ Aside0 (Kd.N k65 65 wc w.heap.size (fun k_ => some k_ ≠ ((.slice Ao15 t436.length co15) : Value).ownBlock ∧ some k_ ≠ ((.slice Ao16 t439.length co16) : Value).ownBlock ∧ k_ ≠ gb430 ∧ k_ ≠ gb443 ∧ k_ ≠ gb445 ∧ k_ ≠ gb448) (.slice Ao12 t433.length co12) t433) ∧ Aside0 (Kd.R k79 79 wc w.heap.size (fun _ => True) (.slice Ao15 t436.length co15) t436) ∧ Aside0 (Kd.R k51 51 wc w.heap.size (fun _ => True) (.slice Ao16 t439.length co16) t439) ∧ Aside0 (wc.heap[gb430]? = some (.cells #[.int .i64 a0_0,.int .i64 a0_1,.int .i64 a0_2,.int .i64 a0_3,.int .i64 a0_4,(.slice A0_5 l0_5.length c0_5),(.slice A0_6 l0_6.length c0_6),(.slice (some ad447) l0_7.length c0_7)] 28 (0,0))) ∧ Aside0 (wc.heap[gb443]? = some (.cells #[(.slice Ao12 t433.length co12),(.slice Ao15 t436.length co15),(.slice Ao16 t439.length co16)] 33 (0,0))) ∧ Aside0 (wc.heap[gb445]? = some (.cells #[.int .i64 x446000_24,.int .i64 x446001_24] 47 (0,0))) ∧ Aside0 (wc.heap[gb448]? = some (.cells #[.int .i64 ((rd_T49 l0_7 x32_1).f0),.int .i64 ((rd_T49 l0_7 x32_1).f1),.int .i64 ((rd_T49 l0_7 x32_1).f2),.int .i64 ((rd_T49 l0_7 x32_1).f3),.int .i64 ((rd_T49 l0_7 x32_1).f4),.int .i64 ((rd_T49 l0_7 x32_1).f5),.int .i64 ((rd_T49 l0_7 x32_1).f6),.int .i64 ((rd_T49 l0_7 x32_1).f7),(.slice A447_8 ((rd_T49 l0_7 x32_1).f8).length c447_8),(.slice A447_9 ((rd_T49 l0_7 x32_1).f9).length c447_9)] 49 (0,0))) ∧ Aside0 (Below w.heap.size w wc))
                    case first =>
                      have H:=HC39.out;clear HC39
                      by_cases c40 : ((rd_T49 l0_7 x32_1).f0) = 4
                      · rw [if_pos c40] at H
                        have c40b0 : (((rd_T49 l0_7 x32_1).f0) == 4) = true:=beq_iff_eq.mpr c40;have c40b1 : (((rd_T49 l0_7 x32_1).f0) != 4) = false:=bne_eq_false_iff_eq.mpr c40;clear c40
                        (first|rw [c40b0]|(simp only [i64_w,i32_w];rw [c40b0])|skip)
                        have H':=am H;clear H;have hnb41:=NB448_430.out;have hnc41:=NB430_448.out;have hnb42:=NB448_443.out;have hnc42:=NB443_448.out;have hnb43:=NB448_445.out;have hnc43:=NB445_448.out;have hcz44_0 : wc.cell? ⟨gb448,0,none⟩ = some (.int .i64 ((rd_T49 l0_7 x32_1).f0)):=(bc BK448.out 0).trans rfl;have hcz44_1 : wc.cell? ⟨gb448,1,none⟩ = some (.int .i64 ((rd_T49 l0_7 x32_1).f1)):=(bc BK448.out 1).trans rfl;have hcz44_2 : wc.cell? ⟨gb448,2,none⟩ = some (.int .i64 ((rd_T49 l0_7 x32_1).f2)):=(bc BK448.out 2).trans rfl;have hcz44_3 : wc.cell? ⟨gb448,3,none⟩ = some (.int .i64 ((rd_T49 l0_7 x32_1).f3)):=(bc BK448.out 3).trans rfl;have hcz44_4 : wc.cell? ⟨gb448,4,none⟩ = some (.int .i64 ((rd_T49 l0_7 x32_1).f4)):=(bc BK448.out 4).trans rfl;have hcz44_5 : wc.cell? ⟨gb448,5,none⟩ = some (.int .i64 ((rd_T49 l0_7 x32_1).f5)):=(bc BK448.out 5).trans rfl;have hcz44_6 : wc.cell? ⟨gb448,6,none⟩ = some (.int .i64 ((rd_T49 l0_7 x32_1).f6)):=(bc BK448.out 6).trans rfl;have hcz44_7 : wc.cell? ⟨gb448,7,none⟩ = some (.int .i64 ((rd_T49 l0_7 x32_1).f7)):=(bc BK448.out 7).trans rfl;have hcz44_8 : wc.cell? ⟨gb448,8,none⟩ = some (.slice A447_8 ((rd_T49 l0_7 x32_1).f8).length c447_8):=(bc BK448.out 8).trans rfl;have hcz44_9 : wc.cell? ⟨gb448,9,none⟩ = some (.slice A447_9 ((rd_T49 l0_7 x32_1).f9).length c447_9):=(bc BK448.out 9).trans rfl;have hfz44_0:=bz BK448.out 0;have hfz44_1:=bz BK448.out 1;have hfz44_2:=bz BK448.out 2;have hfz44_3:=bz BK448.out 3;have hfz44_4:=bz BK448.out 4;have hfz44_5:=bz BK448.out 5;have hfz44_6:=bz BK448.out 6;have hfz44_7:=bz BK448.out 7;have hfz44_8:=bz BK448.out 8;have hfz44_9:=bz BK448.out 9
                        go_wp2
                        go_meet
                        case rel => exact ⟨_,(false),(by first|rfl|(simp;done)|(simp [*];done)),H',⟨by have:=HK1.out;have:=HJ24.out;first|omega|exact Nat.le_refl _⟩,⟨by (with_reducible repeat (first|apply Kd.N_alloc|apply Kd.N_drewN|apply Kd.N_drew));exact HO_444000.out⟩,⟨by (with_reducible repeat (first|apply Kd.R_alloc|apply Kd.R_drewN|apply Kd.R_drew));exact HO_444001.out⟩,⟨by (with_reducible repeat (first|apply Kd.R_alloc|apply Kd.R_drewN|apply Kd.R_drew));exact HO_444002.out⟩,⟨by exact BK430.out⟩,⟨by exact BK443.out⟩,⟨by exact BK445.out⟩,⟨by exact BK448.out⟩,⟨by repeat (first|(with_reducible first|exact HB.out|apply sa|apply sn|apply sd|refine sy ?_ (by assumption))|exact HB.out)⟩⟩
                      · rw [if_neg c40] at H
                        have c40b0 : (((rd_T49 l0_7 x32_1).f0) == 4) = false:=beq_eq_false_iff_ne.mpr c40;have c40b1 : (((rd_T49 l0_7 x32_1).f0) != 4) = true:=bne_iff_ne.mpr c40
                        (first|rw [c40b0]|(simp only [i64_w,i32_w];rw [c40b0])|skip)
                        have H':=am H;clear H;have hnb45:=NB448_430.out;have hnc45:=NB430_448.out;have hnb46:=NB448_443.out;have hnc46:=NB443_448.out;have hnb47:=NB448_445.out;have hnc47:=NB445_448.out;have hcz48_0 : wc.cell? ⟨gb448,0,none⟩ = some (.int .i64 ((rd_T49 l0_7 x32_1).f0)):=(bc BK448.out 0).trans rfl;have hcz48_1 : wc.cell? ⟨gb448,1,none⟩ = some (.int .i64 ((rd_T49 l0_7 x32_1).f1)):=(bc BK448.out 1).trans rfl;have hcz48_2 : wc.cell? ⟨gb448,2,none⟩ = some (.int .i64 ((rd_T49 l0_7 x32_1).f2)):=(bc BK448.out 2).trans rfl;have hcz48_3 : wc.cell? ⟨gb448,3,none⟩ = some (.int .i64 ((rd_T49 l0_7 x32_1).f3)):=(bc BK448.out 3).trans rfl;have hcz48_4 : wc.cell? ⟨gb448,4,none⟩ = some (.int .i64 ((rd_T49 l0_7 x32_1).f4)):=(bc BK448.out 4).trans rfl;have hcz48_5 : wc.cell? ⟨gb448,5,none⟩ = some (.int .i64 ((rd_T49 l0_7 x32_1).f5)):=(bc BK448.out 5).trans rfl;have hcz48_6 : wc.cell? ⟨gb448,6,none⟩ = some (.int .i64 ((rd_T49 l0_7 x32_1).f6)):=(bc BK448.out 6).trans rfl;have hcz48_7 : wc.cell? ⟨gb448,7,none⟩ = some (.int .i64 ((rd_T49 l0_7 x32_1).f7)):=(bc BK448.out 7).trans rfl;have hcz48_8 : wc.cell? ⟨gb448,8,none⟩ = some (.slice A447_8 ((rd_T49 l0_7 x32_1).f8).length c447_8):=(bc BK448.out 8).trans rfl;have hcz48_9 : wc.cell? ⟨gb448,9,none⟩ = some (.slice A447_9 ((rd_T49 l0_7 x32_1).f9).length c447_9):=(bc BK448.out 9).trans rfl;have hfz48_0:=bz BK448.out 0;have hfz48_1:=bz BK448.out 1;have hfz48_2:=bz BK448.out 2;have hfz48_3:=bz BK448.out 3;have hfz48_4:=bz BK448.out 4;have hfz48_5:=bz BK448.out 5;have hfz48_6:=bz BK448.out 6;have hfz48_7:=bz BK448.out 7;have hfz48_8:=bz BK448.out 8;have hfz48_9:=bz BK448.out 9
                        go_wp2
                        go_meet
                        case rel => exact ⟨_,((((rd_T49 l0_7 x32_1).f0) != 5)),(by first|rfl|(simp;done)|(simp [*];done)),H',⟨by have:=HK1.out;have:=HJ24.out;first|omega|exact Nat.le_refl _⟩,⟨by (with_reducible repeat (first|apply Kd.N_alloc|apply Kd.N_drewN|apply Kd.N_drew));exact HO_444000.out⟩,⟨by (with_reducible repeat (first|apply Kd.R_alloc|apply Kd.R_drewN|apply Kd.R_drew));exact HO_444001.out⟩,⟨by (with_reducible repeat (first|apply Kd.R_alloc|apply Kd.R_drewN|apply Kd.R_drew));exact HO_444002.out⟩,⟨by exact BK430.out⟩,⟨by exact BK443.out⟩,⟨by exact BK445.out⟩,⟨by exact BK448.out⟩,⟨by repeat (first|(with_reducible first|exact HB.out|apply sa|apply sn|apply sd|refine sy ?_ (by assumption))|exact HB.out)⟩⟩
                    case rest =>
                      clear HC39
                      try clear c1
                      try clear c2
                      try clear p2
                      try clear c3
                      try clear c4
                      try clear p4
                      try clear q4
                      try clear hx4
                      try clear c5
                      try clear c5b0
                      try clear c5b1
                      try clear c8
                      try clear c10
                      try clear c13
                      try clear c18
                      try clear c19
                      try clear c22
                      try clear c22b0
                      try clear c23
                      try clear c23b0
                      try clear c24
                      try clear c24b0
                      try clear c27
                      try clear c28
                      try clear c29
                      try clear c31
                      try clear c31b0
                      try clear c31b1
                      try clear c32
                      try clear c33
                      try clear c34
                      try clear c36
                      try clear c37
                      try clear c40
                      try clear c40b0
                      try clear c40b1
                      try clear c41
                      try clear c42
                      try clear c43
                      try clear c44
                      try clear p44
                      try clear q44
                      try clear hx44
                      try clear c45
                      try clear c46
                      try clear c47
                      try clear hcz14_0
                      try clear hcz14_1
                      try clear hcz14_2
                      try clear hcz20_0
                      try clear hcz20_1
                      try clear hcz21_0
                      try clear hcz21_1
                      try clear hcz21_2
                      try clear hcz21_3
                      try clear hcz21_4
                      try clear hcz21_5
                      try clear hcz21_6
                      try clear hcz21_7
                      try clear hcz30_0
                      try clear hcz30_1
                      try clear hcz30_2
                      try clear hcz30_3
                      try clear hcz30_4
                      try clear hcz30_5
                      try clear hcz30_6
                      try clear hcz30_7
                      try clear hcz30_8
                      try clear hcz30_9
                      try clear hcz35_0
                      try clear hcz35_1
                      try clear hcz35_2
                      try clear hcz35_3
                      try clear hcz35_4
                      try clear hcz35_5
                      try clear hcz35_6
                      try clear hcz35_7
                      try clear hcz35_8
                      try clear hcz35_9
                      try clear hcz38_0
                      try clear hcz38_1
                      try clear hcz44_0
                      try clear hcz44_1
                      try clear hcz44_2
                      try clear hcz44_3
                      try clear hcz44_4
                      try clear hcz44_5
                      try clear hcz44_6
                      try clear hcz44_7
                      try clear hcz44_8
                      try clear hcz44_9
                      try clear hcz48_0
                      try clear hcz48_1
                      try clear hcz48_2
                      try clear hcz48_3
                      try clear hcz48_4
                      try clear hcz48_5
                      try clear hcz48_6
                      try clear hcz48_7
                      try clear hcz48_8
                      try clear hcz48_9
                      try clear hcz7_0
                      try clear hcz7_1
                      try clear hcz7_2
                      try clear hcz7_3
                      try clear hcz7_4
                      try clear hcz7_5
                      try clear hcz7_6
                      try clear hcz7_7
                      try clear hcz9_0
                      try clear hcz9_1
                      try clear hcz9_2
                      try clear hcz9_3
                      try clear hcz9_4
                      try clear hcz9_5
                      try clear hcz9_6
                      try clear hcz9_7
                      try clear hfz14_0
                      try clear hfz14_1
                      try clear hfz14_2
                      try clear hfz20_0
                      try clear hfz20_1
                      try clear hfz21_0
                      try clear hfz21_1
                      try clear hfz21_2
                      try clear hfz21_3
                      try clear hfz21_4
                      try clear hfz21_5
                      try clear hfz21_6
                      try clear hfz21_7
                      try clear hfz30_0
                      try clear hfz30_1
                      try clear hfz30_2
                      try clear hfz30_3
                      try clear hfz30_4
                      try clear hfz30_5
                      try clear hfz30_6
                      try clear hfz30_7
                      try clear hfz30_8
                      try clear hfz30_9
                      try clear hfz35_0
                      try clear hfz35_1
                      try clear hfz35_2
                      try clear hfz35_3
                      try clear hfz35_4
                      try clear hfz35_5
                      try clear hfz35_6
                      try clear hfz35_7
                      try clear hfz35_8
                      try clear hfz35_9
                      try clear hfz38_0
                      try clear hfz38_1
                      try clear hfz44_0
                      try clear hfz44_1
                      try clear hfz44_2
                      try clear hfz44_3
                      try clear hfz44_4
                      try clear hfz44_5
                      try clear hfz44_6
                      try clear hfz44_7
                      try clear hfz44_8
                      try clear hfz44_9
                      try clear hfz48_0
                      try clear hfz48_1
                      try clear hfz48_2
                      try clear hfz48_3
                      try clear hfz48_4
                      try clear hfz48_5
                      try clear hfz48_6
                      try clear hfz48_7
                      try clear hfz48_8
                      try clear hfz48_9
                      try clear hfz7_0
                      try clear hfz7_1
                      try clear hfz7_2
                      try clear hfz7_3
                      try clear hfz7_4
                      try clear hfz7_5
                      try clear hfz7_6
                      try clear hfz7_7
                      try clear hfz9_0
                      try clear hfz9_1
                      try clear hfz9_2
                      try clear hfz9_3
                      try clear hfz9_4
                      try clear hfz9_5
                      try clear hfz9_6
                      try clear hfz9_7
                      try clear hx447_0
                      try clear hx447_1
                      try clear hx447_2
                      try clear hx447_3
                      try clear hx447_4
                      try clear hx447_5
                      try clear hx447_6
                      try clear hx447_7
                      try clear hx447_8
                      try clear hx447_9
                      try clear p2
                      try clear p4
                      try clear p447
                      try clear q4
                      try clear q447
                      obtain ⟨kq,x51_38,rfl,HA,HJ38,HO_444000,HO_444001,HO_444002,BK430,BK443,BK445,BK448,HB⟩:=hcut
                      cases kq with
                      | zero => exact absurd HA.out (by simp [celluloidlaw15_EdgeGoes.j2])
                      | succ kj38 =>
                        have H:=HA.out;clear HA;simp only [celluloidlaw15_EdgeGoes.j2] at H
                        by_cases c49 : x51_38 = true
                        · subst c49
                          have H1 : (celluloidlaw15_EdgeGoes.l0 kj38 x6_1 l0_7 (l0_7.length : Int) (wrap64 (x32_1 + 1)) t433 t436 t439 x446000_24 x446001_24) = some r:=by rw [if_pos rfl] at H;exact H
                          clear H;have H:=H1;clear H1;have H':=am H;clear H
                          go_wp2
                          go_roundg kj38
                          case measure => have:=HK1.out;have:=HJ24.out;have:=HJ38.out;omega
                          case rel => exact ⟨(x6_1),(wrap64 (x32_1 + 1)),(x446000_24),(x446001_24),(by first|rfl|(simp;done)|(simp [*];done)),(by first|rfl|(simp;done)|(simp [*];done)),H',⟨by have:=HK1.out;have:=HJ24.out;have:=HJ38.out;omega⟩,⟨by (with_reducible repeat (first|apply Kd.N_alloc|apply Kd.N_drewN|apply Kd.N_drew));exact Kd.N_mono HO_444000.out (fun _ hk => ⟨hk.1,⟨hk.2.1,⟨hk.2.2.1,⟨hk.2.2.2.1,hk.2.2.2.2.1⟩⟩⟩⟩)⟩,⟨by (with_reducible repeat (first|apply Kd.R_alloc|apply Kd.R_drewN|apply Kd.R_drew));exact HO_444001.out⟩,⟨by (with_reducible repeat (first|apply Kd.R_alloc|apply Kd.R_drewN|apply Kd.R_drew));exact HO_444002.out⟩,⟨by exact BK430.out⟩,⟨by exact BK443.out⟩,⟨by exact BK445.out⟩,⟨by repeat (first|(with_reducible first|exact HB.out|apply sa|apply sn|apply sd|refine sy ?_ (by assumption))|exact HB.out)⟩⟩
                        · replace c49:=Bool.eq_false_iff.mpr c49
                          subst c49
                          have H1 : (if x6_1 ≥ (t439.length : Int) then (some false) else (if 0 ≤ x6_1 then (if x6_1 < (t439.length : Int) then (if (!(((rd_T51 t439 x6_1).f0.f0) == x446000_24) || (!(((rd_T51 t439 x6_1).f0.f1) == x446001_24))) = true then (celluloidlaw15_EdgeGoes.j3 kj38 (wrap64 (x6_1 + 1)) l0_7 (l0_7.length : Int) x32_1 true t433 t436 t439 ((rd_T49 l0_7 x32_1).f0) ((rd_T49 l0_7 x32_1).f1) ((rd_T49 l0_7 x32_1).f2) ((rd_T49 l0_7 x32_1).f3) ((rd_T49 l0_7 x32_1).f4) ((rd_T49 l0_7 x32_1).f5) ((rd_T49 l0_7 x32_1).f6) ((rd_T49 l0_7 x32_1).f7) ((rd_T49 l0_7 x32_1).f8) ((rd_T49 l0_7 x32_1).f9) ((rd_T51 t439 x6_1).f0.f0) ((rd_T51 t439 x6_1).f0.f1) ((rd_T51 t439 x6_1).f1.f0) ((rd_T51 t439 x6_1).f1.f1) ((rd_T51 t439 x6_1).f2.f0) ((rd_T51 t439 x6_1).f2.f1) ((rd_T51 t439 x6_1).f3) ((rd_T51 t439 x6_1).f4) ((rd_T51 t439 x6_1).f5) ((rd_T51 t439 x6_1).f6)) else (if (((rd_T51 t439 x6_1).f3) != (((rd_T49 l0_7 x32_1).f0) == 5)) = true then (celluloidlaw15_EdgeGoes.j3 kj38 (wrap64 (x6_1 + 1)) l0_7 (l0_7.length : Int) x32_1 true t433 t436 t439 ((rd_T49 l0_7 x32_1).f0) ((rd_T49 l0_7 x32_1).f1) ((rd_T49 l0_7 x32_1).f2) ((rd_T49 l0_7 x32_1).f3) ((rd_T49 l0_7 x32_1).f4) ((rd_T49 l0_7 x32_1).f5) ((rd_T49 l0_7 x32_1).f6) ((rd_T49 l0_7 x32_1).f7) ((rd_T49 l0_7 x32_1).f8) ((rd_T49 l0_7 x32_1).f9) ((rd_T51 t439 x6_1).f0.f0) ((rd_T51 t439 x6_1).f0.f1) ((rd_T51 t439 x6_1).f1.f0) ((rd_T51 t439 x6_1).f1.f1) ((rd_T51 t439 x6_1).f2.f0) ((rd_T51 t439 x6_1).f2.f1) ((rd_T51 t439 x6_1).f3) ((rd_T51 t439 x6_1).f4) ((rd_T51 t439 x6_1).f5) ((rd_T51 t439 x6_1).f6)) else (if ((rd_T51 t439 x6_1).f4) < 0 then (celluloidlaw15_EdgeGoes.j3 kj38 (wrap64 (x6_1 + 1)) l0_7 (l0_7.length : Int) x32_1 true t433 t436 t439 ((rd_T49 l0_7 x32_1).f0) ((rd_T49 l0_7 x32_1).f1) ((rd_T49 l0_7 x32_1).f2) ((rd_T49 l0_7 x32_1).f3) ((rd_T49 l0_7 x32_1).f4) ((rd_T49 l0_7 x32_1).f5) ((rd_T49 l0_7 x32_1).f6) ((rd_T49 l0_7 x32_1).f7) ((rd_T49 l0_7 x32_1).f8) ((rd_T49 l0_7 x32_1).f9) ((rd_T51 t439 x6_1).f0.f0) ((rd_T51 t439 x6_1).f0.f1) ((rd_T51 t439 x6_1).f1.f0) ((rd_T51 t439 x6_1).f1.f1) ((rd_T51 t439 x6_1).f2.f0) ((rd_T51 t439 x6_1).f2.f1) ((rd_T51 t439 x6_1).f3) ((rd_T51 t439 x6_1).f4) ((rd_T51 t439 x6_1).f5) ((rd_T51 t439 x6_1).f6)) else (if ((rd_T51 t439 x6_1).f5) < 0 then (celluloidlaw15_EdgeGoes.j3 kj38 (wrap64 (x6_1 + 1)) l0_7 (l0_7.length : Int) x32_1 true t433 t436 t439 ((rd_T49 l0_7 x32_1).f0) ((rd_T49 l0_7 x32_1).f1) ((rd_T49 l0_7 x32_1).f2) ((rd_T49 l0_7 x32_1).f3) ((rd_T49 l0_7 x32_1).f4) ((rd_T49 l0_7 x32_1).f5) ((rd_T49 l0_7 x32_1).f6) ((rd_T49 l0_7 x32_1).f7) ((rd_T49 l0_7 x32_1).f8) ((rd_T49 l0_7 x32_1).f9) ((rd_T51 t439 x6_1).f0.f0) ((rd_T51 t439 x6_1).f0.f1) ((rd_T51 t439 x6_1).f1.f0) ((rd_T51 t439 x6_1).f1.f1) ((rd_T51 t439 x6_1).f2.f0) ((rd_T51 t439 x6_1).f2.f1) ((rd_T51 t439 x6_1).f3) ((rd_T51 t439 x6_1).f4) ((rd_T51 t439 x6_1).f5) ((rd_T51 t439 x6_1).f6)) else (if ((rd_T51 t439 x6_1).f6) < 0 then (celluloidlaw15_EdgeGoes.j3 kj38 (wrap64 (x6_1 + 1)) l0_7 (l0_7.length : Int) x32_1 true t433 t436 t439 ((rd_T49 l0_7 x32_1).f0) ((rd_T49 l0_7 x32_1).f1) ((rd_T49 l0_7 x32_1).f2) ((rd_T49 l0_7 x32_1).f3) ((rd_T49 l0_7 x32_1).f4) ((rd_T49 l0_7 x32_1).f5) ((rd_T49 l0_7 x32_1).f6) ((rd_T49 l0_7 x32_1).f7) ((rd_T49 l0_7 x32_1).f8) ((rd_T49 l0_7 x32_1).f9) ((rd_T51 t439 x6_1).f0.f0) ((rd_T51 t439 x6_1).f0.f1) ((rd_T51 t439 x6_1).f1.f0) ((rd_T51 t439 x6_1).f1.f1) ((rd_T51 t439 x6_1).f2.f0) ((rd_T51 t439 x6_1).f2.f1) ((rd_T51 t439 x6_1).f3) ((rd_T51 t439 x6_1).f4) ((rd_T51 t439 x6_1).f5) ((rd_T51 t439 x6_1).f6)) else (if (mx ((rd_T51 t439 x6_1).f4) ((rd_T51 t439 x6_1).f5)) > (t433.length : Int) then (celluloidlaw15_EdgeGoes.j3 kj38 (wrap64 (x6_1 + 1)) l0_7 (l0_7.length : Int) x32_1 true t433 t436 t439 ((rd_T49 l0_7 x32_1).f0) ((rd_T49 l0_7 x32_1).f1) ((rd_T49 l0_7 x32_1).f2) ((rd_T49 l0_7 x32_1).f3) ((rd_T49 l0_7 x32_1).f4) ((rd_T49 l0_7 x32_1).f5) ((rd_T49 l0_7 x32_1).f6) ((rd_T49 l0_7 x32_1).f7) ((rd_T49 l0_7 x32_1).f8) ((rd_T49 l0_7 x32_1).f9) ((rd_T51 t439 x6_1).f0.f0) ((rd_T51 t439 x6_1).f0.f1) ((rd_T51 t439 x6_1).f1.f0) ((rd_T51 t439 x6_1).f1.f1) ((rd_T51 t439 x6_1).f2.f0) ((rd_T51 t439 x6_1).f2.f1) ((rd_T51 t439 x6_1).f3) ((rd_T51 t439 x6_1).f4) ((rd_T51 t439 x6_1).f5) ((rd_T51 t439 x6_1).f6)) else (if ((rd_T51 t439 x6_1).f6) > (t436.length : Int) then (celluloidlaw15_EdgeGoes.j3 kj38 (wrap64 (x6_1 + 1)) l0_7 (l0_7.length : Int) x32_1 true t433 t436 t439 ((rd_T49 l0_7 x32_1).f0) ((rd_T49 l0_7 x32_1).f1) ((rd_T49 l0_7 x32_1).f2) ((rd_T49 l0_7 x32_1).f3) ((rd_T49 l0_7 x32_1).f4) ((rd_T49 l0_7 x32_1).f5) ((rd_T49 l0_7 x32_1).f6) ((rd_T49 l0_7 x32_1).f7) ((rd_T49 l0_7 x32_1).f8) ((rd_T49 l0_7 x32_1).f9) ((rd_T51 t439 x6_1).f0.f0) ((rd_T51 t439 x6_1).f0.f1) ((rd_T51 t439 x6_1).f1.f0) ((rd_T51 t439 x6_1).f1.f1) ((rd_T51 t439 x6_1).f2.f0) ((rd_T51 t439 x6_1).f2.f1) ((rd_T51 t439 x6_1).f3) ((rd_T51 t439 x6_1).f4) ((rd_T51 t439 x6_1).f5) ((rd_T51 t439 x6_1).f6)) else (if ((rd_T51 t439 x6_1).f3 = true) then (celluloidlaw15_EdgeGoes.j3 kj38 (wrap64 (x6_1 + 1)) l0_7 (l0_7.length : Int) x32_1 false t433 t436 t439 ((rd_T49 l0_7 x32_1).f0) ((rd_T49 l0_7 x32_1).f1) ((rd_T49 l0_7 x32_1).f2) ((rd_T49 l0_7 x32_1).f3) ((rd_T49 l0_7 x32_1).f4) ((rd_T49 l0_7 x32_1).f5) ((rd_T49 l0_7 x32_1).f6) ((rd_T49 l0_7 x32_1).f7) ((rd_T49 l0_7 x32_1).f8) ((rd_T49 l0_7 x32_1).f9) ((rd_T51 t439 x6_1).f0.f0) ((rd_T51 t439 x6_1).f0.f1) ((rd_T51 t439 x6_1).f1.f0) ((rd_T51 t439 x6_1).f1.f1) ((rd_T51 t439 x6_1).f2.f0) ((rd_T51 t439 x6_1).f2.f1) ((rd_T51 t439 x6_1).f3) ((rd_T51 t439 x6_1).f4) ((rd_T51 t439 x6_1).f5) ((rd_T51 t439 x6_1).f6)) else (celluloidlaw15_EdgeGoes.j3 kj38 (wrap64 (x6_1 + 1)) l0_7 (l0_7.length : Int) x32_1 (!(((rd_T51 t439 x6_1).f1.f0) == 0) || (!(((rd_T51 t439 x6_1).f1.f1) == 0))) t433 t436 t439 ((rd_T49 l0_7 x32_1).f0) ((rd_T49 l0_7 x32_1).f1) ((rd_T49 l0_7 x32_1).f2) ((rd_T49 l0_7 x32_1).f3) ((rd_T49 l0_7 x32_1).f4) ((rd_T49 l0_7 x32_1).f5) ((rd_T49 l0_7 x32_1).f6) ((rd_T49 l0_7 x32_1).f7) ((rd_T49 l0_7 x32_1).f8) ((rd_T49 l0_7 x32_1).f9) ((rd_T51 t439 x6_1).f0.f0) ((rd_T51 t439 x6_1).f0.f1) ((rd_T51 t439 x6_1).f1.f0) ((rd_T51 t439 x6_1).f1.f1) ((rd_T51 t439 x6_1).f2.f0) ((rd_T51 t439 x6_1).f2.f1) ((rd_T51 t439 x6_1).f3) ((rd_T51 t439 x6_1).f4) ((rd_T51 t439 x6_1).f5) ((rd_T51 t439 x6_1).f6)))))))))) else (none)) else (none))) = some r:=by rw [if_neg (show ¬ (false = true) by decide)] at H;exact H
                          clear H;have H:=H1;clear H1
                          by_cases c50 : x6_1 ≥ (t439.length : Int)
                          · rw [if_pos c50] at H
                            have c50b0 : decide ((t439.length : Int) ≤ x6_1) = true:=decide_eq_true c50;clear c50;obtain rfl:=Option.some.inj H;have hnb51:=NB443_430.out;have hnc51:=NB430_443.out;have hnb52:=NB443_445.out;have hnc52:=NB445_443.out;have hnb53:=NB443_448.out;have hnc53:=NB448_443.out;have hcz54_0 : wc.cell? ⟨gb443,0,none⟩ = some (.slice Ao12 t433.length co12):=(bc BK443.out 0).trans rfl;have hcz54_1 : wc.cell? ⟨gb443,1,none⟩ = some (.slice Ao15 t436.length co15):=(bc BK443.out 1).trans rfl;have hcz54_2 : wc.cell? ⟨gb443,2,none⟩ = some (.slice Ao16 t439.length co16):=(bc BK443.out 2).trans rfl;have hfz54_0:=bz BK443.out 0;have hfz54_1:=bz BK443.out 1;have hfz54_2:=bz BK443.out 2
                            go_wp2
                            go_ret
                            exact ⟨by first|rfl|(simp [errW_none,errW_some] <;> rfl)|(simp [*,errW_none,errW_some] <;> rfl),by repeat (first|(with_reducible first|exact HB.out|apply sa|apply sn|apply sd|refine sy ?_ (by assumption))|exact HB.out)⟩
                          · rw [if_neg c50] at H
                            have c50b0 : decide ((t439.length : Int) ≤ x6_1) = false:=decide_eq_false c50;clear c50
                            by_cases c55 : 0 ≤ x6_1
                            · rw [if_pos c55] at H
                              have c55b0 : decide (0 ≤ x6_1) = true:=decide_eq_true c55;clear c55
                              by_cases c56 : x6_1 < (t439.length : Int)
                              · rw [if_pos c56] at H
                                have c56b0 : decide (x6_1 < (t439.length : Int)) = true:=decide_eq_true c56;clear c56;have HC57:=am H;clear H;have hnb58:=NB443_430.out;have hnc58:=NB430_443.out;have hnb59:=NB443_445.out;have hnc59:=NB445_443.out;have hnb60:=NB443_448.out;have hnc60:=NB448_443.out;have hcz61_0 : wc.cell? ⟨gb443,0,none⟩ = some (.slice Ao12 t433.length co12):=(bc BK443.out 0).trans rfl;have hcz61_1 : wc.cell? ⟨gb443,1,none⟩ = some (.slice Ao15 t436.length co15):=(bc BK443.out 1).trans rfl;have hcz61_2 : wc.cell? ⟨gb443,2,none⟩ = some (.slice Ao16 t439.length co16):=(bc BK443.out 2).trans rfl;have hfz61_0:=bz BK443.out 0;have hfz61_1:=bz BK443.out 1;have hfz61_2:=bz BK443.out 2;have p449 : 0 ≤ (x6_1 : Int):=of_decide_eq_true (by first|(with_reducible assumption)|assumption);have q449 : x6_1 < (t439.length : Int):=of_decide_eq_true (by first|(with_reducible assumption)|assumption);obtain ⟨ad449,e449,hx449_0,hx449_1,hx449_2,hx449_3,hx449_4,hx449_5,hx449_6,hx449_7,hx449_8,hx449_9⟩:=at_T51 (Kd.R_reads' HO_444002.out).2.2 x6_1 p449 q449
                                cases e449
                                replace p449:=eq_true p449;replace q449:=eq_true q449
                                go_upto_region 17 with (first|((with_reducible refine gate_dst (N:=9) rfl ?_);(try (refine gate_guard (by rfl) ?_;dsimp only));refine box_event ?hg (N:=9) ?hd (cs:=#[.int .i64 0,.int .i64 0,.int .i64 0,.int .i64 0,.int .i64 0,.int .i64 0,.bool false,.int .i64 0,.int .i64 0,.int .i64 0]) (t:=51) ?hr ?_;(case hd => rfl);(case hg => rfl);(case hr => first|(go_simp;done)|(go_simp;rfl));intro gb450 hg w62 hbox hb;have n0_:=am (nE (by (with_reducible repeat (first|apply Kd.N_alloc|apply Kd.N_drewN|apply Kd.N_drew));exact HO_444000.out) hg hb);have n1_:=am (Kd.R_below (by (with_reducible repeat (first|apply Kd.R_alloc|apply Kd.R_drewN|apply Kd.R_drew));exact HO_444001.out) hb);have n2_:=am (rE (by (with_reducible repeat (first|apply Kd.R_alloc|apply Kd.R_drewN|apply Kd.R_drew));exact HO_444002.out) hg hb);have n3_:=am (bw (by exact BK430.out) hb);have n4_:=am (bw (by exact BK443.out) hb);have n5_:=am (bw (by exact BK445.out) hb);have n6_:=am (bw (by exact BK448.out) hb);have n7_:=am (ss (by repeat (first|(with_reducible first|exact HB.out|apply sa|apply sn|apply sd|refine sy ?_ (by assumption))|exact HB.out)) hb);have n8_:=am (hbox);have n9_:=am ((by rw [hg];exact (sz (by repeat (first|(with_reducible first|exact HB.out|apply sa|apply sn|apply sd|refine sy ?_ (by assumption))|exact HB.out))) : w.heap.size ≤ gb450));have n10_:=n9_;have n11_:=nb (by exact BK430.out) hg;have n12_:=am (Ne.symm n11_.out);have n13_:=nb (by exact BK443.out) hg;have n14_:=am (Ne.symm n13_.out);have n15_:=nb (by exact BK445.out) hg;have n16_:=am (Ne.symm n15_.out);have n17_:=nb (by exact BK448.out) hg;have n18_:=ng (by exact BK448.out) hg;clear HO_444000;clear HO_444001;clear HO_444002;clear BK430;clear BK443;clear BK445;clear BK448;clear HB;have HO_444000:=n0_;have HO_444001:=n1_;have HO_444002:=n2_;have BK430:=n3_;have BK443:=n4_;have BK445:=n5_;have BK448:=n6_;have HB:=n7_;have BK450:=n8_;have GW450:=n9_;have GE450:=n10_;have NB430_450:=n11_;have NB450_430:=n12_;have NB443_450:=n13_;have NB450_443:=n14_;have NB445_450:=n15_;have NB450_445:=n16_;have NB448_450:=n17_;have NB450_448:=n18_;clear n0_ n1_ n2_ n3_ n4_ n5_ n6_ n7_ n8_ n9_ n10_ n11_ n12_ n13_ n14_ n15_ n16_ n17_ n18_;clear hb hbox hg;have hnb63:=NB450_430.out;have hnc63:=NB430_450.out;have hnb64:=NB450_443.out;have hnc64:=NB443_450.out;have hnb65:=NB450_445.out;have hnc65:=NB445_450.out;have hnb66:=NB450_448.out;have hnc66:=NB448_450.out;obtain ⟨hcz67_0,hcz67_1,hcz67_2,hcz67_3,hcz67_4,hcz67_5,hcz67_6,hcz67_7,hcz67_8,hcz67_9⟩:=cq10 BK450.out;obtain ⟨hfz67_0,hfz67_1,hfz67_2,hfz67_3,hfz67_4,hfz67_5,hfz67_6,hfz67_7,hfz67_8,hfz67_9⟩:=fq10 BK450.out))
                                (try simp only [Act.put,q1,q2,q3])
                                go_cut [120] (fun v120 wc => ∃ (kq : Nat) (x120_56 : Bool),v120 = .bool x120_56 ∧ Aside0 (celluloidlaw15_EdgeGoes.j3 kq (wrap64 (x6_1 + 1)) l0_7 (l0_7.length : Int) x32_1 x120_56 t433 t436 t439 ((rd_T49 l0_7 x32_1).f0) ((rd_T49 l0_7 x32_1).f1) ((rd_T49 l0_7 x32_1).f2) ((rd_T49 l0_7 x32_1).f3) ((rd_T49 l0_7 x32_1).f4) ((rd_T49 l0_7 x32_1).f5) ((rd_T49 l0_7 x32_1).f6) ((rd_T49 l0_7 x32_1).f7) ((rd_T49 l0_7 x32_1).f8) ((rd_T49 l0_7 x32_1).f9) ((rd_T51 t439 x6_1).f0.f0) ((rd_T51 t439 x6_1).f0.f1) ((rd_T51 t439 x6_1).f1.f0) ((rd_T51 t439 x6_1).f1.f1) ((rd_T51 t439 x6_1).f2.f0) ((rd_T51 t439 x6_1).f2.f1) ((rd_T51 t439 x6_1).f3) ((rd_T51 t439 x6_1).f4) ((rd_T51 t439 x6_1).f5) ((rd_T51 t439 x6_1).f6) = some r) ∧ Aside0 (kq ≤ kj38) ∧ Aside0 (Kd.N k65 65 wc w.heap.size (fun k_ => some k_ ≠ ((.slice Ao15 t436.length co15) : Value).ownBlock ∧ some k_ ≠ ((.slice (some ad449) t439.length co16) : Value).ownBlock ∧ k_ ≠ gb430 ∧ k_ ≠ gb443 ∧ k_ ≠ gb445 ∧ k_ ≠ gb448 ∧ k_ ≠ gb450) (.slice Ao12 t433.length co12) t433) ∧ Aside0 (Kd.R k79 79 wc w.heap.size (fun _ => True) (.slice Ao15 t436.length co15) t436) ∧ Aside0 (Kd.R k51 51 wc w.heap.size (fun k_ => k_ ≠ gb450) (.slice (some ad449) t439.length co16) t439) ∧ Aside0 (wc.heap[gb430]? = some (.cells #[.int .i64 a0_0,.int .i64 a0_1,.int .i64 a0_2,.int .i64 a0_3,.int .i64 a0_4,(.slice A0_5 l0_5.length c0_5),(.slice A0_6 l0_6.length c0_6),(.slice (some ad447) l0_7.length c0_7)] 28 (0,0))) ∧ Aside0 (wc.heap[gb443]? = some (.cells #[(.slice Ao12 t433.length co12),(.slice Ao15 t436.length co15),(.slice (some ad449) t439.length co16)] 33 (0,0))) ∧ Aside0 (wc.heap[gb445]? = some (.cells #[.int .i64 x446000_24,.int .i64 x446001_24] 47 (0,0))) ∧ Aside0 (wc.heap[gb448]? = some (.cells #[.int .i64 ((rd_T49 l0_7 x32_1).f0),.int .i64 ((rd_T49 l0_7 x32_1).f1),.int .i64 ((rd_T49 l0_7 x32_1).f2),.int .i64 ((rd_T49 l0_7 x32_1).f3),.int .i64 ((rd_T49 l0_7 x32_1).f4),.int .i64 ((rd_T49 l0_7 x32_1).f5),.int .i64 ((rd_T49 l0_7 x32_1).f6),.int .i64 ((rd_T49 l0_7 x32_1).f7),(.slice A447_8 ((rd_T49 l0_7 x32_1).f8).length c447_8),(.slice A447_9 ((rd_T49 l0_7 x32_1).f9).length c447_9)] 49 (0,0))) ∧ Aside0 (wc.heap[gb450]? = some (.cells #[.int .i64 ((rd_T51 t439 x6_1).f0.f0),.int .i64 ((rd_T51 t439 x6_1).f0.f1),.int .i64 ((rd_T51 t439 x6_1).f1.f0),.int .i64 ((rd_T51 t439 x6_1).f1.f1),.int .i64 ((rd_T51 t439 x6_1).f2.f0),.int .i64 ((rd_T51 t439 x6_1).f2.f1),.bool ((rd_T51 t439 x6_1).f3),.int .i64 ((rd_T51 t439 x6_1).f4),.int .i64 ((rd_T51 t439 x6_1).f5),.int .i64 ((rd_T51 t439 x6_1).f6)] 51 (0,0))) ∧ Aside0 (Below w.heap.size w wc))
                                case first =>
                                  have H:=HC57.out;clear HC57
                                  by_cases c68 : (!(((rd_T51 t439 x6_1).f0.f0) == x446000_24) || (!(((rd_T51 t439 x6_1).f0.f1) == x446001_24))) = true
                                  · rw [if_pos c68] at H
                                    have c68b0 : (!(((rd_T51 t439 x6_1).f0.f0) == x446000_24) || (!(((rd_T51 t439 x6_1).f0.f1) == x446001_24))) = true:=c68;clear c68
                                    (first|rw [c68b0]|(simp only [i64_w,i32_w];rw [c68b0])|skip)
                                    have H':=am H;clear H;have hnb69:=NB450_430.out;have hnc69:=NB430_450.out;have hnb70:=NB450_443.out;have hnc70:=NB443_450.out;have hnb71:=NB450_445.out;have hnc71:=NB445_450.out;have hnb72:=NB450_448.out;have hnc72:=NB448_450.out;have hcz73_0 : w62.cell? ⟨gb450,0,none⟩ = some (.int .i64 0):=(bc BK450.out 0).trans rfl;have hcz73_1 : w62.cell? ⟨gb450,1,none⟩ = some (.int .i64 0):=(bc BK450.out 1).trans rfl;have hcz73_2 : w62.cell? ⟨gb450,2,none⟩ = some (.int .i64 0):=(bc BK450.out 2).trans rfl;have hcz73_3 : w62.cell? ⟨gb450,3,none⟩ = some (.int .i64 0):=(bc BK450.out 3).trans rfl;have hcz73_4 : w62.cell? ⟨gb450,4,none⟩ = some (.int .i64 0):=(bc BK450.out 4).trans rfl;have hcz73_5 : w62.cell? ⟨gb450,5,none⟩ = some (.int .i64 0):=(bc BK450.out 5).trans rfl;have hcz73_6 : w62.cell? ⟨gb450,6,none⟩ = some (.bool false):=(bc BK450.out 6).trans rfl;have hcz73_7 : w62.cell? ⟨gb450,7,none⟩ = some (.int .i64 0):=(bc BK450.out 7).trans rfl;have hcz73_8 : w62.cell? ⟨gb450,8,none⟩ = some (.int .i64 0):=(bc BK450.out 8).trans rfl;have hcz73_9 : w62.cell? ⟨gb450,9,none⟩ = some (.int .i64 0):=(bc BK450.out 9).trans rfl;have hfz73_0:=bz BK450.out 0;have hfz73_1:=bz BK450.out 1;have hfz73_2:=bz BK450.out 2;have hfz73_3:=bz BK450.out 3;have hfz73_4:=bz BK450.out 4;have hfz73_5:=bz BK450.out 5;have hfz73_6:=bz BK450.out 6;have hfz73_7:=bz BK450.out 7;have hfz73_8:=bz BK450.out 8;have hfz73_9:=bz BK450.out 9;have hnb74:=NB445_430.out;have hnc74:=NB430_445.out;have hnb75:=NB445_443.out;have hnc75:=NB443_445.out;have hnb76:=NB445_448.out;have hnc76:=NB448_445.out;have hcz77_0 : w62.cell? ⟨gb445,0,none⟩ = some (.int .i64 x446000_24):=(bc BK445.out 0).trans rfl;have hcz77_1 : w62.cell? ⟨gb445,1,none⟩ = some (.int .i64 x446001_24):=(bc BK445.out 1).trans rfl;have hfz77_0:=bz BK445.out 0;have hfz77_1:=bz BK445.out 1
                                    go_wp2
                                    go_meet
                                    case rel => exact ⟨_,(true),(by first|rfl|(simp;done)|(simp [*];done)),H',⟨by have:=HK1.out;have:=HJ24.out;have:=HJ38.out;first|omega|exact Nat.le_refl _⟩,⟨by (with_reducible repeat (first|apply Kd.N_alloc|apply Kd.N_drewN|apply Kd.N_drew));exact Kd.N_mono (nf (nf (nf (nf (nf (nf (nf (nf (nf (nf (np HO_444000.out))))))))))) (fun _ hk => ⟨hk.1.1.1,⟨hk.1.1.2.1,⟨hk.1.1.2.2.1,⟨hk.1.1.2.2.2.1,⟨hk.1.1.2.2.2.2.1,⟨hk.1.1.2.2.2.2.2,hk.1.2⟩⟩⟩⟩⟩⟩)⟩,⟨by (with_reducible repeat (first|apply Kd.R_alloc|apply Kd.R_drewN|apply Kd.R_drew));exact Kd.R_mono (rf (rf (rf (rf (rf (rf (rf (rf (rf (rf (Kd.R_types HO_444001.out BK450.out (by decide)))))))))))) (fun _ hk => trivial)⟩,⟨by (with_reducible repeat (first|apply Kd.R_alloc|apply Kd.R_drewN|apply Kd.R_drew));exact Kd.R_mono (rf (rf (rf (rf (rf (rf (rf (rf (rf (rf (rp HO_444002.out))))))))))) (fun _ hk => hk.1.2)⟩,⟨by (with_reducible repeat (first|refine bn ?_ _|refine bd ?_|refine ba ?_ _|refine bf ?_ NB430_450.out _));exact BK430.out⟩,⟨by (with_reducible repeat (first|refine bn ?_ _|refine bd ?_|refine ba ?_ _|refine bf ?_ NB443_450.out _));exact BK443.out⟩,⟨by (with_reducible repeat (first|refine bn ?_ _|refine bd ?_|refine ba ?_ _|refine bf ?_ NB445_450.out _));exact BK445.out⟩,⟨by (with_reducible repeat (first|refine bn ?_ _|refine bd ?_|refine ba ?_ _|refine bf ?_ NB448_450.out _));exact BK448.out⟩,⟨(bp10 BK450.out)⟩,⟨by repeat (first|(with_reducible first|exact HB.out|apply sa|apply sn|apply sd|refine sy ?_ (by assumption))|exact HB.out)⟩⟩
                                  · rw [if_neg c68] at H
                                    have c68b0 : (!(((rd_T51 t439 x6_1).f0.f0) == x446000_24) || (!(((rd_T51 t439 x6_1).f0.f1) == x446001_24))) = false:=by simpa using c68
                                    clear c68
                                    (first|rw [c68b0]|(simp only [i64_w,i32_w];rw [c68b0])|skip)
                                    by_cases c78 : (((rd_T51 t439 x6_1).f3) != (((rd_T49 l0_7 x32_1).f0) == 5)) = true
                                    · rw [if_pos c78] at H
                                      have c78b0 : (((rd_T51 t439 x6_1).f3) != (((rd_T49 l0_7 x32_1).f0) == 5)) = true:=c78
                                      (try (have c78b1 : decide (((rd_T51 t439 x6_1).f3) = (((rd_T49 l0_7 x32_1).f0) == 5)) = false:=by simpa using c78))
                                      (try (have c78b2 : (((rd_T51 t439 x6_1).f3) == (((rd_T49 l0_7 x32_1).f0) == 5)) = false:=by simpa using c78))
                                      (try (have c78b3 : ¬ (((rd_T51 t439 x6_1).f3) = (((rd_T49 l0_7 x32_1).f0) == 5)):=by simpa using c78))
                                      clear c78;have H':=am H;clear H;have hnb79:=NB450_430.out;have hnc79:=NB430_450.out;have hnb80:=NB450_443.out;have hnc80:=NB443_450.out;have hnb81:=NB450_445.out;have hnc81:=NB445_450.out;have hnb82:=NB450_448.out;have hnc82:=NB448_450.out;have hcz83_0 : w62.cell? ⟨gb450,0,none⟩ = some (.int .i64 0):=(bc BK450.out 0).trans rfl;have hcz83_1 : w62.cell? ⟨gb450,1,none⟩ = some (.int .i64 0):=(bc BK450.out 1).trans rfl;have hcz83_2 : w62.cell? ⟨gb450,2,none⟩ = some (.int .i64 0):=(bc BK450.out 2).trans rfl;have hcz83_3 : w62.cell? ⟨gb450,3,none⟩ = some (.int .i64 0):=(bc BK450.out 3).trans rfl;have hcz83_4 : w62.cell? ⟨gb450,4,none⟩ = some (.int .i64 0):=(bc BK450.out 4).trans rfl;have hcz83_5 : w62.cell? ⟨gb450,5,none⟩ = some (.int .i64 0):=(bc BK450.out 5).trans rfl;have hcz83_6 : w62.cell? ⟨gb450,6,none⟩ = some (.bool false):=(bc BK450.out 6).trans rfl;have hcz83_7 : w62.cell? ⟨gb450,7,none⟩ = some (.int .i64 0):=(bc BK450.out 7).trans rfl;have hcz83_8 : w62.cell? ⟨gb450,8,none⟩ = some (.int .i64 0):=(bc BK450.out 8).trans rfl;have hcz83_9 : w62.cell? ⟨gb450,9,none⟩ = some (.int .i64 0):=(bc BK450.out 9).trans rfl;have hfz83_0:=bz BK450.out 0;have hfz83_1:=bz BK450.out 1;have hfz83_2:=bz BK450.out 2;have hfz83_3:=bz BK450.out 3;have hfz83_4:=bz BK450.out 4;have hfz83_5:=bz BK450.out 5;have hfz83_6:=bz BK450.out 6;have hfz83_7:=bz BK450.out 7;have hfz83_8:=bz BK450.out 8;have hfz83_9:=bz BK450.out 9;have hnb84:=NB445_430.out;have hnc84:=NB430_445.out;have hnb85:=NB445_443.out;have hnc85:=NB443_445.out;have hnb86:=NB445_448.out;have hnc86:=NB448_445.out;have hcz87_0 : w62.cell? ⟨gb445,0,none⟩ = some (.int .i64 x446000_24):=(bc BK445.out 0).trans rfl;have hcz87_1 : w62.cell? ⟨gb445,1,none⟩ = some (.int .i64 x446001_24):=(bc BK445.out 1).trans rfl;have hfz87_0:=bz BK445.out 0;have hfz87_1:=bz BK445.out 1;have hnb88:=NB448_430.out;have hnc88:=NB430_448.out;have hnb89:=NB448_443.out;have hnc89:=NB443_448.out;have hcz90_0 : w62.cell? ⟨gb448,0,none⟩ = some (.int .i64 ((rd_T49 l0_7 x32_1).f0)):=(bc BK448.out 0).trans rfl;have hcz90_1 : w62.cell? ⟨gb448,1,none⟩ = some (.int .i64 ((rd_T49 l0_7 x32_1).f1)):=(bc BK448.out 1).trans rfl;have hcz90_2 : w62.cell? ⟨gb448,2,none⟩ = some (.int .i64 ((rd_T49 l0_7 x32_1).f2)):=(bc BK448.out 2).trans rfl;have hcz90_3 : w62.cell? ⟨gb448,3,none⟩ = some (.int .i64 ((rd_T49 l0_7 x32_1).f3)):=(bc BK448.out 3).trans rfl;have hcz90_4 : w62.cell? ⟨gb448,4,none⟩ = some (.int .i64 ((rd_T49 l0_7 x32_1).f4)):=(bc BK448.out 4).trans rfl;have hcz90_5 : w62.cell? ⟨gb448,5,none⟩ = some (.int .i64 ((rd_T49 l0_7 x32_1).f5)):=(bc BK448.out 5).trans rfl;have hcz90_6 : w62.cell? ⟨gb448,6,none⟩ = some (.int .i64 ((rd_T49 l0_7 x32_1).f6)):=(bc BK448.out 6).trans rfl;have hcz90_7 : w62.cell? ⟨gb448,7,none⟩ = some (.int .i64 ((rd_T49 l0_7 x32_1).f7)):=(bc BK448.out 7).trans rfl;have hcz90_8 : w62.cell? ⟨gb448,8,none⟩ = some (.slice A447_8 ((rd_T49 l0_7 x32_1).f8).length c447_8):=(bc BK448.out 8).trans rfl;have hcz90_9 : w62.cell? ⟨gb448,9,none⟩ = some (.slice A447_9 ((rd_T49 l0_7 x32_1).f9).length c447_9):=(bc BK448.out 9).trans rfl;have hfz90_0:=bz BK448.out 0;have hfz90_1:=bz BK448.out 1;have hfz90_2:=bz BK448.out 2;have hfz90_3:=bz BK448.out 3;have hfz90_4:=bz BK448.out 4;have hfz90_5:=bz BK448.out 5;have hfz90_6:=bz BK448.out 6;have hfz90_7:=bz BK448.out 7;have hfz90_8:=bz BK448.out 8;have hfz90_9:=bz BK448.out 9
                                      go_wp2
                                      go_meet
                                      case rel => exact ⟨_,(true),(by first|rfl|(simp;done)|(simp [*];done)),H',⟨by have:=HK1.out;have:=HJ24.out;have:=HJ38.out;first|omega|exact Nat.le_refl _⟩,⟨by (with_reducible repeat (first|apply Kd.N_alloc|apply Kd.N_drewN|apply Kd.N_drew));exact Kd.N_mono (nf (nf (nf (nf (nf (nf (nf (nf (nf (nf (np HO_444000.out))))))))))) (fun _ hk => ⟨hk.1.1.1,⟨hk.1.1.2.1,⟨hk.1.1.2.2.1,⟨hk.1.1.2.2.2.1,⟨hk.1.1.2.2.2.2.1,⟨hk.1.1.2.2.2.2.2,hk.1.2⟩⟩⟩⟩⟩⟩)⟩,⟨by (with_reducible repeat (first|apply Kd.R_alloc|apply Kd.R_drewN|apply Kd.R_drew));exact Kd.R_mono (rf (rf (rf (rf (rf (rf (rf (rf (rf (rf (Kd.R_types HO_444001.out BK450.out (by decide)))))))))))) (fun _ hk => trivial)⟩,⟨by (with_reducible repeat (first|apply Kd.R_alloc|apply Kd.R_drewN|apply Kd.R_drew));exact Kd.R_mono (rf (rf (rf (rf (rf (rf (rf (rf (rf (rf (rp HO_444002.out))))))))))) (fun _ hk => hk.1.2)⟩,⟨by (with_reducible repeat (first|refine bn ?_ _|refine bd ?_|refine ba ?_ _|refine bf ?_ NB430_450.out _));exact BK430.out⟩,⟨by (with_reducible repeat (first|refine bn ?_ _|refine bd ?_|refine ba ?_ _|refine bf ?_ NB443_450.out _));exact BK443.out⟩,⟨by (with_reducible repeat (first|refine bn ?_ _|refine bd ?_|refine ba ?_ _|refine bf ?_ NB445_450.out _));exact BK445.out⟩,⟨by (with_reducible repeat (first|refine bn ?_ _|refine bd ?_|refine ba ?_ _|refine bf ?_ NB448_450.out _));exact BK448.out⟩,⟨(bp10 BK450.out)⟩,⟨by repeat (first|(with_reducible first|exact HB.out|apply sa|apply sn|apply sd|refine sy ?_ (by assumption))|exact HB.out)⟩⟩
                                    · rw [if_neg c78] at H
                                      have c78b0 : (((rd_T51 t439 x6_1).f3) != (((rd_T49 l0_7 x32_1).f0) == 5)) = false:=by simpa using c78
                                      (try (have c78b1 : decide (((rd_T51 t439 x6_1).f3) = (((rd_T49 l0_7 x32_1).f0) == 5)) = true:=by simpa using c78))
                                      (try (have c78b2 : (((rd_T51 t439 x6_1).f3) == (((rd_T49 l0_7 x32_1).f0) == 5)) = true:=by simpa using c78))
                                      clear c78
                                      by_cases c91 : ((rd_T51 t439 x6_1).f4) < 0
                                      · rw [if_pos c91] at H
                                        have c91b0 : decide (((rd_T51 t439 x6_1).f4) < 0) = true:=decide_eq_true c91;clear c91;have H':=am H;clear H;have hnb92:=NB450_430.out;have hnc92:=NB430_450.out;have hnb93:=NB450_443.out;have hnc93:=NB443_450.out;have hnb94:=NB450_445.out;have hnc94:=NB445_450.out;have hnb95:=NB450_448.out;have hnc95:=NB448_450.out;have hcz96_0 : w62.cell? ⟨gb450,0,none⟩ = some (.int .i64 0):=(bc BK450.out 0).trans rfl;have hcz96_1 : w62.cell? ⟨gb450,1,none⟩ = some (.int .i64 0):=(bc BK450.out 1).trans rfl;have hcz96_2 : w62.cell? ⟨gb450,2,none⟩ = some (.int .i64 0):=(bc BK450.out 2).trans rfl;have hcz96_3 : w62.cell? ⟨gb450,3,none⟩ = some (.int .i64 0):=(bc BK450.out 3).trans rfl;have hcz96_4 : w62.cell? ⟨gb450,4,none⟩ = some (.int .i64 0):=(bc BK450.out 4).trans rfl;have hcz96_5 : w62.cell? ⟨gb450,5,none⟩ = some (.int .i64 0):=(bc BK450.out 5).trans rfl;have hcz96_6 : w62.cell? ⟨gb450,6,none⟩ = some (.bool false):=(bc BK450.out 6).trans rfl;have hcz96_7 : w62.cell? ⟨gb450,7,none⟩ = some (.int .i64 0):=(bc BK450.out 7).trans rfl;have hcz96_8 : w62.cell? ⟨gb450,8,none⟩ = some (.int .i64 0):=(bc BK450.out 8).trans rfl;have hcz96_9 : w62.cell? ⟨gb450,9,none⟩ = some (.int .i64 0):=(bc BK450.out 9).trans rfl;have hfz96_0:=bz BK450.out 0;have hfz96_1:=bz BK450.out 1;have hfz96_2:=bz BK450.out 2;have hfz96_3:=bz BK450.out 3;have hfz96_4:=bz BK450.out 4;have hfz96_5:=bz BK450.out 5;have hfz96_6:=bz BK450.out 6;have hfz96_7:=bz BK450.out 7;have hfz96_8:=bz BK450.out 8;have hfz96_9:=bz BK450.out 9;have hnb97:=NB445_430.out;have hnc97:=NB430_445.out;have hnb98:=NB445_443.out;have hnc98:=NB443_445.out;have hnb99:=NB445_448.out;have hnc99:=NB448_445.out;have hcz100_0 : w62.cell? ⟨gb445,0,none⟩ = some (.int .i64 x446000_24):=(bc BK445.out 0).trans rfl;have hcz100_1 : w62.cell? ⟨gb445,1,none⟩ = some (.int .i64 x446001_24):=(bc BK445.out 1).trans rfl;have hfz100_0:=bz BK445.out 0;have hfz100_1:=bz BK445.out 1;have hnb101:=NB448_430.out;have hnc101:=NB430_448.out;have hnb102:=NB448_443.out;have hnc102:=NB443_448.out;have hcz103_0 : w62.cell? ⟨gb448,0,none⟩ = some (.int .i64 ((rd_T49 l0_7 x32_1).f0)):=(bc BK448.out 0).trans rfl;have hcz103_1 : w62.cell? ⟨gb448,1,none⟩ = some (.int .i64 ((rd_T49 l0_7 x32_1).f1)):=(bc BK448.out 1).trans rfl;have hcz103_2 : w62.cell? ⟨gb448,2,none⟩ = some (.int .i64 ((rd_T49 l0_7 x32_1).f2)):=(bc BK448.out 2).trans rfl;have hcz103_3 : w62.cell? ⟨gb448,3,none⟩ = some (.int .i64 ((rd_T49 l0_7 x32_1).f3)):=(bc BK448.out 3).trans rfl;have hcz103_4 : w62.cell? ⟨gb448,4,none⟩ = some (.int .i64 ((rd_T49 l0_7 x32_1).f4)):=(bc BK448.out 4).trans rfl;have hcz103_5 : w62.cell? ⟨gb448,5,none⟩ = some (.int .i64 ((rd_T49 l0_7 x32_1).f5)):=(bc BK448.out 5).trans rfl;have hcz103_6 : w62.cell? ⟨gb448,6,none⟩ = some (.int .i64 ((rd_T49 l0_7 x32_1).f6)):=(bc BK448.out 6).trans rfl;have hcz103_7 : w62.cell? ⟨gb448,7,none⟩ = some (.int .i64 ((rd_T49 l0_7 x32_1).f7)):=(bc BK448.out 7).trans rfl;have hcz103_8 : w62.cell? ⟨gb448,8,none⟩ = some (.slice A447_8 ((rd_T49 l0_7 x32_1).f8).length c447_8):=(bc BK448.out 8).trans rfl;have hcz103_9 : w62.cell? ⟨gb448,9,none⟩ = some (.slice A447_9 ((rd_T49 l0_7 x32_1).f9).length c447_9):=(bc BK448.out 9).trans rfl;have hfz103_0:=bz BK448.out 0;have hfz103_1:=bz BK448.out 1;have hfz103_2:=bz BK448.out 2;have hfz103_3:=bz BK448.out 3;have hfz103_4:=bz BK448.out 4;have hfz103_5:=bz BK448.out 5;have hfz103_6:=bz BK448.out 6;have hfz103_7:=bz BK448.out 7;have hfz103_8:=bz BK448.out 8;have hfz103_9:=bz BK448.out 9
                                        go_wp2
                                        go_meet
                                        case rel => exact ⟨_,(true),(by first|rfl|(simp;done)|(simp [*];done)),H',⟨by have:=HK1.out;have:=HJ24.out;have:=HJ38.out;first|omega|exact Nat.le_refl _⟩,⟨by (with_reducible repeat (first|apply Kd.N_alloc|apply Kd.N_drewN|apply Kd.N_drew));exact Kd.N_mono (nf (nf (nf (nf (nf (nf (nf (nf (nf (nf (np HO_444000.out))))))))))) (fun _ hk => ⟨hk.1.1.1,⟨hk.1.1.2.1,⟨hk.1.1.2.2.1,⟨hk.1.1.2.2.2.1,⟨hk.1.1.2.2.2.2.1,⟨hk.1.1.2.2.2.2.2,hk.1.2⟩⟩⟩⟩⟩⟩)⟩,⟨by (with_reducible repeat (first|apply Kd.R_alloc|apply Kd.R_drewN|apply Kd.R_drew));exact Kd.R_mono (rf (rf (rf (rf (rf (rf (rf (rf (rf (rf (Kd.R_types HO_444001.out BK450.out (by decide)))))))))))) (fun _ hk => trivial)⟩,⟨by (with_reducible repeat (first|apply Kd.R_alloc|apply Kd.R_drewN|apply Kd.R_drew));exact Kd.R_mono (rf (rf (rf (rf (rf (rf (rf (rf (rf (rf (rp HO_444002.out))))))))))) (fun _ hk => hk.1.2)⟩,⟨by (with_reducible repeat (first|refine bn ?_ _|refine bd ?_|refine ba ?_ _|refine bf ?_ NB430_450.out _));exact BK430.out⟩,⟨by (with_reducible repeat (first|refine bn ?_ _|refine bd ?_|refine ba ?_ _|refine bf ?_ NB443_450.out _));exact BK443.out⟩,⟨by (with_reducible repeat (first|refine bn ?_ _|refine bd ?_|refine ba ?_ _|refine bf ?_ NB445_450.out _));exact BK445.out⟩,⟨by (with_reducible repeat (first|refine bn ?_ _|refine bd ?_|refine ba ?_ _|refine bf ?_ NB448_450.out _));exact BK448.out⟩,⟨(bp10 BK450.out)⟩,⟨by repeat (first|(with_reducible first|exact HB.out|apply sa|apply sn|apply sd|refine sy ?_ (by assumption))|exact HB.out)⟩⟩
                                      · rw [if_neg c91] at H
                                        have c91b0 : decide (((rd_T51 t439 x6_1).f4) < 0) = false:=decide_eq_false c91;clear c91
                                        by_cases c104 : ((rd_T51 t439 x6_1).f5) < 0
                                        · rw [if_pos c104] at H
                                          have c104b0 : decide (((rd_T51 t439 x6_1).f5) < 0) = true:=decide_eq_true c104;clear c104;have H':=am H;clear H;have hnb105:=NB450_430.out;have hnc105:=NB430_450.out;have hnb106:=NB450_443.out;have hnc106:=NB443_450.out;have hnb107:=NB450_445.out;have hnc107:=NB445_450.out;have hnb108:=NB450_448.out;have hnc108:=NB448_450.out;have hcz109_0 : w62.cell? ⟨gb450,0,none⟩ = some (.int .i64 0):=(bc BK450.out 0).trans rfl;have hcz109_1 : w62.cell? ⟨gb450,1,none⟩ = some (.int .i64 0):=(bc BK450.out 1).trans rfl;have hcz109_2 : w62.cell? ⟨gb450,2,none⟩ = some (.int .i64 0):=(bc BK450.out 2).trans rfl;have hcz109_3 : w62.cell? ⟨gb450,3,none⟩ = some (.int .i64 0):=(bc BK450.out 3).trans rfl;have hcz109_4 : w62.cell? ⟨gb450,4,none⟩ = some (.int .i64 0):=(bc BK450.out 4).trans rfl;have hcz109_5 : w62.cell? ⟨gb450,5,none⟩ = some (.int .i64 0):=(bc BK450.out 5).trans rfl;have hcz109_6 : w62.cell? ⟨gb450,6,none⟩ = some (.bool false):=(bc BK450.out 6).trans rfl;have hcz109_7 : w62.cell? ⟨gb450,7,none⟩ = some (.int .i64 0):=(bc BK450.out 7).trans rfl;have hcz109_8 : w62.cell? ⟨gb450,8,none⟩ = some (.int .i64 0):=(bc BK450.out 8).trans rfl;have hcz109_9 : w62.cell? ⟨gb450,9,none⟩ = some (.int .i64 0):=(bc BK450.out 9).trans rfl;have hfz109_0:=bz BK450.out 0;have hfz109_1:=bz BK450.out 1;have hfz109_2:=bz BK450.out 2;have hfz109_3:=bz BK450.out 3;have hfz109_4:=bz BK450.out 4;have hfz109_5:=bz BK450.out 5;have hfz109_6:=bz BK450.out 6;have hfz109_7:=bz BK450.out 7;have hfz109_8:=bz BK450.out 8;have hfz109_9:=bz BK450.out 9;have hnb110:=NB445_430.out;have hnc110:=NB430_445.out;have hnb111:=NB445_443.out;have hnc111:=NB443_445.out;have hnb112:=NB445_448.out;have hnc112:=NB448_445.out;have hcz113_0 : w62.cell? ⟨gb445,0,none⟩ = some (.int .i64 x446000_24):=(bc BK445.out 0).trans rfl;have hcz113_1 : w62.cell? ⟨gb445,1,none⟩ = some (.int .i64 x446001_24):=(bc BK445.out 1).trans rfl;have hfz113_0:=bz BK445.out 0;have hfz113_1:=bz BK445.out 1;have hnb114:=NB448_430.out;have hnc114:=NB430_448.out;have hnb115:=NB448_443.out;have hnc115:=NB443_448.out;have hcz116_0 : w62.cell? ⟨gb448,0,none⟩ = some (.int .i64 ((rd_T49 l0_7 x32_1).f0)):=(bc BK448.out 0).trans rfl;have hcz116_1 : w62.cell? ⟨gb448,1,none⟩ = some (.int .i64 ((rd_T49 l0_7 x32_1).f1)):=(bc BK448.out 1).trans rfl;have hcz116_2 : w62.cell? ⟨gb448,2,none⟩ = some (.int .i64 ((rd_T49 l0_7 x32_1).f2)):=(bc BK448.out 2).trans rfl;have hcz116_3 : w62.cell? ⟨gb448,3,none⟩ = some (.int .i64 ((rd_T49 l0_7 x32_1).f3)):=(bc BK448.out 3).trans rfl;have hcz116_4 : w62.cell? ⟨gb448,4,none⟩ = some (.int .i64 ((rd_T49 l0_7 x32_1).f4)):=(bc BK448.out 4).trans rfl;have hcz116_5 : w62.cell? ⟨gb448,5,none⟩ = some (.int .i64 ((rd_T49 l0_7 x32_1).f5)):=(bc BK448.out 5).trans rfl;have hcz116_6 : w62.cell? ⟨gb448,6,none⟩ = some (.int .i64 ((rd_T49 l0_7 x32_1).f6)):=(bc BK448.out 6).trans rfl;have hcz116_7 : w62.cell? ⟨gb448,7,none⟩ = some (.int .i64 ((rd_T49 l0_7 x32_1).f7)):=(bc BK448.out 7).trans rfl;have hcz116_8 : w62.cell? ⟨gb448,8,none⟩ = some (.slice A447_8 ((rd_T49 l0_7 x32_1).f8).length c447_8):=(bc BK448.out 8).trans rfl;have hcz116_9 : w62.cell? ⟨gb448,9,none⟩ = some (.slice A447_9 ((rd_T49 l0_7 x32_1).f9).length c447_9):=(bc BK448.out 9).trans rfl;have hfz116_0:=bz BK448.out 0;have hfz116_1:=bz BK448.out 1;have hfz116_2:=bz BK448.out 2;have hfz116_3:=bz BK448.out 3;have hfz116_4:=bz BK448.out 4;have hfz116_5:=bz BK448.out 5;have hfz116_6:=bz BK448.out 6;have hfz116_7:=bz BK448.out 7;have hfz116_8:=bz BK448.out 8;have hfz116_9:=bz BK448.out 9
                                          go_wp2
                                          go_meet
                                          case rel => exact ⟨_,(true),(by first|rfl|(simp;done)|(simp [*];done)),H',⟨by have:=HK1.out;have:=HJ24.out;have:=HJ38.out;first|omega|exact Nat.le_refl _⟩,⟨by (with_reducible repeat (first|apply Kd.N_alloc|apply Kd.N_drewN|apply Kd.N_drew));exact Kd.N_mono (nf (nf (nf (nf (nf (nf (nf (nf (nf (nf (np HO_444000.out))))))))))) (fun _ hk => ⟨hk.1.1.1,⟨hk.1.1.2.1,⟨hk.1.1.2.2.1,⟨hk.1.1.2.2.2.1,⟨hk.1.1.2.2.2.2.1,⟨hk.1.1.2.2.2.2.2,hk.1.2⟩⟩⟩⟩⟩⟩)⟩,⟨by (with_reducible repeat (first|apply Kd.R_alloc|apply Kd.R_drewN|apply Kd.R_drew));exact Kd.R_mono (rf (rf (rf (rf (rf (rf (rf (rf (rf (rf (Kd.R_types HO_444001.out BK450.out (by decide)))))))))))) (fun _ hk => trivial)⟩,⟨by (with_reducible repeat (first|apply Kd.R_alloc|apply Kd.R_drewN|apply Kd.R_drew));exact Kd.R_mono (rf (rf (rf (rf (rf (rf (rf (rf (rf (rf (rp HO_444002.out))))))))))) (fun _ hk => hk.1.2)⟩,⟨by (with_reducible repeat (first|refine bn ?_ _|refine bd ?_|refine ba ?_ _|refine bf ?_ NB430_450.out _));exact BK430.out⟩,⟨by (with_reducible repeat (first|refine bn ?_ _|refine bd ?_|refine ba ?_ _|refine bf ?_ NB443_450.out _));exact BK443.out⟩,⟨by (with_reducible repeat (first|refine bn ?_ _|refine bd ?_|refine ba ?_ _|refine bf ?_ NB445_450.out _));exact BK445.out⟩,⟨by (with_reducible repeat (first|refine bn ?_ _|refine bd ?_|refine ba ?_ _|refine bf ?_ NB448_450.out _));exact BK448.out⟩,⟨(bp10 BK450.out)⟩,⟨by repeat (first|(with_reducible first|exact HB.out|apply sa|apply sn|apply sd|refine sy ?_ (by assumption))|exact HB.out)⟩⟩
                                        · rw [if_neg c104] at H
                                          have c104b0 : decide (((rd_T51 t439 x6_1).f5) < 0) = false:=decide_eq_false c104;clear c104
                                          by_cases c117 : ((rd_T51 t439 x6_1).f6) < 0
                                          · rw [if_pos c117] at H
                                            have c117b0 : decide (((rd_T51 t439 x6_1).f6) < 0) = true:=decide_eq_true c117;clear c117;have H':=am H;clear H;have hnb118:=NB450_430.out;have hnc118:=NB430_450.out;have hnb119:=NB450_443.out;have hnc119:=NB443_450.out;have hnb120:=NB450_445.out;have hnc120:=NB445_450.out;have hnb121:=NB450_448.out;have hnc121:=NB448_450.out;have hcz122_0 : w62.cell? ⟨gb450,0,none⟩ = some (.int .i64 0):=(bc BK450.out 0).trans rfl;have hcz122_1 : w62.cell? ⟨gb450,1,none⟩ = some (.int .i64 0):=(bc BK450.out 1).trans rfl;have hcz122_2 : w62.cell? ⟨gb450,2,none⟩ = some (.int .i64 0):=(bc BK450.out 2).trans rfl;have hcz122_3 : w62.cell? ⟨gb450,3,none⟩ = some (.int .i64 0):=(bc BK450.out 3).trans rfl;have hcz122_4 : w62.cell? ⟨gb450,4,none⟩ = some (.int .i64 0):=(bc BK450.out 4).trans rfl;have hcz122_5 : w62.cell? ⟨gb450,5,none⟩ = some (.int .i64 0):=(bc BK450.out 5).trans rfl;have hcz122_6 : w62.cell? ⟨gb450,6,none⟩ = some (.bool false):=(bc BK450.out 6).trans rfl;have hcz122_7 : w62.cell? ⟨gb450,7,none⟩ = some (.int .i64 0):=(bc BK450.out 7).trans rfl;have hcz122_8 : w62.cell? ⟨gb450,8,none⟩ = some (.int .i64 0):=(bc BK450.out 8).trans rfl;have hcz122_9 : w62.cell? ⟨gb450,9,none⟩ = some (.int .i64 0):=(bc BK450.out 9).trans rfl;have hfz122_0:=bz BK450.out 0;have hfz122_1:=bz BK450.out 1;have hfz122_2:=bz BK450.out 2;have hfz122_3:=bz BK450.out 3;have hfz122_4:=bz BK450.out 4;have hfz122_5:=bz BK450.out 5;have hfz122_6:=bz BK450.out 6;have hfz122_7:=bz BK450.out 7;have hfz122_8:=bz BK450.out 8;have hfz122_9:=bz BK450.out 9;have hnb123:=NB445_430.out;have hnc123:=NB430_445.out;have hnb124:=NB445_443.out;have hnc124:=NB443_445.out;have hnb125:=NB445_448.out;have hnc125:=NB448_445.out;have hcz126_0 : w62.cell? ⟨gb445,0,none⟩ = some (.int .i64 x446000_24):=(bc BK445.out 0).trans rfl;have hcz126_1 : w62.cell? ⟨gb445,1,none⟩ = some (.int .i64 x446001_24):=(bc BK445.out 1).trans rfl;have hfz126_0:=bz BK445.out 0;have hfz126_1:=bz BK445.out 1;have hnb127:=NB448_430.out;have hnc127:=NB430_448.out;have hnb128:=NB448_443.out;have hnc128:=NB443_448.out;have hcz129_0 : w62.cell? ⟨gb448,0,none⟩ = some (.int .i64 ((rd_T49 l0_7 x32_1).f0)):=(bc BK448.out 0).trans rfl;have hcz129_1 : w62.cell? ⟨gb448,1,none⟩ = some (.int .i64 ((rd_T49 l0_7 x32_1).f1)):=(bc BK448.out 1).trans rfl;have hcz129_2 : w62.cell? ⟨gb448,2,none⟩ = some (.int .i64 ((rd_T49 l0_7 x32_1).f2)):=(bc BK448.out 2).trans rfl;have hcz129_3 : w62.cell? ⟨gb448,3,none⟩ = some (.int .i64 ((rd_T49 l0_7 x32_1).f3)):=(bc BK448.out 3).trans rfl;have hcz129_4 : w62.cell? ⟨gb448,4,none⟩ = some (.int .i64 ((rd_T49 l0_7 x32_1).f4)):=(bc BK448.out 4).trans rfl;have hcz129_5 : w62.cell? ⟨gb448,5,none⟩ = some (.int .i64 ((rd_T49 l0_7 x32_1).f5)):=(bc BK448.out 5).trans rfl;have hcz129_6 : w62.cell? ⟨gb448,6,none⟩ = some (.int .i64 ((rd_T49 l0_7 x32_1).f6)):=(bc BK448.out 6).trans rfl;have hcz129_7 : w62.cell? ⟨gb448,7,none⟩ = some (.int .i64 ((rd_T49 l0_7 x32_1).f7)):=(bc BK448.out 7).trans rfl;have hcz129_8 : w62.cell? ⟨gb448,8,none⟩ = some (.slice A447_8 ((rd_T49 l0_7 x32_1).f8).length c447_8):=(bc BK448.out 8).trans rfl;have hcz129_9 : w62.cell? ⟨gb448,9,none⟩ = some (.slice A447_9 ((rd_T49 l0_7 x32_1).f9).length c447_9):=(bc BK448.out 9).trans rfl;have hfz129_0:=bz BK448.out 0;have hfz129_1:=bz BK448.out 1;have hfz129_2:=bz BK448.out 2;have hfz129_3:=bz BK448.out 3;have hfz129_4:=bz BK448.out 4;have hfz129_5:=bz BK448.out 5;have hfz129_6:=bz BK448.out 6;have hfz129_7:=bz BK448.out 7;have hfz129_8:=bz BK448.out 8;have hfz129_9:=bz BK448.out 9
                                            go_wp2
                                            go_meet
                                            case rel => exact ⟨_,(true),(by first|rfl|(simp;done)|(simp [*];done)),H',⟨by have:=HK1.out;have:=HJ24.out;have:=HJ38.out;first|omega|exact Nat.le_refl _⟩,⟨by (with_reducible repeat (first|apply Kd.N_alloc|apply Kd.N_drewN|apply Kd.N_drew));exact Kd.N_mono (nf (nf (nf (nf (nf (nf (nf (nf (nf (nf (np HO_444000.out))))))))))) (fun _ hk => ⟨hk.1.1.1,⟨hk.1.1.2.1,⟨hk.1.1.2.2.1,⟨hk.1.1.2.2.2.1,⟨hk.1.1.2.2.2.2.1,⟨hk.1.1.2.2.2.2.2,hk.1.2⟩⟩⟩⟩⟩⟩)⟩,⟨by (with_reducible repeat (first|apply Kd.R_alloc|apply Kd.R_drewN|apply Kd.R_drew));exact Kd.R_mono (rf (rf (rf (rf (rf (rf (rf (rf (rf (rf (Kd.R_types HO_444001.out BK450.out (by decide)))))))))))) (fun _ hk => trivial)⟩,⟨by (with_reducible repeat (first|apply Kd.R_alloc|apply Kd.R_drewN|apply Kd.R_drew));exact Kd.R_mono (rf (rf (rf (rf (rf (rf (rf (rf (rf (rf (rp HO_444002.out))))))))))) (fun _ hk => hk.1.2)⟩,⟨by (with_reducible repeat (first|refine bn ?_ _|refine bd ?_|refine ba ?_ _|refine bf ?_ NB430_450.out _));exact BK430.out⟩,⟨by (with_reducible repeat (first|refine bn ?_ _|refine bd ?_|refine ba ?_ _|refine bf ?_ NB443_450.out _));exact BK443.out⟩,⟨by (with_reducible repeat (first|refine bn ?_ _|refine bd ?_|refine ba ?_ _|refine bf ?_ NB445_450.out _));exact BK445.out⟩,⟨by (with_reducible repeat (first|refine bn ?_ _|refine bd ?_|refine ba ?_ _|refine bf ?_ NB448_450.out _));exact BK448.out⟩,⟨(bp10 BK450.out)⟩,⟨by repeat (first|(with_reducible first|exact HB.out|apply sa|apply sn|apply sd|refine sy ?_ (by assumption))|exact HB.out)⟩⟩
                                          · rw [if_neg c117] at H
                                            have c117b0 : decide (((rd_T51 t439 x6_1).f6) < 0) = false:=decide_eq_false c117;clear c117;obtain ⟨ji130,hji130⟩ : ∃ j_ : Int,(mx ((rd_T51 t439 x6_1).f4) ((rd_T51 t439 x6_1).f5)) = j_:=⟨_,rfl⟩
                                            replace H : (if (ji130) > (t433.length : Int) then (celluloidlaw15_EdgeGoes.j3 kj38 (wrap64 (x6_1 + 1)) l0_7 (l0_7.length : Int) x32_1 true t433 t436 t439 ((rd_T49 l0_7 x32_1).f0) ((rd_T49 l0_7 x32_1).f1) ((rd_T49 l0_7 x32_1).f2) ((rd_T49 l0_7 x32_1).f3) ((rd_T49 l0_7 x32_1).f4) ((rd_T49 l0_7 x32_1).f5) ((rd_T49 l0_7 x32_1).f6) ((rd_T49 l0_7 x32_1).f7) ((rd_T49 l0_7 x32_1).f8) ((rd_T49 l0_7 x32_1).f9) ((rd_T51 t439 x6_1).f0.f0) ((rd_T51 t439 x6_1).f0.f1) ((rd_T51 t439 x6_1).f1.f0) ((rd_T51 t439 x6_1).f1.f1) ((rd_T51 t439 x6_1).f2.f0) ((rd_T51 t439 x6_1).f2.f1) ((rd_T51 t439 x6_1).f3) ((rd_T51 t439 x6_1).f4) ((rd_T51 t439 x6_1).f5) ((rd_T51 t439 x6_1).f6)) else (if ((rd_T51 t439 x6_1).f6) > (t436.length : Int) then (celluloidlaw15_EdgeGoes.j3 kj38 (wrap64 (x6_1 + 1)) l0_7 (l0_7.length : Int) x32_1 true t433 t436 t439 ((rd_T49 l0_7 x32_1).f0) ((rd_T49 l0_7 x32_1).f1) ((rd_T49 l0_7 x32_1).f2) ((rd_T49 l0_7 x32_1).f3) ((rd_T49 l0_7 x32_1).f4) ((rd_T49 l0_7 x32_1).f5) ((rd_T49 l0_7 x32_1).f6) ((rd_T49 l0_7 x32_1).f7) ((rd_T49 l0_7 x32_1).f8) ((rd_T49 l0_7 x32_1).f9) ((rd_T51 t439 x6_1).f0.f0) ((rd_T51 t439 x6_1).f0.f1) ((rd_T51 t439 x6_1).f1.f0) ((rd_T51 t439 x6_1).f1.f1) ((rd_T51 t439 x6_1).f2.f0) ((rd_T51 t439 x6_1).f2.f1) ((rd_T51 t439 x6_1).f3) ((rd_T51 t439 x6_1).f4) ((rd_T51 t439 x6_1).f5) ((rd_T51 t439 x6_1).f6)) else (if ((rd_T51 t439 x6_1).f3 = true) then (celluloidlaw15_EdgeGoes.j3 kj38 (wrap64 (x6_1 + 1)) l0_7 (l0_7.length : Int) x32_1 false t433 t436 t439 ((rd_T49 l0_7 x32_1).f0) ((rd_T49 l0_7 x32_1).f1) ((rd_T49 l0_7 x32_1).f2) ((rd_T49 l0_7 x32_1).f3) ((rd_T49 l0_7 x32_1).f4) ((rd_T49 l0_7 x32_1).f5) ((rd_T49 l0_7 x32_1).f6) ((rd_T49 l0_7 x32_1).f7) ((rd_T49 l0_7 x32_1).f8) ((rd_T49 l0_7 x32_1).f9) ((rd_T51 t439 x6_1).f0.f0) ((rd_T51 t439 x6_1).f0.f1) ((rd_T51 t439 x6_1).f1.f0) ((rd_T51 t439 x6_1).f1.f1) ((rd_T51 t439 x6_1).f2.f0) ((rd_T51 t439 x6_1).f2.f1) ((rd_T51 t439 x6_1).f3) ((rd_T51 t439 x6_1).f4) ((rd_T51 t439 x6_1).f5) ((rd_T51 t439 x6_1).f6)) else (celluloidlaw15_EdgeGoes.j3 kj38 (wrap64 (x6_1 + 1)) l0_7 (l0_7.length : Int) x32_1 (!(((rd_T51 t439 x6_1).f1.f0) == 0) || (!(((rd_T51 t439 x6_1).f1.f1) == 0))) t433 t436 t439 ((rd_T49 l0_7 x32_1).f0) ((rd_T49 l0_7 x32_1).f1) ((rd_T49 l0_7 x32_1).f2) ((rd_T49 l0_7 x32_1).f3) ((rd_T49 l0_7 x32_1).f4) ((rd_T49 l0_7 x32_1).f5) ((rd_T49 l0_7 x32_1).f6) ((rd_T49 l0_7 x32_1).f7) ((rd_T49 l0_7 x32_1).f8) ((rd_T49 l0_7 x32_1).f9) ((rd_T51 t439 x6_1).f0.f0) ((rd_T51 t439 x6_1).f0.f1) ((rd_T51 t439 x6_1).f1.f0) ((rd_T51 t439 x6_1).f1.f1) ((rd_T51 t439 x6_1).f2.f0) ((rd_T51 t439 x6_1).f2.f1) ((rd_T51 t439 x6_1).f3) ((rd_T51 t439 x6_1).f4) ((rd_T51 t439 x6_1).f5) ((rd_T51 t439 x6_1).f6))))) = some r:=by first|(rw [hji130] at H;exact H)|(simp only [hji130] at H ⊢;exact H)
                                            have hji130_ : (if ((rd_T51 t439 x6_1).f4) < ((rd_T51 t439 x6_1).f5) then ((rd_T51 t439 x6_1).f5) else ((rd_T51 t439 x6_1).f4)) = ji130:=hji130
                                            by_cases c131 : (ji130) > (t433.length : Int)
                                            · rw [if_pos c131] at H
                                              have c131b0 : decide ((t433.length : Int) < (ji130)) = true:=decide_eq_true c131;clear c131;have H':=am H;clear H;have hnb132:=NB450_430.out;have hnc132:=NB430_450.out;have hnb133:=NB450_443.out;have hnc133:=NB443_450.out;have hnb134:=NB450_445.out;have hnc134:=NB445_450.out;have hnb135:=NB450_448.out;have hnc135:=NB448_450.out;have hcz136_0 : w62.cell? ⟨gb450,0,none⟩ = some (.int .i64 0):=(bc BK450.out 0).trans rfl;have hcz136_1 : w62.cell? ⟨gb450,1,none⟩ = some (.int .i64 0):=(bc BK450.out 1).trans rfl;have hcz136_2 : w62.cell? ⟨gb450,2,none⟩ = some (.int .i64 0):=(bc BK450.out 2).trans rfl;have hcz136_3 : w62.cell? ⟨gb450,3,none⟩ = some (.int .i64 0):=(bc BK450.out 3).trans rfl;have hcz136_4 : w62.cell? ⟨gb450,4,none⟩ = some (.int .i64 0):=(bc BK450.out 4).trans rfl;have hcz136_5 : w62.cell? ⟨gb450,5,none⟩ = some (.int .i64 0):=(bc BK450.out 5).trans rfl;have hcz136_6 : w62.cell? ⟨gb450,6,none⟩ = some (.bool false):=(bc BK450.out 6).trans rfl;have hcz136_7 : w62.cell? ⟨gb450,7,none⟩ = some (.int .i64 0):=(bc BK450.out 7).trans rfl;have hcz136_8 : w62.cell? ⟨gb450,8,none⟩ = some (.int .i64 0):=(bc BK450.out 8).trans rfl;have hcz136_9 : w62.cell? ⟨gb450,9,none⟩ = some (.int .i64 0):=(bc BK450.out 9).trans rfl;have hfz136_0:=bz BK450.out 0;have hfz136_1:=bz BK450.out 1;have hfz136_2:=bz BK450.out 2;have hfz136_3:=bz BK450.out 3;have hfz136_4:=bz BK450.out 4;have hfz136_5:=bz BK450.out 5;have hfz136_6:=bz BK450.out 6;have hfz136_7:=bz BK450.out 7;have hfz136_8:=bz BK450.out 8;have hfz136_9:=bz BK450.out 9;have hnb137:=NB445_430.out;have hnc137:=NB430_445.out;have hnb138:=NB445_443.out;have hnc138:=NB443_445.out;have hnb139:=NB445_448.out;have hnc139:=NB448_445.out;have hcz140_0 : w62.cell? ⟨gb445,0,none⟩ = some (.int .i64 x446000_24):=(bc BK445.out 0).trans rfl;have hcz140_1 : w62.cell? ⟨gb445,1,none⟩ = some (.int .i64 x446001_24):=(bc BK445.out 1).trans rfl;have hfz140_0:=bz BK445.out 0;have hfz140_1:=bz BK445.out 1;have hnb141:=NB448_430.out;have hnc141:=NB430_448.out;have hnb142:=NB448_443.out;have hnc142:=NB443_448.out;have hcz143_0 : w62.cell? ⟨gb448,0,none⟩ = some (.int .i64 ((rd_T49 l0_7 x32_1).f0)):=(bc BK448.out 0).trans rfl;have hcz143_1 : w62.cell? ⟨gb448,1,none⟩ = some (.int .i64 ((rd_T49 l0_7 x32_1).f1)):=(bc BK448.out 1).trans rfl;have hcz143_2 : w62.cell? ⟨gb448,2,none⟩ = some (.int .i64 ((rd_T49 l0_7 x32_1).f2)):=(bc BK448.out 2).trans rfl;have hcz143_3 : w62.cell? ⟨gb448,3,none⟩ = some (.int .i64 ((rd_T49 l0_7 x32_1).f3)):=(bc BK448.out 3).trans rfl;have hcz143_4 : w62.cell? ⟨gb448,4,none⟩ = some (.int .i64 ((rd_T49 l0_7 x32_1).f4)):=(bc BK448.out 4).trans rfl;have hcz143_5 : w62.cell? ⟨gb448,5,none⟩ = some (.int .i64 ((rd_T49 l0_7 x32_1).f5)):=(bc BK448.out 5).trans rfl;have hcz143_6 : w62.cell? ⟨gb448,6,none⟩ = some (.int .i64 ((rd_T49 l0_7 x32_1).f6)):=(bc BK448.out 6).trans rfl;have hcz143_7 : w62.cell? ⟨gb448,7,none⟩ = some (.int .i64 ((rd_T49 l0_7 x32_1).f7)):=(bc BK448.out 7).trans rfl;have hcz143_8 : w62.cell? ⟨gb448,8,none⟩ = some (.slice A447_8 ((rd_T49 l0_7 x32_1).f8).length c447_8):=(bc BK448.out 8).trans rfl;have hcz143_9 : w62.cell? ⟨gb448,9,none⟩ = some (.slice A447_9 ((rd_T49 l0_7 x32_1).f9).length c447_9):=(bc BK448.out 9).trans rfl;have hfz143_0:=bz BK448.out 0;have hfz143_1:=bz BK448.out 1;have hfz143_2:=bz BK448.out 2;have hfz143_3:=bz BK448.out 3;have hfz143_4:=bz BK448.out 4;have hfz143_5:=bz BK448.out 5;have hfz143_6:=bz BK448.out 6;have hfz143_7:=bz BK448.out 7;have hfz143_8:=bz BK448.out 8;have hfz143_9:=bz BK448.out 9;have hnb144:=NB443_430.out;have hnc144:=NB430_443.out;have hcz145_0 : w62.cell? ⟨gb443,0,none⟩ = some (.slice Ao12 t433.length co12):=(bc BK443.out 0).trans rfl;have hcz145_1 : w62.cell? ⟨gb443,1,none⟩ = some (.slice Ao15 t436.length co15):=(bc BK443.out 1).trans rfl;have hcz145_2 : w62.cell? ⟨gb443,2,none⟩ = some (.slice (some ad449) t439.length co16):=(bc BK443.out 2).trans rfl;have hfz145_0:=bz BK443.out 0;have hfz145_1:=bz BK443.out 1;have hfz145_2:=bz BK443.out 2
                                              go_wp2
                                              go_meet
                                              case rel => exact ⟨_,(true),(by first|rfl|(simp;done)|(simp [*];done)),H',⟨by have:=HK1.out;have:=HJ24.out;have:=HJ38.out;first|omega|exact Nat.le_refl _⟩,⟨by (with_reducible repeat (first|apply Kd.N_alloc|apply Kd.N_drewN|apply Kd.N_drew));exact Kd.N_mono (nf (nf (nf (nf (nf (nf (nf (nf (nf (nf (np HO_444000.out))))))))))) (fun _ hk => ⟨hk.1.1.1,⟨hk.1.1.2.1,⟨hk.1.1.2.2.1,⟨hk.1.1.2.2.2.1,⟨hk.1.1.2.2.2.2.1,⟨hk.1.1.2.2.2.2.2,hk.1.2⟩⟩⟩⟩⟩⟩)⟩,⟨by (with_reducible repeat (first|apply Kd.R_alloc|apply Kd.R_drewN|apply Kd.R_drew));exact Kd.R_mono (rf (rf (rf (rf (rf (rf (rf (rf (rf (rf (Kd.R_types HO_444001.out BK450.out (by decide)))))))))))) (fun _ hk => trivial)⟩,⟨by (with_reducible repeat (first|apply Kd.R_alloc|apply Kd.R_drewN|apply Kd.R_drew));exact Kd.R_mono (rf (rf (rf (rf (rf (rf (rf (rf (rf (rf (rp HO_444002.out))))))))))) (fun _ hk => hk.1.2)⟩,⟨by (with_reducible repeat (first|refine bn ?_ _|refine bd ?_|refine ba ?_ _|refine bf ?_ NB430_450.out _));exact BK430.out⟩,⟨by (with_reducible repeat (first|refine bn ?_ _|refine bd ?_|refine ba ?_ _|refine bf ?_ NB443_450.out _));exact BK443.out⟩,⟨by (with_reducible repeat (first|refine bn ?_ _|refine bd ?_|refine ba ?_ _|refine bf ?_ NB445_450.out _));exact BK445.out⟩,⟨by (with_reducible repeat (first|refine bn ?_ _|refine bd ?_|refine ba ?_ _|refine bf ?_ NB448_450.out _));exact BK448.out⟩,⟨(bp10 BK450.out)⟩,⟨by repeat (first|(with_reducible first|exact HB.out|apply sa|apply sn|apply sd|refine sy ?_ (by assumption))|exact HB.out)⟩⟩
                                            · rw [if_neg c131] at H
                                              have c131b0 : decide ((t433.length : Int) < (ji130)) = false:=decide_eq_false c131;clear c131
                                              by_cases c146 : ((rd_T51 t439 x6_1).f6) > (t436.length : Int)
                                              · rw [if_pos c146] at H
                                                have c146b0 : decide ((t436.length : Int) < ((rd_T51 t439 x6_1).f6)) = true:=decide_eq_true c146;clear c146;have H':=am H;clear H;have hnb147:=NB450_430.out;have hnc147:=NB430_450.out;have hnb148:=NB450_443.out;have hnc148:=NB443_450.out;have hnb149:=NB450_445.out;have hnc149:=NB445_450.out;have hnb150:=NB450_448.out;have hnc150:=NB448_450.out;have hcz151_0 : w62.cell? ⟨gb450,0,none⟩ = some (.int .i64 0):=(bc BK450.out 0).trans rfl;have hcz151_1 : w62.cell? ⟨gb450,1,none⟩ = some (.int .i64 0):=(bc BK450.out 1).trans rfl;have hcz151_2 : w62.cell? ⟨gb450,2,none⟩ = some (.int .i64 0):=(bc BK450.out 2).trans rfl;have hcz151_3 : w62.cell? ⟨gb450,3,none⟩ = some (.int .i64 0):=(bc BK450.out 3).trans rfl;have hcz151_4 : w62.cell? ⟨gb450,4,none⟩ = some (.int .i64 0):=(bc BK450.out 4).trans rfl;have hcz151_5 : w62.cell? ⟨gb450,5,none⟩ = some (.int .i64 0):=(bc BK450.out 5).trans rfl;have hcz151_6 : w62.cell? ⟨gb450,6,none⟩ = some (.bool false):=(bc BK450.out 6).trans rfl;have hcz151_7 : w62.cell? ⟨gb450,7,none⟩ = some (.int .i64 0):=(bc BK450.out 7).trans rfl;have hcz151_8 : w62.cell? ⟨gb450,8,none⟩ = some (.int .i64 0):=(bc BK450.out 8).trans rfl;have hcz151_9 : w62.cell? ⟨gb450,9,none⟩ = some (.int .i64 0):=(bc BK450.out 9).trans rfl;have hfz151_0:=bz BK450.out 0;have hfz151_1:=bz BK450.out 1;have hfz151_2:=bz BK450.out 2;have hfz151_3:=bz BK450.out 3;have hfz151_4:=bz BK450.out 4;have hfz151_5:=bz BK450.out 5;have hfz151_6:=bz BK450.out 6;have hfz151_7:=bz BK450.out 7;have hfz151_8:=bz BK450.out 8;have hfz151_9:=bz BK450.out 9;have hnb152:=NB445_430.out;have hnc152:=NB430_445.out;have hnb153:=NB445_443.out;have hnc153:=NB443_445.out;have hnb154:=NB445_448.out;have hnc154:=NB448_445.out;have hcz155_0 : w62.cell? ⟨gb445,0,none⟩ = some (.int .i64 x446000_24):=(bc BK445.out 0).trans rfl;have hcz155_1 : w62.cell? ⟨gb445,1,none⟩ = some (.int .i64 x446001_24):=(bc BK445.out 1).trans rfl;have hfz155_0:=bz BK445.out 0;have hfz155_1:=bz BK445.out 1;have hnb156:=NB448_430.out;have hnc156:=NB430_448.out;have hnb157:=NB448_443.out;have hnc157:=NB443_448.out;have hcz158_0 : w62.cell? ⟨gb448,0,none⟩ = some (.int .i64 ((rd_T49 l0_7 x32_1).f0)):=(bc BK448.out 0).trans rfl;have hcz158_1 : w62.cell? ⟨gb448,1,none⟩ = some (.int .i64 ((rd_T49 l0_7 x32_1).f1)):=(bc BK448.out 1).trans rfl;have hcz158_2 : w62.cell? ⟨gb448,2,none⟩ = some (.int .i64 ((rd_T49 l0_7 x32_1).f2)):=(bc BK448.out 2).trans rfl;have hcz158_3 : w62.cell? ⟨gb448,3,none⟩ = some (.int .i64 ((rd_T49 l0_7 x32_1).f3)):=(bc BK448.out 3).trans rfl;have hcz158_4 : w62.cell? ⟨gb448,4,none⟩ = some (.int .i64 ((rd_T49 l0_7 x32_1).f4)):=(bc BK448.out 4).trans rfl;have hcz158_5 : w62.cell? ⟨gb448,5,none⟩ = some (.int .i64 ((rd_T49 l0_7 x32_1).f5)):=(bc BK448.out 5).trans rfl;have hcz158_6 : w62.cell? ⟨gb448,6,none⟩ = some (.int .i64 ((rd_T49 l0_7 x32_1).f6)):=(bc BK448.out 6).trans rfl;have hcz158_7 : w62.cell? ⟨gb448,7,none⟩ = some (.int .i64 ((rd_T49 l0_7 x32_1).f7)):=(bc BK448.out 7).trans rfl;have hcz158_8 : w62.cell? ⟨gb448,8,none⟩ = some (.slice A447_8 ((rd_T49 l0_7 x32_1).f8).length c447_8):=(bc BK448.out 8).trans rfl;have hcz158_9 : w62.cell? ⟨gb448,9,none⟩ = some (.slice A447_9 ((rd_T49 l0_7 x32_1).f9).length c447_9):=(bc BK448.out 9).trans rfl;have hfz158_0:=bz BK448.out 0;have hfz158_1:=bz BK448.out 1;have hfz158_2:=bz BK448.out 2;have hfz158_3:=bz BK448.out 3;have hfz158_4:=bz BK448.out 4;have hfz158_5:=bz BK448.out 5;have hfz158_6:=bz BK448.out 6;have hfz158_7:=bz BK448.out 7;have hfz158_8:=bz BK448.out 8;have hfz158_9:=bz BK448.out 9;have hnb159:=NB443_430.out;have hnc159:=NB430_443.out;have hcz160_0 : w62.cell? ⟨gb443,0,none⟩ = some (.slice Ao12 t433.length co12):=(bc BK443.out 0).trans rfl;have hcz160_1 : w62.cell? ⟨gb443,1,none⟩ = some (.slice Ao15 t436.length co15):=(bc BK443.out 1).trans rfl;have hcz160_2 : w62.cell? ⟨gb443,2,none⟩ = some (.slice (some ad449) t439.length co16):=(bc BK443.out 2).trans rfl;have hfz160_0:=bz BK443.out 0;have hfz160_1:=bz BK443.out 1;have hfz160_2:=bz BK443.out 2
                                                go_wp2
                                                go_meet
                                                case rel => exact ⟨_,(true),(by first|rfl|(simp;done)|(simp [*];done)),H',⟨by have:=HK1.out;have:=HJ24.out;have:=HJ38.out;first|omega|exact Nat.le_refl _⟩,⟨by (with_reducible repeat (first|apply Kd.N_alloc|apply Kd.N_drewN|apply Kd.N_drew));exact Kd.N_mono (nf (nf (nf (nf (nf (nf (nf (nf (nf (nf (np HO_444000.out))))))))))) (fun _ hk => ⟨hk.1.1.1,⟨hk.1.1.2.1,⟨hk.1.1.2.2.1,⟨hk.1.1.2.2.2.1,⟨hk.1.1.2.2.2.2.1,⟨hk.1.1.2.2.2.2.2,hk.1.2⟩⟩⟩⟩⟩⟩)⟩,⟨by (with_reducible repeat (first|apply Kd.R_alloc|apply Kd.R_drewN|apply Kd.R_drew));exact Kd.R_mono (rf (rf (rf (rf (rf (rf (rf (rf (rf (rf (Kd.R_types HO_444001.out BK450.out (by decide)))))))))))) (fun _ hk => trivial)⟩,⟨by (with_reducible repeat (first|apply Kd.R_alloc|apply Kd.R_drewN|apply Kd.R_drew));exact Kd.R_mono (rf (rf (rf (rf (rf (rf (rf (rf (rf (rf (rp HO_444002.out))))))))))) (fun _ hk => hk.1.2)⟩,⟨by (with_reducible repeat (first|refine bn ?_ _|refine bd ?_|refine ba ?_ _|refine bf ?_ NB430_450.out _));exact BK430.out⟩,⟨by (with_reducible repeat (first|refine bn ?_ _|refine bd ?_|refine ba ?_ _|refine bf ?_ NB443_450.out _));exact BK443.out⟩,⟨by (with_reducible repeat (first|refine bn ?_ _|refine bd ?_|refine ba ?_ _|refine bf ?_ NB445_450.out _));exact BK445.out⟩,⟨by (with_reducible repeat (first|refine bn ?_ _|refine bd ?_|refine ba ?_ _|refine bf ?_ NB448_450.out _));exact BK448.out⟩,⟨(bp10 BK450.out)⟩,⟨by repeat (first|(with_reducible first|exact HB.out|apply sa|apply sn|apply sd|refine sy ?_ (by assumption))|exact HB.out)⟩⟩
                                              · rw [if_neg c146] at H
                                                have c146b0 : decide ((t436.length : Int) < ((rd_T51 t439 x6_1).f6)) = false:=decide_eq_false c146;clear c146;obtain ⟨bq161,hbq161⟩ : ∃ b_ : Bool,b_ = ((rd_T51 t439 x6_1).f3):=⟨_,rfl⟩
                                                replace H : (if (bq161 = true) then (celluloidlaw15_EdgeGoes.j3 kj38 (wrap64 (x6_1 + 1)) l0_7 (l0_7.length : Int) x32_1 false t433 t436 t439 ((rd_T49 l0_7 x32_1).f0) ((rd_T49 l0_7 x32_1).f1) ((rd_T49 l0_7 x32_1).f2) ((rd_T49 l0_7 x32_1).f3) ((rd_T49 l0_7 x32_1).f4) ((rd_T49 l0_7 x32_1).f5) ((rd_T49 l0_7 x32_1).f6) ((rd_T49 l0_7 x32_1).f7) ((rd_T49 l0_7 x32_1).f8) ((rd_T49 l0_7 x32_1).f9) ((rd_T51 t439 x6_1).f0.f0) ((rd_T51 t439 x6_1).f0.f1) ((rd_T51 t439 x6_1).f1.f0) ((rd_T51 t439 x6_1).f1.f1) ((rd_T51 t439 x6_1).f2.f0) ((rd_T51 t439 x6_1).f2.f1) bq161 ((rd_T51 t439 x6_1).f4) ((rd_T51 t439 x6_1).f5) ((rd_T51 t439 x6_1).f6)) else (celluloidlaw15_EdgeGoes.j3 kj38 (wrap64 (x6_1 + 1)) l0_7 (l0_7.length : Int) x32_1 (!(((rd_T51 t439 x6_1).f1.f0) == 0) || (!(((rd_T51 t439 x6_1).f1.f1) == 0))) t433 t436 t439 ((rd_T49 l0_7 x32_1).f0) ((rd_T49 l0_7 x32_1).f1) ((rd_T49 l0_7 x32_1).f2) ((rd_T49 l0_7 x32_1).f3) ((rd_T49 l0_7 x32_1).f4) ((rd_T49 l0_7 x32_1).f5) ((rd_T49 l0_7 x32_1).f6) ((rd_T49 l0_7 x32_1).f7) ((rd_T49 l0_7 x32_1).f8) ((rd_T49 l0_7 x32_1).f9) ((rd_T51 t439 x6_1).f0.f0) ((rd_T51 t439 x6_1).f0.f1) ((rd_T51 t439 x6_1).f1.f0) ((rd_T51 t439 x6_1).f1.f1) ((rd_T51 t439 x6_1).f2.f0) ((rd_T51 t439 x6_1).f2.f1) bq161 ((rd_T51 t439 x6_1).f4) ((rd_T51 t439 x6_1).f5) ((rd_T51 t439 x6_1).f6))) = some r:=by rw [← hbq161] at H;exact H
                                                have Nbq161:=am hbq161;clear hbq161
                                                by_cases c162 : (bq161 = true)
                                                · subst c162
                                                  have H1 : (celluloidlaw15_EdgeGoes.j3 kj38 (wrap64 (x6_1 + 1)) l0_7 (l0_7.length : Int) x32_1 false t433 t436 t439 ((rd_T49 l0_7 x32_1).f0) ((rd_T49 l0_7 x32_1).f1) ((rd_T49 l0_7 x32_1).f2) ((rd_T49 l0_7 x32_1).f3) ((rd_T49 l0_7 x32_1).f4) ((rd_T49 l0_7 x32_1).f5) ((rd_T49 l0_7 x32_1).f6) ((rd_T49 l0_7 x32_1).f7) ((rd_T49 l0_7 x32_1).f8) ((rd_T49 l0_7 x32_1).f9) ((rd_T51 t439 x6_1).f0.f0) ((rd_T51 t439 x6_1).f0.f1) ((rd_T51 t439 x6_1).f1.f0) ((rd_T51 t439 x6_1).f1.f1) ((rd_T51 t439 x6_1).f2.f0) ((rd_T51 t439 x6_1).f2.f1) true ((rd_T51 t439 x6_1).f4) ((rd_T51 t439 x6_1).f5) ((rd_T51 t439 x6_1).f6)) = some r:=by rw [if_pos rfl] at H;exact H
                                                  clear H;have H:=H1;clear H1;have H':=am H;clear H;have hnb163:=NB450_430.out;have hnc163:=NB430_450.out;have hnb164:=NB450_443.out;have hnc164:=NB443_450.out;have hnb165:=NB450_445.out;have hnc165:=NB445_450.out;have hnb166:=NB450_448.out;have hnc166:=NB448_450.out;have hcz167_0 : w62.cell? ⟨gb450,0,none⟩ = some (.int .i64 0):=(bc BK450.out 0).trans rfl;have hcz167_1 : w62.cell? ⟨gb450,1,none⟩ = some (.int .i64 0):=(bc BK450.out 1).trans rfl;have hcz167_2 : w62.cell? ⟨gb450,2,none⟩ = some (.int .i64 0):=(bc BK450.out 2).trans rfl;have hcz167_3 : w62.cell? ⟨gb450,3,none⟩ = some (.int .i64 0):=(bc BK450.out 3).trans rfl;have hcz167_4 : w62.cell? ⟨gb450,4,none⟩ = some (.int .i64 0):=(bc BK450.out 4).trans rfl;have hcz167_5 : w62.cell? ⟨gb450,5,none⟩ = some (.int .i64 0):=(bc BK450.out 5).trans rfl;have hcz167_6 : w62.cell? ⟨gb450,6,none⟩ = some (.bool false):=(bc BK450.out 6).trans rfl;have hcz167_7 : w62.cell? ⟨gb450,7,none⟩ = some (.int .i64 0):=(bc BK450.out 7).trans rfl;have hcz167_8 : w62.cell? ⟨gb450,8,none⟩ = some (.int .i64 0):=(bc BK450.out 8).trans rfl;have hcz167_9 : w62.cell? ⟨gb450,9,none⟩ = some (.int .i64 0):=(bc BK450.out 9).trans rfl;have hfz167_0:=bz BK450.out 0;have hfz167_1:=bz BK450.out 1;have hfz167_2:=bz BK450.out 2;have hfz167_3:=bz BK450.out 3;have hfz167_4:=bz BK450.out 4;have hfz167_5:=bz BK450.out 5;have hfz167_6:=bz BK450.out 6;have hfz167_7:=bz BK450.out 7;have hfz167_8:=bz BK450.out 8;have hfz167_9:=bz BK450.out 9;have hnb168:=NB445_430.out;have hnc168:=NB430_445.out;have hnb169:=NB445_443.out;have hnc169:=NB443_445.out;have hnb170:=NB445_448.out;have hnc170:=NB448_445.out;have hcz171_0 : w62.cell? ⟨gb445,0,none⟩ = some (.int .i64 x446000_24):=(bc BK445.out 0).trans rfl;have hcz171_1 : w62.cell? ⟨gb445,1,none⟩ = some (.int .i64 x446001_24):=(bc BK445.out 1).trans rfl;have hfz171_0:=bz BK445.out 0;have hfz171_1:=bz BK445.out 1;have hnb172:=NB448_430.out;have hnc172:=NB430_448.out;have hnb173:=NB448_443.out;have hnc173:=NB443_448.out;have hcz174_0 : w62.cell? ⟨gb448,0,none⟩ = some (.int .i64 ((rd_T49 l0_7 x32_1).f0)):=(bc BK448.out 0).trans rfl;have hcz174_1 : w62.cell? ⟨gb448,1,none⟩ = some (.int .i64 ((rd_T49 l0_7 x32_1).f1)):=(bc BK448.out 1).trans rfl;have hcz174_2 : w62.cell? ⟨gb448,2,none⟩ = some (.int .i64 ((rd_T49 l0_7 x32_1).f2)):=(bc BK448.out 2).trans rfl;have hcz174_3 : w62.cell? ⟨gb448,3,none⟩ = some (.int .i64 ((rd_T49 l0_7 x32_1).f3)):=(bc BK448.out 3).trans rfl;have hcz174_4 : w62.cell? ⟨gb448,4,none⟩ = some (.int .i64 ((rd_T49 l0_7 x32_1).f4)):=(bc BK448.out 4).trans rfl;have hcz174_5 : w62.cell? ⟨gb448,5,none⟩ = some (.int .i64 ((rd_T49 l0_7 x32_1).f5)):=(bc BK448.out 5).trans rfl;have hcz174_6 : w62.cell? ⟨gb448,6,none⟩ = some (.int .i64 ((rd_T49 l0_7 x32_1).f6)):=(bc BK448.out 6).trans rfl;have hcz174_7 : w62.cell? ⟨gb448,7,none⟩ = some (.int .i64 ((rd_T49 l0_7 x32_1).f7)):=(bc BK448.out 7).trans rfl;have hcz174_8 : w62.cell? ⟨gb448,8,none⟩ = some (.slice A447_8 ((rd_T49 l0_7 x32_1).f8).length c447_8):=(bc BK448.out 8).trans rfl;have hcz174_9 : w62.cell? ⟨gb448,9,none⟩ = some (.slice A447_9 ((rd_T49 l0_7 x32_1).f9).length c447_9):=(bc BK448.out 9).trans rfl;have hfz174_0:=bz BK448.out 0;have hfz174_1:=bz BK448.out 1;have hfz174_2:=bz BK448.out 2;have hfz174_3:=bz BK448.out 3;have hfz174_4:=bz BK448.out 4;have hfz174_5:=bz BK448.out 5;have hfz174_6:=bz BK448.out 6;have hfz174_7:=bz BK448.out 7;have hfz174_8:=bz BK448.out 8;have hfz174_9:=bz BK448.out 9;have hnb175:=NB443_430.out;have hnc175:=NB430_443.out;have hcz176_0 : w62.cell? ⟨gb443,0,none⟩ = some (.slice Ao12 t433.length co12):=(bc BK443.out 0).trans rfl;have hcz176_1 : w62.cell? ⟨gb443,1,none⟩ = some (.slice Ao15 t436.length co15):=(bc BK443.out 1).trans rfl;have hcz176_2 : w62.cell? ⟨gb443,2,none⟩ = some (.slice (some ad449) t439.length co16):=(bc BK443.out 2).trans rfl;have hfz176_0:=bz BK443.out 0;have hfz176_1:=bz BK443.out 1;have hfz176_2:=bz BK443.out 2
                                                  have hNbq161_ : ((rd_T51 t439 x6_1).f3) = true:=Nbq161.out.symm
                                                  have hk0_ : ((rd_T49 l0_7 x32_1).f0 == 5) = true:=by have h_:=c78b2;rw [hNbq161_] at h_;cases q_ : ((rd_T49 l0_7 x32_1).f0 == 5)<;>first|rfl|(rw [q_] at h_;exact absurd h_ (by decide))
                                                  have hk1_ : decide ((rd_T49 l0_7 x32_1).f0 = 5) = true:=decide_eq_true (beq_iff_eq.mp hk0_);have hk2_ : ((rd_T49 l0_7 x32_1).f0 = 5) = True:=eq_true (beq_iff_eq.mp hk0_)
                                                  go_wp2
                                                  go_meet
                                                  case rel => exact ⟨_,(false),(by first|rfl|(simp;done)|(simp [*];done)),(by rw [← Nbq161.out];exact H'),⟨by have:=HK1.out;have:=HJ24.out;have:=HJ38.out;first|omega|exact Nat.le_refl _⟩,⟨by (with_reducible repeat (first|apply Kd.N_alloc|apply Kd.N_drewN|apply Kd.N_drew));exact Kd.N_mono (nf (nf (nf (nf (nf (nf (nf (nf (nf (nf (np HO_444000.out))))))))))) (fun _ hk => ⟨hk.1.1.1,⟨hk.1.1.2.1,⟨hk.1.1.2.2.1,⟨hk.1.1.2.2.2.1,⟨hk.1.1.2.2.2.2.1,⟨hk.1.1.2.2.2.2.2,hk.1.2⟩⟩⟩⟩⟩⟩)⟩,⟨by (with_reducible repeat (first|apply Kd.R_alloc|apply Kd.R_drewN|apply Kd.R_drew));exact Kd.R_mono (rf (rf (rf (rf (rf (rf (rf (rf (rf (rf (Kd.R_types HO_444001.out BK450.out (by decide)))))))))))) (fun _ hk => trivial)⟩,⟨by (with_reducible repeat (first|apply Kd.R_alloc|apply Kd.R_drewN|apply Kd.R_drew));exact Kd.R_mono (rf (rf (rf (rf (rf (rf (rf (rf (rf (rf (rp HO_444002.out))))))))))) (fun _ hk => hk.1.2)⟩,⟨by (with_reducible repeat (first|refine bn ?_ _|refine bd ?_|refine ba ?_ _|refine bf ?_ NB430_450.out _));exact BK430.out⟩,⟨by (with_reducible repeat (first|refine bn ?_ _|refine bd ?_|refine ba ?_ _|refine bf ?_ NB443_450.out _));exact BK443.out⟩,⟨by (with_reducible repeat (first|refine bn ?_ _|refine bd ?_|refine ba ?_ _|refine bf ?_ NB445_450.out _));exact BK445.out⟩,⟨by (with_reducible repeat (first|refine bn ?_ _|refine bd ?_|refine ba ?_ _|refine bf ?_ NB448_450.out _));exact BK448.out⟩,⟨by rw [← Nbq161.out];exact bp10 BK450.out⟩,⟨by repeat (first|(with_reducible first|exact HB.out|apply sa|apply sn|apply sd|refine sy ?_ (by assumption))|exact HB.out)⟩⟩
                                                · replace c162:=Bool.eq_false_iff.mpr c162
                                                  subst c162
                                                  have H1 : (celluloidlaw15_EdgeGoes.j3 kj38 (wrap64 (x6_1 + 1)) l0_7 (l0_7.length : Int) x32_1 (!(((rd_T51 t439 x6_1).f1.f0) == 0) || (!(((rd_T51 t439 x6_1).f1.f1) == 0))) t433 t436 t439 ((rd_T49 l0_7 x32_1).f0) ((rd_T49 l0_7 x32_1).f1) ((rd_T49 l0_7 x32_1).f2) ((rd_T49 l0_7 x32_1).f3) ((rd_T49 l0_7 x32_1).f4) ((rd_T49 l0_7 x32_1).f5) ((rd_T49 l0_7 x32_1).f6) ((rd_T49 l0_7 x32_1).f7) ((rd_T49 l0_7 x32_1).f8) ((rd_T49 l0_7 x32_1).f9) ((rd_T51 t439 x6_1).f0.f0) ((rd_T51 t439 x6_1).f0.f1) ((rd_T51 t439 x6_1).f1.f0) ((rd_T51 t439 x6_1).f1.f1) ((rd_T51 t439 x6_1).f2.f0) ((rd_T51 t439 x6_1).f2.f1) false ((rd_T51 t439 x6_1).f4) ((rd_T51 t439 x6_1).f5) ((rd_T51 t439 x6_1).f6)) = some r:=by rw [if_neg (show ¬ (false = true) by decide)] at H;exact H
                                                  clear H;have H:=H1;clear H1;have H':=am H;clear H;have hnb177:=NB450_430.out;have hnc177:=NB430_450.out;have hnb178:=NB450_443.out;have hnc178:=NB443_450.out;have hnb179:=NB450_445.out;have hnc179:=NB445_450.out;have hnb180:=NB450_448.out;have hnc180:=NB448_450.out;have hcz181_0 : w62.cell? ⟨gb450,0,none⟩ = some (.int .i64 0):=(bc BK450.out 0).trans rfl;have hcz181_1 : w62.cell? ⟨gb450,1,none⟩ = some (.int .i64 0):=(bc BK450.out 1).trans rfl;have hcz181_2 : w62.cell? ⟨gb450,2,none⟩ = some (.int .i64 0):=(bc BK450.out 2).trans rfl;have hcz181_3 : w62.cell? ⟨gb450,3,none⟩ = some (.int .i64 0):=(bc BK450.out 3).trans rfl;have hcz181_4 : w62.cell? ⟨gb450,4,none⟩ = some (.int .i64 0):=(bc BK450.out 4).trans rfl;have hcz181_5 : w62.cell? ⟨gb450,5,none⟩ = some (.int .i64 0):=(bc BK450.out 5).trans rfl;have hcz181_6 : w62.cell? ⟨gb450,6,none⟩ = some (.bool false):=(bc BK450.out 6).trans rfl;have hcz181_7 : w62.cell? ⟨gb450,7,none⟩ = some (.int .i64 0):=(bc BK450.out 7).trans rfl;have hcz181_8 : w62.cell? ⟨gb450,8,none⟩ = some (.int .i64 0):=(bc BK450.out 8).trans rfl;have hcz181_9 : w62.cell? ⟨gb450,9,none⟩ = some (.int .i64 0):=(bc BK450.out 9).trans rfl;have hfz181_0:=bz BK450.out 0;have hfz181_1:=bz BK450.out 1;have hfz181_2:=bz BK450.out 2;have hfz181_3:=bz BK450.out 3;have hfz181_4:=bz BK450.out 4;have hfz181_5:=bz BK450.out 5;have hfz181_6:=bz BK450.out 6;have hfz181_7:=bz BK450.out 7;have hfz181_8:=bz BK450.out 8;have hfz181_9:=bz BK450.out 9;have hnb182:=NB445_430.out;have hnc182:=NB430_445.out;have hnb183:=NB445_443.out;have hnc183:=NB443_445.out;have hnb184:=NB445_448.out;have hnc184:=NB448_445.out;have hcz185_0 : w62.cell? ⟨gb445,0,none⟩ = some (.int .i64 x446000_24):=(bc BK445.out 0).trans rfl;have hcz185_1 : w62.cell? ⟨gb445,1,none⟩ = some (.int .i64 x446001_24):=(bc BK445.out 1).trans rfl;have hfz185_0:=bz BK445.out 0;have hfz185_1:=bz BK445.out 1;have hnb186:=NB448_430.out;have hnc186:=NB430_448.out;have hnb187:=NB448_443.out;have hnc187:=NB443_448.out;have hcz188_0 : w62.cell? ⟨gb448,0,none⟩ = some (.int .i64 ((rd_T49 l0_7 x32_1).f0)):=(bc BK448.out 0).trans rfl;have hcz188_1 : w62.cell? ⟨gb448,1,none⟩ = some (.int .i64 ((rd_T49 l0_7 x32_1).f1)):=(bc BK448.out 1).trans rfl;have hcz188_2 : w62.cell? ⟨gb448,2,none⟩ = some (.int .i64 ((rd_T49 l0_7 x32_1).f2)):=(bc BK448.out 2).trans rfl;have hcz188_3 : w62.cell? ⟨gb448,3,none⟩ = some (.int .i64 ((rd_T49 l0_7 x32_1).f3)):=(bc BK448.out 3).trans rfl;have hcz188_4 : w62.cell? ⟨gb448,4,none⟩ = some (.int .i64 ((rd_T49 l0_7 x32_1).f4)):=(bc BK448.out 4).trans rfl;have hcz188_5 : w62.cell? ⟨gb448,5,none⟩ = some (.int .i64 ((rd_T49 l0_7 x32_1).f5)):=(bc BK448.out 5).trans rfl;have hcz188_6 : w62.cell? ⟨gb448,6,none⟩ = some (.int .i64 ((rd_T49 l0_7 x32_1).f6)):=(bc BK448.out 6).trans rfl;have hcz188_7 : w62.cell? ⟨gb448,7,none⟩ = some (.int .i64 ((rd_T49 l0_7 x32_1).f7)):=(bc BK448.out 7).trans rfl;have hcz188_8 : w62.cell? ⟨gb448,8,none⟩ = some (.slice A447_8 ((rd_T49 l0_7 x32_1).f8).length c447_8):=(bc BK448.out 8).trans rfl;have hcz188_9 : w62.cell? ⟨gb448,9,none⟩ = some (.slice A447_9 ((rd_T49 l0_7 x32_1).f9).length c447_9):=(bc BK448.out 9).trans rfl;have hfz188_0:=bz BK448.out 0;have hfz188_1:=bz BK448.out 1;have hfz188_2:=bz BK448.out 2;have hfz188_3:=bz BK448.out 3;have hfz188_4:=bz BK448.out 4;have hfz188_5:=bz BK448.out 5;have hfz188_6:=bz BK448.out 6;have hfz188_7:=bz BK448.out 7;have hfz188_8:=bz BK448.out 8;have hfz188_9:=bz BK448.out 9;have hnb189:=NB443_430.out;have hnc189:=NB430_443.out;have hcz190_0 : w62.cell? ⟨gb443,0,none⟩ = some (.slice Ao12 t433.length co12):=(bc BK443.out 0).trans rfl;have hcz190_1 : w62.cell? ⟨gb443,1,none⟩ = some (.slice Ao15 t436.length co15):=(bc BK443.out 1).trans rfl;have hcz190_2 : w62.cell? ⟨gb443,2,none⟩ = some (.slice (some ad449) t439.length co16):=(bc BK443.out 2).trans rfl;have hfz190_0:=bz BK443.out 0;have hfz190_1:=bz BK443.out 1;have hfz190_2:=bz BK443.out 2
                                                  have hNbq161_ : ((rd_T51 t439 x6_1).f3) = false:=Nbq161.out.symm
                                                  have hk0_ : ((rd_T49 l0_7 x32_1).f0 == 5) = false:=by have h_:=c78b2;rw [hNbq161_] at h_;cases q_ : ((rd_T49 l0_7 x32_1).f0 == 5)<;>first|rfl|(rw [q_] at h_;exact absurd h_ (by decide))
                                                  have hk1_ : decide ((rd_T49 l0_7 x32_1).f0 = 5) = false:=decide_eq_false (beq_eq_false_iff_ne.mp hk0_);have hk2_ : ((rd_T49 l0_7 x32_1).f0 = 5) = False:=eq_false (beq_eq_false_iff_ne.mp hk0_)
                                                  go_wp2
                                                  go_meet
                                                  case rel => exact ⟨_,((!(((rd_T51 t439 x6_1).f1.f0) == 0) || (!(((rd_T51 t439 x6_1).f1.f1) == 0)))),(by first|rfl|(simp;done)|(simp [*];done)),(by rw [← Nbq161.out];exact H'),⟨by have:=HK1.out;have:=HJ24.out;have:=HJ38.out;first|omega|exact Nat.le_refl _⟩,⟨by (with_reducible repeat (first|apply Kd.N_alloc|apply Kd.N_drewN|apply Kd.N_drew));exact Kd.N_mono (nf (nf (nf (nf (nf (nf (nf (nf (nf (nf (np HO_444000.out))))))))))) (fun _ hk => ⟨hk.1.1.1,⟨hk.1.1.2.1,⟨hk.1.1.2.2.1,⟨hk.1.1.2.2.2.1,⟨hk.1.1.2.2.2.2.1,⟨hk.1.1.2.2.2.2.2,hk.1.2⟩⟩⟩⟩⟩⟩)⟩,⟨by (with_reducible repeat (first|apply Kd.R_alloc|apply Kd.R_drewN|apply Kd.R_drew));exact Kd.R_mono (rf (rf (rf (rf (rf (rf (rf (rf (rf (rf (Kd.R_types HO_444001.out BK450.out (by decide)))))))))))) (fun _ hk => trivial)⟩,⟨by (with_reducible repeat (first|apply Kd.R_alloc|apply Kd.R_drewN|apply Kd.R_drew));exact Kd.R_mono (rf (rf (rf (rf (rf (rf (rf (rf (rf (rf (rp HO_444002.out))))))))))) (fun _ hk => hk.1.2)⟩,⟨by (with_reducible repeat (first|refine bn ?_ _|refine bd ?_|refine ba ?_ _|refine bf ?_ NB430_450.out _));exact BK430.out⟩,⟨by (with_reducible repeat (first|refine bn ?_ _|refine bd ?_|refine ba ?_ _|refine bf ?_ NB443_450.out _));exact BK443.out⟩,⟨by (with_reducible repeat (first|refine bn ?_ _|refine bd ?_|refine ba ?_ _|refine bf ?_ NB445_450.out _));exact BK445.out⟩,⟨by (with_reducible repeat (first|refine bn ?_ _|refine bd ?_|refine ba ?_ _|refine bf ?_ NB448_450.out _));exact BK448.out⟩,⟨by rw [← Nbq161.out];exact bp10 BK450.out⟩,⟨by repeat (first|(with_reducible first|exact HB.out|apply sa|apply sn|apply sd|refine sy ?_ (by assumption))|exact HB.out)⟩⟩
                                case rest =>
                                  clear HC57
                                  try clear c1
                                  try clear q1
                                  try clear p2
                                  try clear c4
                                  try clear p6
                                  try clear c7
                                  try clear c8
                                  try clear c9
                                  try clear c10
                                  try clear c11
                                  try clear c12
                                  try clear c13
                                  try clear c14
                                  try clear c15
                                  try clear c16
                                  try clear q16
                                  try clear c17
                                  try clear c18
                                  try clear c44
                                  try clear p64
                                  try clear c78
                                  try clear c78b0
                                  try clear c78b1
                                  try clear c78b2
                                  try clear c84
                                  try clear c85
                                  try clear c86
                                  try clear c88
                                  try clear c89
                                  try clear c91
                                  try clear c91b0
                                  try clear c92
                                  try clear c93
                                  try clear c94
                                  try clear c95
                                  try clear c97
                                  try clear c98
                                  try clear c99
                                  try clear c101
                                  try clear c102
                                  try clear c104
                                  try clear c104b0
                                  try clear c105
                                  try clear c106
                                  try clear c107
                                  try clear c108
                                  try clear c110
                                  try clear c111
                                  try clear c112
                                  try clear c114
                                  try clear c115
                                  try clear c117
                                  try clear c117b0
                                  try clear c118
                                  try clear c119
                                  try clear c120
                                  try clear c121
                                  try clear c123
                                  try clear c124
                                  try clear c125
                                  try clear c127
                                  try clear c128
                                  try clear c131
                                  try clear c131b0
                                  try clear c132
                                  try clear c133
                                  try clear c134
                                  try clear c135
                                  try clear c137
                                  try clear c138
                                  try clear c139
                                  try clear c141
                                  try clear c142
                                  try clear c144
                                  try clear c146
                                  try clear c146b0
                                  try clear c147
                                  try clear c148
                                  try clear c149
                                  try clear c150
                                  try clear c152
                                  try clear c153
                                  try clear c154
                                  try clear c156
                                  try clear c157
                                  try clear c159
                                  try clear q161
                                  try clear c162
                                  try clear c163
                                  try clear c164
                                  try clear c165
                                  try clear c166
                                  try clear c168
                                  try clear c169
                                  try clear c170
                                  try clear c172
                                  try clear c173
                                  try clear c175
                                  try clear c177
                                  try clear c178
                                  try clear c179
                                  try clear c180
                                  try clear c182
                                  try clear c183
                                  try clear c184
                                  try clear c186
                                  try clear c187
                                  try clear c189
                                  try clear hcz100_0
                                  try clear hcz100_1
                                  try clear hcz103_0
                                  try clear hcz103_1
                                  try clear hcz103_2
                                  try clear hcz103_3
                                  try clear hcz103_4
                                  try clear hcz103_5
                                  try clear hcz103_6
                                  try clear hcz103_7
                                  try clear hcz103_8
                                  try clear hcz103_9
                                  try clear hcz109_0
                                  try clear hcz109_1
                                  try clear hcz109_2
                                  try clear hcz109_3
                                  try clear hcz109_4
                                  try clear hcz109_5
                                  try clear hcz109_6
                                  try clear hcz109_7
                                  try clear hcz109_8
                                  try clear hcz109_9
                                  try clear hcz113_0
                                  try clear hcz113_1
                                  try clear hcz116_0
                                  try clear hcz116_1
                                  try clear hcz116_2
                                  try clear hcz116_3
                                  try clear hcz116_4
                                  try clear hcz116_5
                                  try clear hcz116_6
                                  try clear hcz116_7
                                  try clear hcz116_8
                                  try clear hcz116_9
                                  try clear hcz122_0
                                  try clear hcz122_1
                                  try clear hcz122_2
                                  try clear hcz122_3
                                  try clear hcz122_4
                                  try clear hcz122_5
                                  try clear hcz122_6
                                  try clear hcz122_7
                                  try clear hcz122_8
                                  try clear hcz122_9
                                  try clear hcz126_0
                                  try clear hcz126_1
                                  try clear hcz129_0
                                  try clear hcz129_1
                                  try clear hcz129_2
                                  try clear hcz129_3
                                  try clear hcz129_4
                                  try clear hcz129_5
                                  try clear hcz129_6
                                  try clear hcz129_7
                                  try clear hcz129_8
                                  try clear hcz129_9
                                  try clear hcz136_0
                                  try clear hcz136_1
                                  try clear hcz136_2
                                  try clear hcz136_3
                                  try clear hcz136_4
                                  try clear hcz136_5
                                  try clear hcz136_6
                                  try clear hcz136_7
                                  try clear hcz136_8
                                  try clear hcz136_9
                                  try clear hcz140_0
                                  try clear hcz140_1
                                  try clear hcz143_0
                                  try clear hcz143_1
                                  try clear hcz143_2
                                  try clear hcz143_3
                                  try clear hcz143_4
                                  try clear hcz143_5
                                  try clear hcz143_6
                                  try clear hcz143_7
                                  try clear hcz143_8
                                  try clear hcz143_9
                                  try clear hcz145_0
                                  try clear hcz145_1
                                  try clear hcz145_2
                                  try clear hcz151_0
                                  try clear hcz151_1
                                  try clear hcz151_2
                                  try clear hcz151_3
                                  try clear hcz151_4
                                  try clear hcz151_5
                                  try clear hcz151_6
                                  try clear hcz151_7
                                  try clear hcz151_8
                                  try clear hcz151_9
                                  try clear hcz155_0
                                  try clear hcz155_1
                                  try clear hcz158_0
                                  try clear hcz158_1
                                  try clear hcz158_2
                                  try clear hcz158_3
                                  try clear hcz158_4
                                  try clear hcz158_5
                                  try clear hcz158_6
                                  try clear hcz158_7
                                  try clear hcz158_8
                                  try clear hcz158_9
                                  try clear hcz160_0
                                  try clear hcz160_1
                                  try clear hcz160_2
                                  try clear hcz167_0
                                  try clear hcz167_1
                                  try clear hcz167_2
                                  try clear hcz167_3
                                  try clear hcz167_4
                                  try clear hcz167_5
                                  try clear hcz167_6
                                  try clear hcz167_7
                                  try clear hcz167_8
                                  try clear hcz167_9
                                  try clear hcz171_0
                                  try clear hcz171_1
                                  try clear hcz174_0
                                  try clear hcz174_1
                                  try clear hcz174_2
                                  try clear hcz174_3
                                  try clear hcz174_4
                                  try clear hcz174_5
                                  try clear hcz174_6
                                  try clear hcz174_7
                                  try clear hcz174_8
                                  try clear hcz174_9
                                  try clear hcz176_0
                                  try clear hcz176_1
                                  try clear hcz176_2
                                  try clear hcz181_0
                                  try clear hcz181_1
                                  try clear hcz181_2
                                  try clear hcz181_3
                                  try clear hcz181_4
                                  try clear hcz181_5
                                  try clear hcz181_6
                                  try clear hcz181_7
                                  try clear hcz181_8
                                  try clear hcz181_9
                                  try clear hcz185_0
                                  try clear hcz185_1
                                  try clear hcz188_0
                                  try clear hcz188_1
                                  try clear hcz188_2
                                  try clear hcz188_3
                                  try clear hcz188_4
                                  try clear hcz188_5
                                  try clear hcz188_6
                                  try clear hcz188_7
                                  try clear hcz188_8
                                  try clear hcz188_9
                                  try clear hcz190_0
                                  try clear hcz190_1
                                  try clear hcz190_2
                                  try clear hcz87_0
                                  try clear hcz87_1
                                  try clear hcz90_0
                                  try clear hcz90_1
                                  try clear hcz90_2
                                  try clear hcz90_3
                                  try clear hcz90_4
                                  try clear hcz90_5
                                  try clear hcz90_6
                                  try clear hcz90_7
                                  try clear hcz90_8
                                  try clear hcz90_9
                                  try clear hcz96_0
                                  try clear hcz96_1
                                  try clear hcz96_2
                                  try clear hcz96_3
                                  try clear hcz96_4
                                  try clear hcz96_5
                                  try clear hcz96_6
                                  try clear hcz96_7
                                  try clear hcz96_8
                                  try clear hcz96_9
                                  try clear hfz100_0
                                  try clear hfz100_1
                                  try clear hfz103_0
                                  try clear hfz103_1
                                  try clear hfz103_2
                                  try clear hfz103_3
                                  try clear hfz103_4
                                  try clear hfz103_5
                                  try clear hfz103_6
                                  try clear hfz103_7
                                  try clear hfz103_8
                                  try clear hfz103_9
                                  try clear hfz109_0
                                  try clear hfz109_1
                                  try clear hfz109_2
                                  try clear hfz109_3
                                  try clear hfz109_4
                                  try clear hfz109_5
                                  try clear hfz109_6
                                  try clear hfz109_7
                                  try clear hfz109_8
                                  try clear hfz109_9
                                  try clear hfz113_0
                                  try clear hfz113_1
                                  try clear hfz116_0
                                  try clear hfz116_1
                                  try clear hfz116_2
                                  try clear hfz116_3
                                  try clear hfz116_4
                                  try clear hfz116_5
                                  try clear hfz116_6
                                  try clear hfz116_7
                                  try clear hfz116_8
                                  try clear hfz116_9
                                  try clear hfz122_0
                                  try clear hfz122_1
                                  try clear hfz122_2
                                  try clear hfz122_3
                                  try clear hfz122_4
                                  try clear hfz122_5
                                  try clear hfz122_6
                                  try clear hfz122_7
                                  try clear hfz122_8
                                  try clear hfz122_9
                                  try clear hfz126_0
                                  try clear hfz126_1
                                  try clear hfz129_0
                                  try clear hfz129_1
                                  try clear hfz129_2
                                  try clear hfz129_3
                                  try clear hfz129_4
                                  try clear hfz129_5
                                  try clear hfz129_6
                                  try clear hfz129_7
                                  try clear hfz129_8
                                  try clear hfz129_9
                                  try clear hfz136_0
                                  try clear hfz136_1
                                  try clear hfz136_2
                                  try clear hfz136_3
                                  try clear hfz136_4
                                  try clear hfz136_5
                                  try clear hfz136_6
                                  try clear hfz136_7
                                  try clear hfz136_8
                                  try clear hfz136_9
                                  try clear hfz140_0
                                  try clear hfz140_1
                                  try clear hfz143_0
                                  try clear hfz143_1
                                  try clear hfz143_2
                                  try clear hfz143_3
                                  try clear hfz143_4
                                  try clear hfz143_5
                                  try clear hfz143_6
                                  try clear hfz143_7
                                  try clear hfz143_8
                                  try clear hfz143_9
                                  try clear hfz145_0
                                  try clear hfz145_1
                                  try clear hfz145_2
                                  try clear hfz151_0
                                  try clear hfz151_1
                                  try clear hfz151_2
                                  try clear hfz151_3
                                  try clear hfz151_4
                                  try clear hfz151_5
                                  try clear hfz151_6
                                  try clear hfz151_7
                                  try clear hfz151_8
                                  try clear hfz151_9
                                  try clear hfz155_0
                                  try clear hfz155_1
                                  try clear hfz158_0
                                  try clear hfz158_1
                                  try clear hfz158_2
                                  try clear hfz158_3
                                  try clear hfz158_4
                                  try clear hfz158_5
                                  try clear hfz158_6
                                  try clear hfz158_7
                                  try clear hfz158_8
                                  try clear hfz158_9
                                  try clear hfz160_0
                                  try clear hfz160_1
                                  try clear hfz160_2
                                  try clear hfz167_0
                                  try clear hfz167_1
                                  try clear hfz167_2
                                  try clear hfz167_3
                                  try clear hfz167_4
                                  try clear hfz167_5
                                  try clear hfz167_6
                                  try clear hfz167_7
                                  try clear hfz167_8
                                  try clear hfz167_9
                                  try clear hfz171_0
                                  try clear hfz171_1
                                  try clear hfz174_0
                                  try clear hfz174_1
                                  try clear hfz174_2
                                  try clear hfz174_3
                                  try clear hfz174_4
                                  try clear hfz174_5
                                  try clear hfz174_6
                                  try clear hfz174_7
                                  try clear hfz174_8
                                  try clear hfz174_9
                                  try clear hfz176_0
                                  try clear hfz176_1
                                  try clear hfz176_2
                                  try clear hfz181_0
                                  try clear hfz181_1
                                  try clear hfz181_2
                                  try clear hfz181_3
                                  try clear hfz181_4
                                  try clear hfz181_5
                                  try clear hfz181_6
                                  try clear hfz181_7
                                  try clear hfz181_8
                                  try clear hfz181_9
                                  try clear hfz185_0
                                  try clear hfz185_1
                                  try clear hfz188_0
                                  try clear hfz188_1
                                  try clear hfz188_2
                                  try clear hfz188_3
                                  try clear hfz188_4
                                  try clear hfz188_5
                                  try clear hfz188_6
                                  try clear hfz188_7
                                  try clear hfz188_8
                                  try clear hfz188_9
                                  try clear hfz190_0
                                  try clear hfz190_1
                                  try clear hfz190_2
                                  try clear hfz83_9
                                  try clear hfz87_0
                                  try clear hfz87_1
                                  try clear hfz90_0
                                  try clear hfz90_1
                                  try clear hfz90_2
                                  try clear hfz90_3
                                  try clear hfz90_4
                                  try clear hfz90_5
                                  try clear hfz90_6
                                  try clear hfz90_7
                                  try clear hfz90_8
                                  try clear hfz90_9
                                  try clear hfz96_0
                                  try clear hfz96_1
                                  try clear hfz96_2
                                  try clear hfz96_3
                                  try clear hfz96_4
                                  try clear hfz96_5
                                  try clear hfz96_6
                                  try clear hfz96_7
                                  try clear hfz96_8
                                  try clear hfz96_9
                                  obtain ⟨kq,x120_56,rfl,HA,HJ56,HO_444000,HO_444001,HO_444002,BK430,BK443,BK445,BK448,BK450,HB⟩:=hcut
                                  cases kq with
                                  | zero => exact absurd HA.out (by simp [celluloidlaw15_EdgeGoes.j3])
                                  | succ kj56 =>
                                    have H:=HA.out;clear HA;simp only [celluloidlaw15_EdgeGoes.j3] at H
                                    by_cases c191 : x120_56 = true
                                    · subst c191
                                      have H1 : (some false) = some r:=by rw [if_pos rfl] at H;exact H
                                      clear H;have H:=H1;clear H1;obtain rfl:=Option.some.inj H
                                      go_wp2
                                      go_ret
                                      exact ⟨by first|rfl|(simp [errW_none,errW_some] <;> rfl)|(simp [*,errW_none,errW_some] <;> rfl),by repeat (first|(with_reducible first|exact HB.out|apply sa|apply sn|apply sd|refine sy ?_ (by assumption))|exact HB.out)⟩
                                    · replace c191:=Bool.eq_false_iff.mpr c191
                                      subst c191
                                      have H1 : (if (wrap64 (((rd_T51 t439 x6_1).f2.f0) - ((rd_T51 t439 x6_1).f0.f0))) = (wrap64 (((rd_T49 l0_7 x32_1).f3) + ((rd_T49 l0_7 x32_1).f1))) then (if (wrap64 (((rd_T51 t439 x6_1).f2.f1) - ((rd_T51 t439 x6_1).f0.f1))) = (wrap64 (((rd_T49 l0_7 x32_1).f4) + ((rd_T49 l0_7 x32_1).f2))) then (celluloidlaw15_EdgeGoes.l0 kj56 (wrap64 (x6_1 + 1)) l0_7 (l0_7.length : Int) (wrap64 (x32_1 + 1)) t433 t436 t439 ((rd_T51 t439 x6_1).f2.f0) ((rd_T51 t439 x6_1).f2.f1)) else (some false)) else (some false)) = some r:=by rw [if_neg (show ¬ (false = true) by decide)] at H;exact H
                                      clear H;have H:=H1;clear H1
                                      by_cases c192 : (wrap64 (((rd_T51 t439 x6_1).f2.f0) - ((rd_T51 t439 x6_1).f0.f0))) = (wrap64 (((rd_T49 l0_7 x32_1).f3) + ((rd_T49 l0_7 x32_1).f1)))
                                      · rw [if_pos c192] at H
                                        have c192b0 : ((wrap64 (((rd_T51 t439 x6_1).f2.f0) - ((rd_T51 t439 x6_1).f0.f0))) == (wrap64 (((rd_T49 l0_7 x32_1).f3) + ((rd_T49 l0_7 x32_1).f1)))) = true:=beq_iff_eq.mpr c192;have c192b1 : ((wrap64 (((rd_T51 t439 x6_1).f2.f0) - ((rd_T51 t439 x6_1).f0.f0))) != (wrap64 (((rd_T49 l0_7 x32_1).f3) + ((rd_T49 l0_7 x32_1).f1)))) = false:=bne_eq_false_iff_eq.mpr c192;clear c192
                                        by_cases c193 : (wrap64 (((rd_T51 t439 x6_1).f2.f1) - ((rd_T51 t439 x6_1).f0.f1))) = (wrap64 (((rd_T49 l0_7 x32_1).f4) + ((rd_T49 l0_7 x32_1).f2)))
                                        · rw [if_pos c193] at H
                                          have c193b0 : ((wrap64 (((rd_T51 t439 x6_1).f2.f1) - ((rd_T51 t439 x6_1).f0.f1))) == (wrap64 (((rd_T49 l0_7 x32_1).f4) + ((rd_T49 l0_7 x32_1).f2)))) = true:=beq_iff_eq.mpr c193;have c193b1 : ((wrap64 (((rd_T51 t439 x6_1).f2.f1) - ((rd_T51 t439 x6_1).f0.f1))) != (wrap64 (((rd_T49 l0_7 x32_1).f4) + ((rd_T49 l0_7 x32_1).f2)))) = false:=bne_eq_false_iff_eq.mpr c193;clear c193;have H':=am H;clear H;have hnb194:=NB450_430.out;have hnc194:=NB430_450.out;have hnb195:=NB450_443.out;have hnc195:=NB443_450.out;have hnb196:=NB450_445.out;have hnc196:=NB445_450.out;have hnb197:=NB450_448.out;have hnc197:=NB448_450.out;have hcz198_0 : wc.cell? ⟨gb450,0,none⟩ = some (.int .i64 ((rd_T51 t439 x6_1).f0.f0)):=(bc BK450.out 0).trans rfl;have hcz198_1 : wc.cell? ⟨gb450,1,none⟩ = some (.int .i64 ((rd_T51 t439 x6_1).f0.f1)):=(bc BK450.out 1).trans rfl;have hcz198_2 : wc.cell? ⟨gb450,2,none⟩ = some (.int .i64 ((rd_T51 t439 x6_1).f1.f0)):=(bc BK450.out 2).trans rfl;have hcz198_3 : wc.cell? ⟨gb450,3,none⟩ = some (.int .i64 ((rd_T51 t439 x6_1).f1.f1)):=(bc BK450.out 3).trans rfl;have hcz198_4 : wc.cell? ⟨gb450,4,none⟩ = some (.int .i64 ((rd_T51 t439 x6_1).f2.f0)):=(bc BK450.out 4).trans rfl;have hcz198_5 : wc.cell? ⟨gb450,5,none⟩ = some (.int .i64 ((rd_T51 t439 x6_1).f2.f1)):=(bc BK450.out 5).trans rfl;have hcz198_6 : wc.cell? ⟨gb450,6,none⟩ = some (.bool ((rd_T51 t439 x6_1).f3)):=(bc BK450.out 6).trans rfl;have hcz198_7 : wc.cell? ⟨gb450,7,none⟩ = some (.int .i64 ((rd_T51 t439 x6_1).f4)):=(bc BK450.out 7).trans rfl;have hcz198_8 : wc.cell? ⟨gb450,8,none⟩ = some (.int .i64 ((rd_T51 t439 x6_1).f5)):=(bc BK450.out 8).trans rfl;have hcz198_9 : wc.cell? ⟨gb450,9,none⟩ = some (.int .i64 ((rd_T51 t439 x6_1).f6)):=(bc BK450.out 9).trans rfl;have hfz198_0:=bz BK450.out 0;have hfz198_1:=bz BK450.out 1;have hfz198_2:=bz BK450.out 2;have hfz198_3:=bz BK450.out 3;have hfz198_4:=bz BK450.out 4;have hfz198_5:=bz BK450.out 5;have hfz198_6:=bz BK450.out 6;have hfz198_7:=bz BK450.out 7;have hfz198_8:=bz BK450.out 8;have hfz198_9:=bz BK450.out 9;have hnb199:=NB448_430.out;have hnc199:=NB430_448.out;have hnb200:=NB448_443.out;have hnc200:=NB443_448.out;have hnb201:=NB448_445.out;have hnc201:=NB445_448.out;have hcz202_0 : wc.cell? ⟨gb448,0,none⟩ = some (.int .i64 ((rd_T49 l0_7 x32_1).f0)):=(bc BK448.out 0).trans rfl;have hcz202_1 : wc.cell? ⟨gb448,1,none⟩ = some (.int .i64 ((rd_T49 l0_7 x32_1).f1)):=(bc BK448.out 1).trans rfl;have hcz202_2 : wc.cell? ⟨gb448,2,none⟩ = some (.int .i64 ((rd_T49 l0_7 x32_1).f2)):=(bc BK448.out 2).trans rfl;have hcz202_3 : wc.cell? ⟨gb448,3,none⟩ = some (.int .i64 ((rd_T49 l0_7 x32_1).f3)):=(bc BK448.out 3).trans rfl;have hcz202_4 : wc.cell? ⟨gb448,4,none⟩ = some (.int .i64 ((rd_T49 l0_7 x32_1).f4)):=(bc BK448.out 4).trans rfl;have hcz202_5 : wc.cell? ⟨gb448,5,none⟩ = some (.int .i64 ((rd_T49 l0_7 x32_1).f5)):=(bc BK448.out 5).trans rfl;have hcz202_6 : wc.cell? ⟨gb448,6,none⟩ = some (.int .i64 ((rd_T49 l0_7 x32_1).f6)):=(bc BK448.out 6).trans rfl;have hcz202_7 : wc.cell? ⟨gb448,7,none⟩ = some (.int .i64 ((rd_T49 l0_7 x32_1).f7)):=(bc BK448.out 7).trans rfl;have hcz202_8 : wc.cell? ⟨gb448,8,none⟩ = some (.slice A447_8 ((rd_T49 l0_7 x32_1).f8).length c447_8):=(bc BK448.out 8).trans rfl;have hcz202_9 : wc.cell? ⟨gb448,9,none⟩ = some (.slice A447_9 ((rd_T49 l0_7 x32_1).f9).length c447_9):=(bc BK448.out 9).trans rfl;have hfz202_0:=bz BK448.out 0;have hfz202_1:=bz BK448.out 1;have hfz202_2:=bz BK448.out 2;have hfz202_3:=bz BK448.out 3;have hfz202_4:=bz BK448.out 4;have hfz202_5:=bz BK448.out 5;have hfz202_6:=bz BK448.out 6;have hfz202_7:=bz BK448.out 7;have hfz202_8:=bz BK448.out 8;have hfz202_9:=bz BK448.out 9;have hnb203:=NB445_430.out;have hnc203:=NB430_445.out;have hnb204:=NB445_443.out;have hnc204:=NB443_445.out;have hcz205_0 : wc.cell? ⟨gb445,0,none⟩ = some (.int .i64 x446000_24):=(bc BK445.out 0).trans rfl;have hcz205_1 : wc.cell? ⟨gb445,1,none⟩ = some (.int .i64 x446001_24):=(bc BK445.out 1).trans rfl;have hfz205_0:=bz BK445.out 0;have hfz205_1:=bz BK445.out 1
                                          go_wp2
                                          go_roundg kj56
                                          case measure => have:=HK1.out;have:=HJ24.out;have:=HJ38.out;have:=HJ56.out;omega
                                          case rel => exact ⟨((wrap64 (x6_1 + 1))),(wrap64 (x32_1 + 1)),(((rd_T51 t439 x6_1).f2.f0)),(((rd_T51 t439 x6_1).f2.f1)),(by first|rfl|(simp;done)|(simp [*];done)),(by first|rfl|(simp;done)|(simp [*];done)),H',⟨by have:=HK1.out;have:=HJ24.out;have:=HJ38.out;have:=HJ56.out;omega⟩,⟨by (with_reducible repeat (first|apply Kd.N_alloc|apply Kd.N_drewN|apply Kd.N_drew));exact Kd.N_mono (nf (nf (Kd.N_mono HO_444000.out (fun k_ hk => (⟨hk,hk.2.2.2.2.1⟩ : _ ∧ k_ ≠ gb445))))) (fun _ hk => ⟨hk.1.1,⟨hk.1.2.1,⟨hk.1.2.2.1,⟨hk.1.2.2.2.1,hk.1.2.2.2.2.1⟩⟩⟩⟩)⟩,⟨by (with_reducible repeat (first|apply Kd.R_alloc|apply Kd.R_drewN|apply Kd.R_drew));exact Kd.R_mono (rf (rf (Kd.R_types HO_444001.out BK445.out (by decide)))) (fun _ hk => trivial)⟩,⟨by (with_reducible repeat (first|apply Kd.R_alloc|apply Kd.R_drewN|apply Kd.R_drew));exact Kd.R_mono (rf (rf (Kd.R_types HO_444002.out BK445.out (by decide)))) (fun _ hk => trivial)⟩,⟨by (with_reducible repeat (first|refine bn ?_ _|refine bd ?_|refine ba ?_ _|refine bf ?_ NB430_445.out _));exact BK430.out⟩,⟨by (with_reducible repeat (first|refine bn ?_ _|refine bd ?_|refine ba ?_ _|refine bf ?_ NB443_445.out _));exact BK443.out⟩,⟨(bp (bp BK445.out 0 _ rfl) 1 _ rfl)⟩,⟨by repeat (first|(with_reducible first|exact HB.out|apply sa|apply sn|apply sd|refine sy ?_ (by assumption))|exact HB.out)⟩⟩
                                        · rw [if_neg c193] at H
                                          have c193b0 : ((wrap64 (((rd_T51 t439 x6_1).f2.f1) - ((rd_T51 t439 x6_1).f0.f1))) == (wrap64 (((rd_T49 l0_7 x32_1).f4) + ((rd_T49 l0_7 x32_1).f2)))) = false:=beq_eq_false_iff_ne.mpr c193;have c193b1 : ((wrap64 (((rd_T51 t439 x6_1).f2.f1) - ((rd_T51 t439 x6_1).f0.f1))) != (wrap64 (((rd_T49 l0_7 x32_1).f4) + ((rd_T49 l0_7 x32_1).f2)))) = true:=bne_iff_ne.mpr c193;obtain rfl:=Option.some.inj H;have hnb206:=NB450_430.out;have hnc206:=NB430_450.out;have hnb207:=NB450_443.out;have hnc207:=NB443_450.out;have hnb208:=NB450_445.out;have hnc208:=NB445_450.out;have hnb209:=NB450_448.out;have hnc209:=NB448_450.out;have hcz210_0 : wc.cell? ⟨gb450,0,none⟩ = some (.int .i64 ((rd_T51 t439 x6_1).f0.f0)):=(bc BK450.out 0).trans rfl;have hcz210_1 : wc.cell? ⟨gb450,1,none⟩ = some (.int .i64 ((rd_T51 t439 x6_1).f0.f1)):=(bc BK450.out 1).trans rfl;have hcz210_2 : wc.cell? ⟨gb450,2,none⟩ = some (.int .i64 ((rd_T51 t439 x6_1).f1.f0)):=(bc BK450.out 2).trans rfl;have hcz210_3 : wc.cell? ⟨gb450,3,none⟩ = some (.int .i64 ((rd_T51 t439 x6_1).f1.f1)):=(bc BK450.out 3).trans rfl;have hcz210_4 : wc.cell? ⟨gb450,4,none⟩ = some (.int .i64 ((rd_T51 t439 x6_1).f2.f0)):=(bc BK450.out 4).trans rfl;have hcz210_5 : wc.cell? ⟨gb450,5,none⟩ = some (.int .i64 ((rd_T51 t439 x6_1).f2.f1)):=(bc BK450.out 5).trans rfl;have hcz210_6 : wc.cell? ⟨gb450,6,none⟩ = some (.bool ((rd_T51 t439 x6_1).f3)):=(bc BK450.out 6).trans rfl;have hcz210_7 : wc.cell? ⟨gb450,7,none⟩ = some (.int .i64 ((rd_T51 t439 x6_1).f4)):=(bc BK450.out 7).trans rfl;have hcz210_8 : wc.cell? ⟨gb450,8,none⟩ = some (.int .i64 ((rd_T51 t439 x6_1).f5)):=(bc BK450.out 8).trans rfl;have hcz210_9 : wc.cell? ⟨gb450,9,none⟩ = some (.int .i64 ((rd_T51 t439 x6_1).f6)):=(bc BK450.out 9).trans rfl;have hfz210_0:=bz BK450.out 0;have hfz210_1:=bz BK450.out 1;have hfz210_2:=bz BK450.out 2;have hfz210_3:=bz BK450.out 3;have hfz210_4:=bz BK450.out 4;have hfz210_5:=bz BK450.out 5;have hfz210_6:=bz BK450.out 6;have hfz210_7:=bz BK450.out 7;have hfz210_8:=bz BK450.out 8;have hfz210_9:=bz BK450.out 9;have hnb211:=NB448_430.out;have hnc211:=NB430_448.out;have hnb212:=NB448_443.out;have hnc212:=NB443_448.out;have hnb213:=NB448_445.out;have hnc213:=NB445_448.out;have hcz214_0 : wc.cell? ⟨gb448,0,none⟩ = some (.int .i64 ((rd_T49 l0_7 x32_1).f0)):=(bc BK448.out 0).trans rfl;have hcz214_1 : wc.cell? ⟨gb448,1,none⟩ = some (.int .i64 ((rd_T49 l0_7 x32_1).f1)):=(bc BK448.out 1).trans rfl;have hcz214_2 : wc.cell? ⟨gb448,2,none⟩ = some (.int .i64 ((rd_T49 l0_7 x32_1).f2)):=(bc BK448.out 2).trans rfl;have hcz214_3 : wc.cell? ⟨gb448,3,none⟩ = some (.int .i64 ((rd_T49 l0_7 x32_1).f3)):=(bc BK448.out 3).trans rfl;have hcz214_4 : wc.cell? ⟨gb448,4,none⟩ = some (.int .i64 ((rd_T49 l0_7 x32_1).f4)):=(bc BK448.out 4).trans rfl;have hcz214_5 : wc.cell? ⟨gb448,5,none⟩ = some (.int .i64 ((rd_T49 l0_7 x32_1).f5)):=(bc BK448.out 5).trans rfl;have hcz214_6 : wc.cell? ⟨gb448,6,none⟩ = some (.int .i64 ((rd_T49 l0_7 x32_1).f6)):=(bc BK448.out 6).trans rfl;have hcz214_7 : wc.cell? ⟨gb448,7,none⟩ = some (.int .i64 ((rd_T49 l0_7 x32_1).f7)):=(bc BK448.out 7).trans rfl;have hcz214_8 : wc.cell? ⟨gb448,8,none⟩ = some (.slice A447_8 ((rd_T49 l0_7 x32_1).f8).length c447_8):=(bc BK448.out 8).trans rfl;have hcz214_9 : wc.cell? ⟨gb448,9,none⟩ = some (.slice A447_9 ((rd_T49 l0_7 x32_1).f9).length c447_9):=(bc BK448.out 9).trans rfl;have hfz214_0:=bz BK448.out 0;have hfz214_1:=bz BK448.out 1;have hfz214_2:=bz BK448.out 2;have hfz214_3:=bz BK448.out 3;have hfz214_4:=bz BK448.out 4;have hfz214_5:=bz BK448.out 5;have hfz214_6:=bz BK448.out 6;have hfz214_7:=bz BK448.out 7;have hfz214_8:=bz BK448.out 8;have hfz214_9:=bz BK448.out 9
                                          go_wp2
                                          go_ret
                                          exact ⟨by first|rfl|(simp [errW_none,errW_some] <;> rfl)|(simp [*,errW_none,errW_some] <;> rfl),by repeat (first|(with_reducible first|exact HB.out|apply sa|apply sn|apply sd|refine sy ?_ (by assumption))|exact HB.out)⟩
                                      · rw [if_neg c192] at H
                                        have c192b0 : ((wrap64 (((rd_T51 t439 x6_1).f2.f0) - ((rd_T51 t439 x6_1).f0.f0))) == (wrap64 (((rd_T49 l0_7 x32_1).f3) + ((rd_T49 l0_7 x32_1).f1)))) = false:=beq_eq_false_iff_ne.mpr c192;have c192b1 : ((wrap64 (((rd_T51 t439 x6_1).f2.f0) - ((rd_T51 t439 x6_1).f0.f0))) != (wrap64 (((rd_T49 l0_7 x32_1).f3) + ((rd_T49 l0_7 x32_1).f1)))) = true:=bne_iff_ne.mpr c192;obtain rfl:=Option.some.inj H;have hnb215:=NB450_430.out;have hnc215:=NB430_450.out;have hnb216:=NB450_443.out;have hnc216:=NB443_450.out;have hnb217:=NB450_445.out;have hnc217:=NB445_450.out;have hnb218:=NB450_448.out;have hnc218:=NB448_450.out;have hcz219_0 : wc.cell? ⟨gb450,0,none⟩ = some (.int .i64 ((rd_T51 t439 x6_1).f0.f0)):=(bc BK450.out 0).trans rfl;have hcz219_1 : wc.cell? ⟨gb450,1,none⟩ = some (.int .i64 ((rd_T51 t439 x6_1).f0.f1)):=(bc BK450.out 1).trans rfl;have hcz219_2 : wc.cell? ⟨gb450,2,none⟩ = some (.int .i64 ((rd_T51 t439 x6_1).f1.f0)):=(bc BK450.out 2).trans rfl;have hcz219_3 : wc.cell? ⟨gb450,3,none⟩ = some (.int .i64 ((rd_T51 t439 x6_1).f1.f1)):=(bc BK450.out 3).trans rfl;have hcz219_4 : wc.cell? ⟨gb450,4,none⟩ = some (.int .i64 ((rd_T51 t439 x6_1).f2.f0)):=(bc BK450.out 4).trans rfl;have hcz219_5 : wc.cell? ⟨gb450,5,none⟩ = some (.int .i64 ((rd_T51 t439 x6_1).f2.f1)):=(bc BK450.out 5).trans rfl;have hcz219_6 : wc.cell? ⟨gb450,6,none⟩ = some (.bool ((rd_T51 t439 x6_1).f3)):=(bc BK450.out 6).trans rfl;have hcz219_7 : wc.cell? ⟨gb450,7,none⟩ = some (.int .i64 ((rd_T51 t439 x6_1).f4)):=(bc BK450.out 7).trans rfl;have hcz219_8 : wc.cell? ⟨gb450,8,none⟩ = some (.int .i64 ((rd_T51 t439 x6_1).f5)):=(bc BK450.out 8).trans rfl;have hcz219_9 : wc.cell? ⟨gb450,9,none⟩ = some (.int .i64 ((rd_T51 t439 x6_1).f6)):=(bc BK450.out 9).trans rfl;have hfz219_0:=bz BK450.out 0;have hfz219_1:=bz BK450.out 1;have hfz219_2:=bz BK450.out 2;have hfz219_3:=bz BK450.out 3;have hfz219_4:=bz BK450.out 4;have hfz219_5:=bz BK450.out 5;have hfz219_6:=bz BK450.out 6;have hfz219_7:=bz BK450.out 7;have hfz219_8:=bz BK450.out 8;have hfz219_9:=bz BK450.out 9;have hnb220:=NB448_430.out;have hnc220:=NB430_448.out;have hnb221:=NB448_443.out;have hnc221:=NB443_448.out;have hnb222:=NB448_445.out;have hnc222:=NB445_448.out;have hcz223_0 : wc.cell? ⟨gb448,0,none⟩ = some (.int .i64 ((rd_T49 l0_7 x32_1).f0)):=(bc BK448.out 0).trans rfl;have hcz223_1 : wc.cell? ⟨gb448,1,none⟩ = some (.int .i64 ((rd_T49 l0_7 x32_1).f1)):=(bc BK448.out 1).trans rfl;have hcz223_2 : wc.cell? ⟨gb448,2,none⟩ = some (.int .i64 ((rd_T49 l0_7 x32_1).f2)):=(bc BK448.out 2).trans rfl;have hcz223_3 : wc.cell? ⟨gb448,3,none⟩ = some (.int .i64 ((rd_T49 l0_7 x32_1).f3)):=(bc BK448.out 3).trans rfl;have hcz223_4 : wc.cell? ⟨gb448,4,none⟩ = some (.int .i64 ((rd_T49 l0_7 x32_1).f4)):=(bc BK448.out 4).trans rfl;have hcz223_5 : wc.cell? ⟨gb448,5,none⟩ = some (.int .i64 ((rd_T49 l0_7 x32_1).f5)):=(bc BK448.out 5).trans rfl;have hcz223_6 : wc.cell? ⟨gb448,6,none⟩ = some (.int .i64 ((rd_T49 l0_7 x32_1).f6)):=(bc BK448.out 6).trans rfl;have hcz223_7 : wc.cell? ⟨gb448,7,none⟩ = some (.int .i64 ((rd_T49 l0_7 x32_1).f7)):=(bc BK448.out 7).trans rfl;have hcz223_8 : wc.cell? ⟨gb448,8,none⟩ = some (.slice A447_8 ((rd_T49 l0_7 x32_1).f8).length c447_8):=(bc BK448.out 8).trans rfl;have hcz223_9 : wc.cell? ⟨gb448,9,none⟩ = some (.slice A447_9 ((rd_T49 l0_7 x32_1).f9).length c447_9):=(bc BK448.out 9).trans rfl;have hfz223_0:=bz BK448.out 0;have hfz223_1:=bz BK448.out 1;have hfz223_2:=bz BK448.out 2;have hfz223_3:=bz BK448.out 3;have hfz223_4:=bz BK448.out 4;have hfz223_5:=bz BK448.out 5;have hfz223_6:=bz BK448.out 6;have hfz223_7:=bz BK448.out 7;have hfz223_8:=bz BK448.out 8;have hfz223_9:=bz BK448.out 9
                                        go_wp2
                                        go_ret
                                        exact ⟨by first|rfl|(simp [errW_none,errW_some] <;> rfl)|(simp [*,errW_none,errW_some] <;> rfl),by repeat (first|(with_reducible first|exact HB.out|apply sa|apply sn|apply sd|refine sy ?_ (by assumption))|exact HB.out)⟩
                              · rw [if_neg c56] at H
                                exact absurd H (by simp)
                            · rw [if_neg c55] at H
                              exact absurd H (by simp)
              · rw [if_neg c24] at H
                exact absurd H (by simp)
            · rw [if_neg c23] at H
              exact absurd H (by simp)
          · rw [if_neg c22] at H
            have c22b0 : decide (x32_1 < (l0_7.length : Int)) = false:=decide_eq_false c22;clear c22
            by_cases c224 : x6_1 = (t439.length : Int)
            · rw [if_pos c224] at H
              have c224b0 : (x6_1 == (t439.length : Int)) = true:=beq_iff_eq.mpr c224;have c224b1 : (x6_1 != (t439.length : Int)) = false:=bne_eq_false_iff_eq.mpr c224;clear c224;replace H:=Option.bind_eq_some_iff.mp H;obtain ⟨t446,A2250,H⟩:=H;replace H : (some t446) = some r:=H;have A225:=am A2250;clear A2250;obtain rfl:=Option.some.inj H;have hnb226:=NB443_430.out;have hnc226:=NB430_443.out;have hnb227:=NB443_445.out;have hnc227:=NB445_443.out;have hcz228_0 : wr.cell? ⟨gb443,0,none⟩ = some (.slice Ao12 t433.length co12):=(bc BK443.out 0).trans rfl;have hcz228_1 : wr.cell? ⟨gb443,1,none⟩ = some (.slice Ao15 t436.length co15):=(bc BK443.out 1).trans rfl;have hcz228_2 : wr.cell? ⟨gb443,2,none⟩ = some (.slice Ao16 t439.length co16):=(bc BK443.out 2).trans rfl;have hfz228_0:=bz BK443.out 0;have hfz228_1:=bz BK443.out 1;have hfz228_2:=bz BK443.out 2
              go_wp2_with (first|(go_at_call 9;(with_reducible refine (celluloidlaw15_awake.calls k1  t446 _ A225.out).mono ?_);rintro e w229 ⟨rfl,hb⟩;replace HO_444000:=am (Kd.N_below (by (with_reducible repeat (first|apply Kd.N_alloc|apply Kd.N_drewN|apply Kd.N_drew));exact HO_444000.out) hb);replace HO_444001:=am (Kd.R_below (by (with_reducible repeat (first|apply Kd.R_alloc|apply Kd.R_drewN|apply Kd.R_drew));exact HO_444001.out) hb);replace HO_444002:=am (Kd.R_below (by (with_reducible repeat (first|apply Kd.R_alloc|apply Kd.R_drewN|apply Kd.R_drew));exact HO_444002.out) hb);replace BK430:=am (bw (by exact BK430.out) hb);replace BK443:=am (bw (by exact BK443.out) hb);replace BK445:=am (bw (by exact BK445.out) hb);replace HB:=am (ss (by repeat (first|(with_reducible first|exact HB.out|apply sa|apply sn|apply sd|refine sy ?_ (by assumption))|exact HB.out)) hb);(try clear hb);(try clear hb2);(try clear hk);(try clear hi)))
              go_ret
              exact ⟨by first|rfl|(simp [errW_none,errW_some] <;> rfl)|(simp [*,errW_none,errW_some] <;> rfl),by repeat (first|(with_reducible first|exact HB.out|apply sa|apply sn|apply sd|refine sy ?_ (by assumption))|exact HB.out)⟩
            · rw [if_neg c224] at H
              have c224b0 : (x6_1 == (t439.length : Int)) = false:=beq_eq_false_iff_ne.mpr c224;have c224b1 : (x6_1 != (t439.length : Int)) = true:=bne_iff_ne.mpr c224;obtain rfl:=Option.some.inj H;have hnb230:=NB443_430.out;have hnc230:=NB430_443.out;have hnb231:=NB443_445.out;have hnc231:=NB445_443.out;have hcz232_0 : wr.cell? ⟨gb443,0,none⟩ = some (.slice Ao12 t433.length co12):=(bc BK443.out 0).trans rfl;have hcz232_1 : wr.cell? ⟨gb443,1,none⟩ = some (.slice Ao15 t436.length co15):=(bc BK443.out 1).trans rfl;have hcz232_2 : wr.cell? ⟨gb443,2,none⟩ = some (.slice Ao16 t439.length co16):=(bc BK443.out 2).trans rfl;have hfz232_0:=bz BK443.out 0;have hfz232_1:=bz BK443.out 1;have hfz232_2:=bz BK443.out 2
              go_wp2
              go_ret
              exact ⟨by first|rfl|(simp [errW_none,errW_some] <;> rfl)|(simp [*,errW_none,errW_some] <;> rfl),by repeat (first|(with_reducible first|exact HB.out|apply sa|apply sn|apply sd|refine sy ?_ (by assumption))|exact HB.out)⟩
    focus
      rw [if_neg c5] at H;have c5b0 : (t442 == 0) = false:=beq_eq_false_iff_ne.mpr c5;have c5b1 : (t442 != 0) = true:=bne_iff_ne.mpr c5
      by_cases c233 : (t439.length : Int) = 0
      focus
        rw [if_pos c233] at H;have c233b0 : ((t439.length : Int) == 0) = true:=beq_iff_eq.mpr c233;have c233b1 : ((t439.length : Int) != 0) = false:=bne_eq_false_iff_eq.mpr c233;clear c233;replace H:=Option.bind_eq_some_iff.mp H;obtain ⟨t444,A2340,H⟩:=H;replace H : (some t444) = some r:=H;have A234:=am A2340;clear A2340;obtain rfl:=Option.some.inj H
      rotate_left
      focus
        rw [if_neg c233] at H;have c233b0 : ((t439.length : Int) == 0) = false:=beq_eq_false_iff_ne.mpr c233;have c233b1 : ((t439.length : Int) != 0) = true:=bne_iff_ne.mpr c233
        have c233b2 : ¬ (t439 = []):=fun h_ => c233 (by rw [h_];rfl)
        obtain rfl:=Option.some.inj H
  rotate_left 2
  focus
    replace c3:=Bool.eq_false_iff.mpr c3;subst c3
    have H1 : ((celluloidlaw15_awake.f k).bind fun t432 => (some t432)) = some r:=by rw [if_neg (show ¬ (false = true) by decide)] at H;exact H
    clear H;have H:=H1;clear H1;replace H:=Option.bind_eq_some_iff.mp H;obtain ⟨t432,A2580,H⟩:=H;replace H : (some t432) = some r:=H;have A258:=am A2580;clear A2580;obtain rfl:=Option.some.inj H
  all_goals
    go_enter Try.func4,Try.ntmps4
    go_wp2_with (first|((with_reducible refine gate_dst (N:=1) rfl ?_);(try (refine gate_guard (by rfl) ?_;dsimp only));refine box_event ?hg (N:=1) ?hd (cs:=#[.int .i64 a0_0,.int .i64 a0_1,.int .i64 a0_2,.int .i64 a0_3,.int .i64 a0_4,.slice A0_5 l0_5.length c0_5,.slice A0_6 l0_6.length c0_6,.slice A0_7 l0_7.length c0_7]) (t:=28) ?hr ?_;(case hd => rfl);(case hg => rfl);(case hr => first|(go_simp;done)|(go_simp;rfl));intro gbz1 hg wz1 hbox hb;have nz1_:=am (ss (by repeat (first|(with_reducible first|exact HB.out|apply sa|apply sn|apply sd)|exact HB.out)) hb);have nz2_:=am (hbox);have nz3_:=am ((by rw [hg];exact (sz (by repeat (first|(with_reducible first|exact HB.out|apply sa|apply sn|apply sd)|exact HB.out))) : w.heap.size ≤ gbz1));have nz4_:=am ((by rw [hg];exact (sz (by repeat (first|(with_reducible first|exact HB.out|apply sa|apply sn|apply sd)|exact HB.out))) : w.heap.size ≤ gbz1));clear HB;have HB:=nz1_;have BKz1:=nz2_;have GWz1:=nz3_;have GEz1:=nz4_;clear nz1_ nz2_ nz3_ nz4_;clear hb hbox hg;have hczz1_0 : wz1.cell? ⟨gbz1,0,none⟩ = some (.int .i64 a0_0):=(bc BKz1.out 0).trans rfl;have hczz1_1 : wz1.cell? ⟨gbz1,1,none⟩ = some (.int .i64 a0_1):=(bc BKz1.out 1).trans rfl;have hczz1_2 : wz1.cell? ⟨gbz1,2,none⟩ = some (.int .i64 a0_2):=(bc BKz1.out 2).trans rfl;have hczz1_3 : wz1.cell? ⟨gbz1,3,none⟩ = some (.int .i64 a0_3):=(bc BKz1.out 3).trans rfl;have hczz1_4 : wz1.cell? ⟨gbz1,4,none⟩ = some (.int .i64 a0_4):=(bc BKz1.out 4).trans rfl;have hczz1_5 : wz1.cell? ⟨gbz1,5,none⟩ = some (.slice A0_5 l0_5.length c0_5):=(bc BKz1.out 5).trans rfl;have hczz1_6 : wz1.cell? ⟨gbz1,6,none⟩ = some (.slice A0_6 l0_6.length c0_6):=(bc BKz1.out 6).trans rfl;have hczz1_7 : wz1.cell? ⟨gbz1,7,none⟩ = some (.slice A0_7 l0_7.length c0_7):=(bc BKz1.out 7).trans rfl;have hfzz1_0:=bz BKz1.out 0;have hfzz1_1:=bz BKz1.out 1;have hfzz1_2:=bz BKz1.out 2;have hfzz1_3:=bz BKz1.out 3;have hfzz1_4:=bz BKz1.out 4;have hfzz1_5:=bz BKz1.out 5;have hfzz1_6:=bz BKz1.out 6;have hfzz1_7:=bz BKz1.out 7)|((with_reducible refine gate_callee (f:=8) rfl ?_);refine goesL_ (some 11) rfl rfl Try.func8 (by kernel_rfl) rfl #[.agg #[.int .i64 a0_0,.int .i64 a0_1,.int .i64 a0_2,.int .i64 a0_3,.int .i64 a0_4,.slice A0_5 l0_5.length c0_5,.slice A0_6 l0_6.length c0_6,.slice A0_7 l0_7.length c0_7]] rfl (by (try simp only [List.map_toArray,List.map_cons,List.map_nil]);first|done|rfl|(simp only [List.length_drop,List.length_take];rfl)) ?_;(with_reducible refine (celluloidlaw15_small.calls k a0_0 a0_1 a0_2 a0_3 a0_4 _ _ l0_5 _ _ l0_6 _ _ l0_7 true _ ?side1 ?side2 ?side3 ?side4 ?side5 ?side6 A2.out).mono ?_);(case side1 => repeat (first|exact (Kd.C_below HR0_5.out HB.out)|(with_reducible refine Kd.C_alloc ?_ _)|(with_reducible refine Kd.C_drewN ?_ _)|(with_reducible refine Kd.C_drew ?_)));(case side2 => exact HC0_5.out);(case side3 => repeat (first|exact (Kd.C_below HR0_6.out HB.out)|(with_reducible refine Kd.C_alloc ?_ _)|(with_reducible refine Kd.C_drewN ?_ _)|(with_reducible refine Kd.C_drew ?_)));(case side4 => exact HC0_6.out);(case side5 => repeat (first|exact (Kd.C_below HR0_7.out HB.out)|(with_reducible refine Kd.C_alloc ?_ _)|(with_reducible refine Kd.C_drewN ?_ _)|(with_reducible refine Kd.C_drew ?_)));(case side6 => exact HC0_7.out);rintro e wz2 ⟨rfl,hb⟩;refine ⟨_,rfl,?_⟩;have nz1_:=am (bw (by exact BKz1.out) hb);have nz2_:=am (ss (by repeat (first|(with_reducible first|exact HB.out|apply sa|apply sn|apply sd|refine sx ?_ GEz1.out)|exact HB.out)) hb);clear BKz1;clear HB;have BKz1:=nz1_;have HB:=nz2_;clear nz1_ nz2_;(try clear hb);(try clear hb2);(try clear hk);(try clear hi);have hczz2_0 : wz2.cell? ⟨gbz1,0,none⟩ = some (.int .i64 a0_0):=(bc BKz1.out 0).trans rfl;have hczz2_1 : wz2.cell? ⟨gbz1,1,none⟩ = some (.int .i64 a0_1):=(bc BKz1.out 1).trans rfl;have hczz2_2 : wz2.cell? ⟨gbz1,2,none⟩ = some (.int .i64 a0_2):=(bc BKz1.out 2).trans rfl;have hczz2_3 : wz2.cell? ⟨gbz1,3,none⟩ = some (.int .i64 a0_3):=(bc BKz1.out 3).trans rfl;have hczz2_4 : wz2.cell? ⟨gbz1,4,none⟩ = some (.int .i64 a0_4):=(bc BKz1.out 4).trans rfl;have hczz2_5 : wz2.cell? ⟨gbz1,5,none⟩ = some (.slice A0_5 l0_5.length c0_5):=(bc BKz1.out 5).trans rfl;have hczz2_6 : wz2.cell? ⟨gbz1,6,none⟩ = some (.slice A0_6 l0_6.length c0_6):=(bc BKz1.out 6).trans rfl;have hczz2_7 : wz2.cell? ⟨gbz1,7,none⟩ = some (.slice A0_7 l0_7.length c0_7):=(bc BKz1.out 7).trans rfl;have hfzz2_0:=bz BKz1.out 0;have hfzz2_1:=bz BKz1.out 1;have hfzz2_2:=bz BKz1.out 2;have hfzz2_3:=bz BKz1.out 3;have hfzz2_4:=bz BKz1.out 4;have hfzz2_5:=bz BKz1.out 5;have hfzz2_6:=bz BKz1.out 6;have hfzz2_7:=bz BKz1.out 7)|((with_reducible refine gate_callee (f:=10) rfl ?_);refine goesL_ (some 16) rfl rfl Try.func10 (by kernel_rfl) rfl #[.agg #[.int .i64 a0_0,.int .i64 a0_1,.int .i64 a0_2,.int .i64 a0_3,.int .i64 a0_4,.slice A0_5 l0_5.length c0_5,.slice A0_6 l0_6.length c0_6,.slice A0_7 l0_7.length c0_7]] rfl (by (try simp only [List.map_toArray,List.map_cons,List.map_nil]);first|done|rfl|(simp only [List.length_drop,List.length_take];rfl)) ?_;(with_reducible refine (edge_Of.calls k a0_0 a0_1 a0_2 a0_3 a0_4 (fun k_ => k_ < w.heap.size) _ _ l0_5 _ _ l0_6 (fun k_ => k_ < w.heap.size) _ _ l0_7 t433 t436 t439 t442 _ ?side1 ?side2 ?side3 ?side4 A4.out).mono ?_);(case side1 => exact Kd.V_mk HC0_5.out (Kd.F_below (Kd.C_F k65_heap HR0_5.out) (by repeat (first|(with_reducible first|exact HB.out|apply sa|apply sn|apply sd|refine sx ?_ GEz1.out)|exact HB.out))));(case side2 => repeat (first|exact (Kd.C_below HR0_6.out HB.out)|(with_reducible refine Kd.C_alloc ?_ _)|(with_reducible refine Kd.C_drewN ?_ _)|(with_reducible refine Kd.C_drew ?_)));(case side3 => exact HC0_6.out);(case side4 => exact Kd.V_mk HC0_7.out (Kd.F_below (Kd.C_F k49_heap HR0_7.out) (by repeat (first|(with_reducible first|exact HB.out|apply sa|apply sn|apply sd|refine sx ?_ GEz1.out)|exact HB.out))));rintro e wz3 ⟨vz1,vz2,vz3,rfl,hoz1,hoz2,hoz3,hb⟩;refine ⟨_,rfl,?_⟩;have nz1_:=am (Kd.N_lower (Kd.N_mono (ok':=fun k_ => some k_ ≠ (vz2 : Value).ownBlock ∧ some k_ ≠ (vz3 : Value).ownBlock ∧ k_ ≠ gbz1) hoz1 (fun k_ hk_ => ⟨hk_.2.1,hk_.2.2,Or.elim hk_.1 (fun hs_ => Or.elim hs_ (fun hs_ => fun e_ => Nat.not_le.2 hs_ (by rw [e_];exact GWz1.out)) (fun hs_ => fun e_ => Nat.not_le.2 hs_ (by rw [e_];exact GWz1.out))) (fun hn_ => (Kd.freshB (g:=gbz1) (o:=.cells #[.int .i64 a0_0,.int .i64 a0_1,.int .i64 a0_2,.int .i64 a0_3,.int .i64 a0_4,.slice A0_5 l0_5.length c0_5,.slice A0_6 l0_6.length c0_6,.slice A0_7 l0_7.length c0_7] 28 (0,0)) (by exact BKz1.out) k_ hn_))⟩)) (sz (by repeat (first|(with_reducible first|exact HB.out|apply sa|apply sn|apply sd|refine sx ?_ GEz1.out)|exact HB.out))));have nz2_:=am (Kd.R_lower (Kd.R_mono (ok':=fun k_ => True) hoz2 (fun _ hk_ => trivial)) (sz (by repeat (first|(with_reducible first|exact HB.out|apply sa|apply sn|apply sd|refine sx ?_ GEz1.out)|exact HB.out))));have nz3_:=am (Kd.R_lower (Kd.R_mono (ok':=fun k_ => True) hoz3 (fun _ hk_ => trivial)) (sz (by repeat (first|(with_reducible first|exact HB.out|apply sa|apply sn|apply sd|refine sx ?_ GEz1.out)|exact HB.out))));have nz4_:=am (bw (by exact BKz1.out) hb);have nz5_:=am (ss (by repeat (first|(with_reducible first|exact HB.out|apply sa|apply sn|apply sd|refine sx ?_ GEz1.out)|exact HB.out)) hb);clear BKz1;clear HB;have HOz1:=nz1_;have HOz2:=nz2_;have HOz3:=nz3_;have BKz1:=nz4_;have HB:=nz5_;clear nz1_ nz2_ nz3_ nz4_ nz5_;(try clear hb);(try clear hb2);(try clear hk);(try clear hi);(try clear hoz1);(try clear hoz2);(try clear hoz3))|((with_reducible refine gate_dst (N:=3) rfl ?_);(try (refine gate_guard (by rfl) ?_;dsimp only));refine box_event ?hg (N:=3) ?hd (cs:=#[.slice none 0 0,.slice none 0 0,.slice none 0 0]) (t:=33) ?hr ?_;(case hd => rfl);(case hg => rfl);(case hr => first|(go_simp;done)|(go_simp;rfl));intro gbz2 hg wz4 hbox hb;have nz1_:=am (nE (by (with_reducible repeat (first|apply Kd.N_alloc|apply Kd.N_drewN|apply Kd.N_drew));exact HOz1.out) hg hb);have nz2_:=am (Kd.R_below (by (with_reducible repeat (first|apply Kd.R_alloc|apply Kd.R_drewN|apply Kd.R_drew));exact HOz2.out) hb);have nz3_:=am (Kd.R_below (by (with_reducible repeat (first|apply Kd.R_alloc|apply Kd.R_drewN|apply Kd.R_drew));exact HOz3.out) hb);have nz4_:=am (bw (by exact BKz1.out) hb);have nz5_:=am (ss (by repeat (first|(with_reducible first|exact HB.out|apply sa|apply sn|apply sd|refine sx ?_ GEz1.out)|exact HB.out)) hb);have nz6_:=am (hbox);have nz7_:=am ((by rw [hg];exact (sz (by repeat (first|(with_reducible first|exact HB.out|apply sa|apply sn|apply sd|refine sx ?_ GEz1.out)|exact HB.out))) : w.heap.size ≤ gbz2));have nz8_:=am ((by rw [hg];exact (sz (by repeat (first|(with_reducible first|exact HB.out|apply sa|apply sn|apply sd|refine sx ?_ GEz1.out)|exact HB.out))) : w.heap.size ≤ gbz2));have nz9_:=nb (by exact BKz1.out) hg;have nz10_:=ng (by exact BKz1.out) hg;clear HOz1;clear HOz2;clear HOz3;clear BKz1;clear HB;have HOz1:=nz1_;have HOz2:=nz2_;have HOz3:=nz3_;have BKz1:=nz4_;have HB:=nz5_;have BKz2:=nz6_;have GWz2:=nz7_;have GEz2:=nz8_;have NBz1_443:=nz9_;have NBz2_430:=nz10_;clear nz1_ nz2_ nz3_ nz4_ nz5_ nz6_ nz7_ nz8_ nz9_ nz10_;clear hb hbox hg;obtain ⟨Aoz1,coz1,eoz1⟩:=Kd.N_slice HOz1.out;subst eoz1;have hnbz1:=NBz2_430.out;have hncz1:=NBz1_443.out;have hczz3_0 : wz4.cell? ⟨gbz2,0,none⟩ = some (.slice none 0 0):=(bc BKz2.out 0).trans rfl;have hczz3_1 : wz4.cell? ⟨gbz2,1,none⟩ = some (.slice none 0 0):=(bc BKz2.out 1).trans rfl;have hczz3_2 : wz4.cell? ⟨gbz2,2,none⟩ = some (.slice none 0 0):=(bc BKz2.out 2).trans rfl;have hfzz3_0:=bz BKz2.out 0;have hfzz3_1:=bz BKz2.out 1;have hfzz3_2:=bz BKz2.out 2;obtain ⟨Aoz2,coz2,eoz2⟩:=Kd.R_slice HOz2.out;subst eoz2;obtain ⟨Aoz3,coz3,eoz3⟩:=Kd.R_slice HOz3.out;subst eoz3)|(go_at_call 9;(with_reducible refine (celluloidlaw15_awake.calls k  t444 _ A234.out).mono ?_);rintro e wz5 ⟨rfl,hb⟩;have nz1_:=am (Kd.N_below (by (with_reducible repeat (first|apply Kd.N_alloc|apply Kd.N_drewN|apply Kd.N_drew));exact (nm (nf (nf (nf (np HOz1.out)))))) hb);have nz2_:=am (Kd.R_below (by (with_reducible repeat (first|apply Kd.R_alloc|apply Kd.R_drewN|apply Kd.R_drew));exact (rm (rf (rf (rf (Kd.R_types HOz2.out BKz2.out (by decide))))))) hb);have nz3_:=am (Kd.R_below (by (with_reducible repeat (first|apply Kd.R_alloc|apply Kd.R_drewN|apply Kd.R_drew));exact (rm (rf (rf (rf (Kd.R_types HOz3.out BKz2.out (by decide))))))) hb);have nz4_:=am (wz BKz1.out (by (with_reducible repeat (first|refine bn ?_ _|refine bd ?_|refine ba ?_ _|refine bf ?_ NBz1_443.out _));exact BKz1.out) hb);have nz5_:=am (bw (g:=gbz2) (o:=.cells #[.slice Aoz1 t433.length coz1,.slice Aoz2 t436.length coz2,.slice Aoz3 t439.length coz3] 33 (0,0)) (bp (bp (bp BKz2.out 0 _ rfl) 1 _ rfl) 2 _ rfl) hb);have nz6_:=am (ss (by repeat (first|(with_reducible first|exact HB.out|apply sa|apply sn|apply sd|refine sx ?_ GEz1.out|refine sx ?_ GEz2.out)|exact HB.out)) hb);clear HOz1;clear HOz2;clear HOz3;clear BKz1;clear BKz2;clear HB;have HOz1:=nz1_;have HOz2:=nz2_;have HOz3:=nz3_;have BKz1:=nz4_;have BKz2:=nz5_;have HB:=nz6_;clear nz1_ nz2_ nz3_ nz4_ nz5_ nz6_;(try clear hb);(try clear hb2);(try clear hk);(try clear hi))|((with_reducible refine gate_callee (f:=8) rfl ?_);refine goesL_ (some 11) rfl rfl Try.func8 (by kernel_rfl) rfl #[.agg #[.int .i64 a0_0,.int .i64 a0_1,.int .i64 a0_2,.int .i64 a0_3,.int .i64 a0_4,.slice A0_5 l0_5.length c0_5,.slice A0_6 l0_6.length c0_6,.slice A0_7 l0_7.length c0_7]] rfl (by (try simp only [List.map_toArray,List.map_cons,List.map_nil]);first|done|rfl|(simp only [List.length_drop,List.length_take];rfl)) ?_;(with_reducible refine (celluloidlaw15_small.calls k a0_0 a0_1 a0_2 a0_3 a0_4 _ _ l0_5 _ _ l0_6 _ _ l0_7 false _ ?side1 ?side2 ?side3 ?side4 ?side5 ?side6 A2.out).mono ?_);(case side1 => repeat (first|exact (Kd.C_below HR0_5.out HB.out)|(with_reducible refine Kd.C_alloc ?_ _)|(with_reducible refine Kd.C_drewN ?_ _)|(with_reducible refine Kd.C_drew ?_)));(case side2 => exact HC0_5.out);(case side3 => repeat (first|exact (Kd.C_below HR0_6.out HB.out)|(with_reducible refine Kd.C_alloc ?_ _)|(with_reducible refine Kd.C_drewN ?_ _)|(with_reducible refine Kd.C_drew ?_)));(case side4 => exact HC0_6.out);(case side5 => repeat (first|exact (Kd.C_below HR0_7.out HB.out)|(with_reducible refine Kd.C_alloc ?_ _)|(with_reducible refine Kd.C_drewN ?_ _)|(with_reducible refine Kd.C_drew ?_)));(case side6 => exact HC0_7.out);rintro e wz2 ⟨rfl,hb⟩;refine ⟨_,rfl,?_⟩;have nz1_:=am (bw (by exact BKz1.out) hb);have nz2_:=am (ss (by repeat (first|(with_reducible first|exact HB.out|apply sa|apply sn|apply sd|refine sx ?_ GEz1.out)|exact HB.out)) hb);clear BKz1;clear HB;have BKz1:=nz1_;have HB:=nz2_;clear nz1_ nz2_;(try clear hb);(try clear hb2);(try clear hk);(try clear hi))|((with_reducible refine gate_callee (f:=9) rfl ?_);refine goesL_ (some 13) rfl rfl Try.func9 (by kernel_rfl) rfl #[] rfl (by (try simp only [List.map_toArray,List.map_cons,List.map_nil]);first|done|rfl|(simp only [List.length_drop,List.length_take];rfl)) ?_;(with_reducible refine (celluloidlaw15_awake.calls k  t432 _ A258.out).mono ?_);rintro e wz3 ⟨rfl,hb⟩;refine ⟨_,rfl,?_⟩;have nz1_:=am (bw (by exact BKz1.out) hb);have nz2_:=am (ss (by repeat (first|(with_reducible first|exact HB.out|apply sa|apply sn|apply sd|refine sx ?_ GEz1.out)|exact HB.out)) hb);clear BKz1;clear HB;have BKz1:=nz1_;have HB:=nz2_;clear nz1_ nz2_;(try clear hb);(try clear hb2);(try clear hk);(try clear hi)))
    go_ret
    exact ⟨by first|rfl|(simp [errW_none,errW_some] <;> rfl)|(simp [*,errW_none,errW_some] <;> rfl),by repeat (first|(with_reducible first|exact HB.out|apply sa|apply sn|apply sd|refine sx ?_ GEz1.out|refine sx ?_ GEz2.out)|exact HB.out)⟩

end Go.Proofs.Ytlldbmodidhidaa.P
