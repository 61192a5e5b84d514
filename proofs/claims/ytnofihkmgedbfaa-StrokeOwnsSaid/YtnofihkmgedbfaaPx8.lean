/- Printed by printx.py (wip/tool) out of the translation: plain functions that tell what the program answers,and the proofs that the program comes to these answers,for all arguments of their kinds. Lean checks it. -/
import Derived.Test.YtnofihkmgedbfaaShort
import Derived.Test.YtnofihkmgedbfaaPx0
import Derived.Test.YtnofihkmgedbfaaPx1
import Derived.Test.YtnofihkmgedbfaaPx4
import Derived.Test.YtnofihkmgedbfaaPx7
namespace Go.Proofs.Ytnofihkmgedbfaa.P
open Go.RowKit Go.Proofs.YtnofihkmgedbfaaW.PrintWords Go.Proofs.YtnofihkmgedbfaaW.PrintLast Go.Proofs.YtnofihkmgedbfaaW.PrintMore
attribute [local go_sem] max2_int min2_int max_two min_two max_three min_three max_four min_four max_five min_five max_six min_six   -- for this text's walks alone
set_option linter.unusedVariables false
set_option linter.unusedSimpArgs false

/-! ### celluloidlaw18_StrokeOwns: function 4 -/
mutual
def celluloidlaw18_StrokeOwns.j0 : Nat → List (S25) → Int → Int → Bool → Option (Bool)
  | 0,_,_,_,_ => none
  | k + 1,x0,x1,x2,x33 => if x33 = true then ((celluloidlaw18_awake.f k).bind fun t284 => (some t284)) else ((stroke_Owners.f k x0 x1 x2).bind fun bt285 => (celluloidlaw18_StrokeOwns.l0 k x1 x2 bt285.1 bt285.2 ([] : List (S27)) true x0 (x0.length : Int) 0))
def celluloidlaw18_StrokeOwns.l0 : Nat → Int → Int → List Int → Int → List (S27) → Bool → List (S25) → Int → Int → Option (Bool)
  | 0,_,_,_,_,_,_,_,_,_ => none
  | k + 1,x1,x2,x7,x8,x9,x10,x42,x43,x44 => if x44 < x43 then (if 0 ≤ x44 then (if x44 < (x42.length : Int) then ((celluloidlaw18_ref.f ((rd_T25 x42 x44).f0.f0) ((rd_T25 x42 x44).f0.f1) ((rd_T25 x42 x44).f1.f0) ((rd_T25 x42 x44).f1.f1) ((rd_T25 x42 x44).f2) ((rd_T25 x42 x44).f3)).bind fun bt291 => (if x9.length < 2932031007402 then ((some (x9 ++ [(⟨(⟨bt291.1,bt291.2.1⟩ : S23),(⟨bt291.2.2.1,bt291.2.2.2.1⟩ : S23),bt291.2.2.2.2.1,bt291.2.2.2.2.2⟩ : S27)] : List (S27))).bind fun y297 => (if x10 = true then ((celluloidlaw18_ref.f ((rd_T25 x42 x44).f0.f0) ((rd_T25 x42 x44).f0.f1) ((rd_T25 x42 x44).f1.f0) ((rd_T25 x42 x44).f1.f1) ((rd_T25 x42 x44).f2) ((rd_T25 x42 x44).f3)).bind fun bt300 => ((celluloidref18_Right.f k bt300.1 bt300.2.1 bt300.2.2.1 bt300.2.2.2.1 bt300.2.2.2.2.1 bt300.2.2.2.2.2).bind fun t306 => (celluloidlaw18_StrokeOwns.l0 k x1 x2 x7 x8 y297 t306 x42 x43 (wrap64 (x44 + 1))))) else (celluloidlaw18_StrokeOwns.l0 k x1 x2 x7 x8 y297 false x42 x43 (wrap64 (x44 + 1))))) else (none))) else (none)) else (none)) else (if x1 < 1 then (celluloidlaw18_StrokeOwns.j2 k x1 x2 x7 x8 x9 true) else (if x1 > 256 then (celluloidlaw18_StrokeOwns.j2 k x1 x2 x7 x8 x9 true) else (if x2 < 1 then (celluloidlaw18_StrokeOwns.j2 k x1 x2 x7 x8 x9 true) else (if x2 > 256 then (celluloidlaw18_StrokeOwns.j2 k x1 x2 x7 x8 x9 true) else (celluloidlaw18_StrokeOwns.j2 k x1 x2 x7 x8 x9 (!x10))))))
def celluloidlaw18_StrokeOwns.j2 : Nat → Int → Int → List Int → Int → List (S27) → Bool → Option (Bool)
  | 0,_,_,_,_,_,_ => none
  | k + 1,x1,x2,x7,x8,x9,x77 => if x77 = true then (if (x7.length : Int) = 0 then (if x8 = 1 then ((celluloidlaw18_awake.f k).bind fun t307 => (some t307)) else (some false)) else (some false)) else (if x8 = 0 then (celluloidlaw18_StrokeOwns.j3 k x1 x2 x7 x9 ((x7.length : Int) != (wrap64 ((wrap64 (16 * x1)) * x2)))) else (celluloidlaw18_StrokeOwns.j3 k x1 x2 x7 x9 true))
def celluloidlaw18_StrokeOwns.j3 : Nat → Int → Int → List Int → List (S27) → Bool → Option (Bool)
  | 0,_,_,_,_,_ => none
  | k + 1,x1,x2,x7,x9,x98 => if x98 = true then (some false) else (celluloidlaw18_StrokeOwns.l1 k x1 x2 x7 x9 0)
def celluloidlaw18_StrokeOwns.l1 : Nat → Int → Int → List Int → List (S27) → Int → Option (Bool)
  | 0,_,_,_,_,_ => none
  | k + 1,x1,x2,x7,x9,x13 => if x13 < (wrap64 (4 * x2)) then (celluloidlaw18_StrokeOwns.l2 k x1 x2 x7 x9 x13 0) else ((celluloidlaw18_awake.f k).bind fun t308 => (some t308))
def celluloidlaw18_StrokeOwns.l2 : Nat → Int → Int → List Int → List (S27) → Int → Int → Option (Bool)
  | 0,_,_,_,_,_,_ => none
  | k + 1,x1,x2,x7,x9,x13,x14 => if x14 < (wrap64 (4 * x1)) then (if 0 ≤ (wrap64 ((wrap64 ((wrap64 (4 * x1)) * x13)) + x14)) then (if (wrap64 ((wrap64 ((wrap64 (4 * x1)) * x13)) + x14)) < (x7.length : Int) then ((celluloidref18_Owner.f k x9 (wrap64 ((wrap64 (16 * x14)) + 7)) (wrap64 ((wrap64 (16 * x13)) + 7))).bind fun t310 => (if (rd x7 (wrap64 ((wrap64 ((wrap64 (4 * x1)) * x13)) + x14))) = t310 then (celluloidlaw18_StrokeOwns.l2 k x1 x2 x7 x9 x13 (wrap64 (x14 + 1))) else (some false))) else (none)) else (none)) else (celluloidlaw18_StrokeOwns.l1 k x1 x2 x7 x9 (wrap64 (x13 + 1)))
end
def celluloidlaw18_StrokeOwns.f (k : Nat) (l0 : List (S25)) (a1 : Int) (a2 : Int) : Option (Bool):=if (l0.length : Int) > 30 then (celluloidlaw18_StrokeOwns.j0 k l0 a1 a2 true) else (if a1 > 6 then (if a1 ≤ 256 then (celluloidlaw18_StrokeOwns.j0 k l0 a1 a2 true) else (if a2 > 6 then (celluloidlaw18_StrokeOwns.j0 k l0 a1 a2 (decide (a2 ≤ 256))) else (celluloidlaw18_StrokeOwns.j0 k l0 a1 a2 false))) else (if a2 > 6 then (celluloidlaw18_StrokeOwns.j0 k l0 a1 a2 (decide (a2 ≤ 256))) else (celluloidlaw18_StrokeOwns.j0 k l0 a1 a2 false)))
theorem celluloidlaw18_StrokeOwns.mono_l : ∀ k,(∀ y0 y1 y2 y3,LeO (celluloidlaw18_StrokeOwns.j0 k y0 y1 y2 y3) (celluloidlaw18_StrokeOwns.j0 (k + 1) y0 y1 y2 y3)) ∧ (∀ y0 y1 y2 y3 y4 y5 y6 y7 y8,LeO (celluloidlaw18_StrokeOwns.l0 k y0 y1 y2 y3 y4 y5 y6 y7 y8) (celluloidlaw18_StrokeOwns.l0 (k + 1) y0 y1 y2 y3 y4 y5 y6 y7 y8)) ∧ (∀ y0 y1 y2 y3 y4 y5,LeO (celluloidlaw18_StrokeOwns.j2 k y0 y1 y2 y3 y4 y5) (celluloidlaw18_StrokeOwns.j2 (k + 1) y0 y1 y2 y3 y4 y5)) ∧ (∀ y0 y1 y2 y3 y4,LeO (celluloidlaw18_StrokeOwns.j3 k y0 y1 y2 y3 y4) (celluloidlaw18_StrokeOwns.j3 (k + 1) y0 y1 y2 y3 y4)) ∧ (∀ y0 y1 y2 y3 y4,LeO (celluloidlaw18_StrokeOwns.l1 k y0 y1 y2 y3 y4) (celluloidlaw18_StrokeOwns.l1 (k + 1) y0 y1 y2 y3 y4)) ∧ (∀ y0 y1 y2 y3 y4 y5,LeO (celluloidlaw18_StrokeOwns.l2 k y0 y1 y2 y3 y4 y5) (celluloidlaw18_StrokeOwns.l2 (k + 1) y0 y1 y2 y3 y4 y5))
  | 0 => ⟨fun _ _ _ _ r h => by simp [celluloidlaw18_StrokeOwns.j0] at h,fun _ _ _ _ _ _ _ _ _ r h => by simp [celluloidlaw18_StrokeOwns.l0] at h,fun _ _ _ _ _ _ r h => by simp [celluloidlaw18_StrokeOwns.j2] at h,fun _ _ _ _ _ r h => by simp [celluloidlaw18_StrokeOwns.j3] at h,fun _ _ _ _ _ r h => by simp [celluloidlaw18_StrokeOwns.l1] at h,fun _ _ _ _ _ _ r h => by simp [celluloidlaw18_StrokeOwns.l2] at h⟩
  | k + 1 => by
    obtain ⟨ih0,ih1,ih2,ih3,ih4,ih5⟩:=celluloidlaw18_StrokeOwns.mono_l k;refine ⟨?_,?_,?_,?_,?_,?_⟩
    · intro y0 y1 y2 y3
      unfold celluloidlaw18_StrokeOwns.j0
      repeat' first
      | (with_reducible exact ih0 _ _ _ _)
      | (with_reducible exact ih1 _ _ _ _ _ _ _ _ _)
      | (with_reducible exact ih2 _ _ _ _ _ _)
      | (with_reducible exact ih3 _ _ _ _ _)
      | (with_reducible exact ih4 _ _ _ _ _)
      | (with_reducible exact ih5 _ _ _ _ _ _)
      | (with_reducible exact celluloidlaw18_awake.mono _)
      | (with_reducible exact celluloidref18_Owner.mono _ _ _ _)
      | (with_reducible exact celluloidref18_Right.mono _ _ _ _ _ _ _)
      | (with_reducible exact stroke_Owners.mono _ _ _ _)
      | (with_reducible exact LeO.refl _)
      | (with_reducible exact LeO.none _)
      | (with_reducible refine LeO.ite ?_ ?_)
      | (with_reducible refine LeO.bind ?_ (fun _ => ?_))
      | exact ih0 _ _ _ _
      | exact ih1 _ _ _ _ _ _ _ _ _
      | exact ih2 _ _ _ _ _ _
      | exact ih3 _ _ _ _ _
      | exact ih4 _ _ _ _ _
      | exact ih5 _ _ _ _ _ _
      | exact celluloidlaw18_awake.mono _
      | exact celluloidref18_Owner.mono _ _ _ _
      | exact celluloidref18_Right.mono _ _ _ _ _ _ _
      | exact stroke_Owners.mono _ _ _ _
      | exact LeO.none _
      | refine LeO.ite ?_ ?_
      | refine LeO.bind ?_ (fun _ => ?_)
    · intro y0 y1 y2 y3 y4 y5 y6 y7 y8
      unfold celluloidlaw18_StrokeOwns.l0
      repeat' first
      | (with_reducible exact ih0 _ _ _ _)
      | (with_reducible exact ih1 _ _ _ _ _ _ _ _ _)
      | (with_reducible exact ih2 _ _ _ _ _ _)
      | (with_reducible exact ih3 _ _ _ _ _)
      | (with_reducible exact ih4 _ _ _ _ _)
      | (with_reducible exact ih5 _ _ _ _ _ _)
      | (with_reducible exact celluloidlaw18_awake.mono _)
      | (with_reducible exact celluloidref18_Owner.mono _ _ _ _)
      | (with_reducible exact celluloidref18_Right.mono _ _ _ _ _ _ _)
      | (with_reducible exact stroke_Owners.mono _ _ _ _)
      | (with_reducible exact LeO.refl _)
      | (with_reducible exact LeO.none _)
      | (with_reducible refine LeO.ite ?_ ?_)
      | (with_reducible refine LeO.bind ?_ (fun _ => ?_))
      | exact ih0 _ _ _ _
      | exact ih1 _ _ _ _ _ _ _ _ _
      | exact ih2 _ _ _ _ _ _
      | exact ih3 _ _ _ _ _
      | exact ih4 _ _ _ _ _
      | exact ih5 _ _ _ _ _ _
      | exact celluloidlaw18_awake.mono _
      | exact celluloidref18_Owner.mono _ _ _ _
      | exact celluloidref18_Right.mono _ _ _ _ _ _ _
      | exact stroke_Owners.mono _ _ _ _
      | exact LeO.none _
      | refine LeO.ite ?_ ?_
      | refine LeO.bind ?_ (fun _ => ?_)
    · intro y0 y1 y2 y3 y4 y5
      unfold celluloidlaw18_StrokeOwns.j2
      repeat' first
      | (with_reducible exact ih0 _ _ _ _)
      | (with_reducible exact ih1 _ _ _ _ _ _ _ _ _)
      | (with_reducible exact ih2 _ _ _ _ _ _)
      | (with_reducible exact ih3 _ _ _ _ _)
      | (with_reducible exact ih4 _ _ _ _ _)
      | (with_reducible exact ih5 _ _ _ _ _ _)
      | (with_reducible exact celluloidlaw18_awake.mono _)
      | (with_reducible exact celluloidref18_Owner.mono _ _ _ _)
      | (with_reducible exact celluloidref18_Right.mono _ _ _ _ _ _ _)
      | (with_reducible exact stroke_Owners.mono _ _ _ _)
      | (with_reducible exact LeO.refl _)
      | (with_reducible exact LeO.none _)
      | (with_reducible refine LeO.ite ?_ ?_)
      | (with_reducible refine LeO.bind ?_ (fun _ => ?_))
      | exact ih0 _ _ _ _
      | exact ih1 _ _ _ _ _ _ _ _ _
      | exact ih2 _ _ _ _ _ _
      | exact ih3 _ _ _ _ _
      | exact ih4 _ _ _ _ _
      | exact ih5 _ _ _ _ _ _
      | exact celluloidlaw18_awake.mono _
      | exact celluloidref18_Owner.mono _ _ _ _
      | exact celluloidref18_Right.mono _ _ _ _ _ _ _
      | exact stroke_Owners.mono _ _ _ _
      | exact LeO.none _
      | refine LeO.ite ?_ ?_
      | refine LeO.bind ?_ (fun _ => ?_)
    · intro y0 y1 y2 y3 y4
      unfold celluloidlaw18_StrokeOwns.j3
      repeat' first
      | (with_reducible exact ih0 _ _ _ _)
      | (with_reducible exact ih1 _ _ _ _ _ _ _ _ _)
      | (with_reducible exact ih2 _ _ _ _ _ _)
      | (with_reducible exact ih3 _ _ _ _ _)
      | (with_reducible exact ih4 _ _ _ _ _)
      | (with_reducible exact ih5 _ _ _ _ _ _)
      | (with_reducible exact celluloidlaw18_awake.mono _)
      | (with_reducible exact celluloidref18_Owner.mono _ _ _ _)
      | (with_reducible exact celluloidref18_Right.mono _ _ _ _ _ _ _)
      | (with_reducible exact stroke_Owners.mono _ _ _ _)
      | (with_reducible exact LeO.refl _)
      | (with_reducible exact LeO.none _)
      | (with_reducible refine LeO.ite ?_ ?_)
      | (with_reducible refine LeO.bind ?_ (fun _ => ?_))
      | exact ih0 _ _ _ _
      | exact ih1 _ _ _ _ _ _ _ _ _
      | exact ih2 _ _ _ _ _ _
      | exact ih3 _ _ _ _ _
      | exact ih4 _ _ _ _ _
      | exact ih5 _ _ _ _ _ _
      | exact celluloidlaw18_awake.mono _
      | exact celluloidref18_Owner.mono _ _ _ _
      | exact celluloidref18_Right.mono _ _ _ _ _ _ _
      | exact stroke_Owners.mono _ _ _ _
      | exact LeO.none _
      | refine LeO.ite ?_ ?_
      | refine LeO.bind ?_ (fun _ => ?_)
    · intro y0 y1 y2 y3 y4
      unfold celluloidlaw18_StrokeOwns.l1
      repeat' first
      | (with_reducible exact ih0 _ _ _ _)
      | (with_reducible exact ih1 _ _ _ _ _ _ _ _ _)
      | (with_reducible exact ih2 _ _ _ _ _ _)
      | (with_reducible exact ih3 _ _ _ _ _)
      | (with_reducible exact ih4 _ _ _ _ _)
      | (with_reducible exact ih5 _ _ _ _ _ _)
      | (with_reducible exact celluloidlaw18_awake.mono _)
      | (with_reducible exact celluloidref18_Owner.mono _ _ _ _)
      | (with_reducible exact celluloidref18_Right.mono _ _ _ _ _ _ _)
      | (with_reducible exact stroke_Owners.mono _ _ _ _)
      | (with_reducible exact LeO.refl _)
      | (with_reducible exact LeO.none _)
      | (with_reducible refine LeO.ite ?_ ?_)
      | (with_reducible refine LeO.bind ?_ (fun _ => ?_))
      | exact ih0 _ _ _ _
      | exact ih1 _ _ _ _ _ _ _ _ _
      | exact ih2 _ _ _ _ _ _
      | exact ih3 _ _ _ _ _
      | exact ih4 _ _ _ _ _
      | exact ih5 _ _ _ _ _ _
      | exact celluloidlaw18_awake.mono _
      | exact celluloidref18_Owner.mono _ _ _ _
      | exact celluloidref18_Right.mono _ _ _ _ _ _ _
      | exact stroke_Owners.mono _ _ _ _
      | exact LeO.none _
      | refine LeO.ite ?_ ?_
      | refine LeO.bind ?_ (fun _ => ?_)
    · intro y0 y1 y2 y3 y4 y5
      unfold celluloidlaw18_StrokeOwns.l2
      repeat' first
      | (with_reducible exact ih0 _ _ _ _)
      | (with_reducible exact ih1 _ _ _ _ _ _ _ _ _)
      | (with_reducible exact ih2 _ _ _ _ _ _)
      | (with_reducible exact ih3 _ _ _ _ _)
      | (with_reducible exact ih4 _ _ _ _ _)
      | (with_reducible exact ih5 _ _ _ _ _ _)
      | (with_reducible exact celluloidlaw18_awake.mono _)
      | (with_reducible exact celluloidref18_Owner.mono _ _ _ _)
      | (with_reducible exact celluloidref18_Right.mono _ _ _ _ _ _ _)
      | (with_reducible exact stroke_Owners.mono _ _ _ _)
      | (with_reducible exact LeO.refl _)
      | (with_reducible exact LeO.none _)
      | (with_reducible refine LeO.ite ?_ ?_)
      | (with_reducible refine LeO.bind ?_ (fun _ => ?_))
      | exact ih0 _ _ _ _
      | exact ih1 _ _ _ _ _ _ _ _ _
      | exact ih2 _ _ _ _ _ _
      | exact ih3 _ _ _ _ _
      | exact ih4 _ _ _ _ _
      | exact ih5 _ _ _ _ _ _
      | exact celluloidlaw18_awake.mono _
      | exact celluloidref18_Owner.mono _ _ _ _
      | exact celluloidref18_Right.mono _ _ _ _ _ _ _
      | exact stroke_Owners.mono _ _ _ _
      | exact LeO.none _
      | refine LeO.ite ?_ ?_
      | refine LeO.bind ?_ (fun _ => ?_)
theorem celluloidlaw18_StrokeOwns.mono : ∀ a0 a1 a2 k,LeO (celluloidlaw18_StrokeOwns.f k a0 a1 a2) (celluloidlaw18_StrokeOwns.f (k + 1) a0 a1 a2):=by
  intro a0 a1 a2 k
  obtain ⟨ih0,ih1,ih2,ih3,ih4,ih5⟩:=celluloidlaw18_StrokeOwns.mono_l k
  unfold celluloidlaw18_StrokeOwns.f
  repeat' first
      | (with_reducible exact ih0 _ _ _ _)
      | (with_reducible exact ih1 _ _ _ _ _ _ _ _ _)
      | (with_reducible exact ih2 _ _ _ _ _ _)
      | (with_reducible exact ih3 _ _ _ _ _)
      | (with_reducible exact ih4 _ _ _ _ _)
      | (with_reducible exact ih5 _ _ _ _ _ _)
      | (with_reducible exact celluloidlaw18_awake.mono _)
      | (with_reducible exact celluloidref18_Owner.mono _ _ _ _)
      | (with_reducible exact celluloidref18_Right.mono _ _ _ _ _ _ _)
      | (with_reducible exact stroke_Owners.mono _ _ _ _)
      | (with_reducible exact LeO.refl _)
      | (with_reducible exact LeO.none _)
      | (with_reducible refine LeO.ite ?_ ?_)
      | (with_reducible refine LeO.bind ?_ (fun _ => ?_))
      | exact ih0 _ _ _ _
      | exact ih1 _ _ _ _ _ _ _ _ _
      | exact ih2 _ _ _ _ _ _
      | exact ih3 _ _ _ _ _
      | exact ih4 _ _ _ _ _
      | exact ih5 _ _ _ _ _ _
      | exact celluloidlaw18_awake.mono _
      | exact celluloidref18_Owner.mono _ _ _ _
      | exact celluloidref18_Right.mono _ _ _ _ _ _ _
      | exact stroke_Owners.mono _ _ _ _
      | exact LeO.none _
      | refine LeO.ite ?_ ?_
      | refine LeO.bind ?_ (fun _ => ?_)
def celluloidlaw18_StrokeOwns.T22 : Bool × List (List Nat × List Nat):=(true,[([],[]),([],[]),([1],[1]),([],[]),([2,3],[2,3]),([],[]),([4,5],[4,5]),([0,6],[0,6]),([7],[7]),([],[]),([],[]),([10],[10]),([11],[11]),([],[]),([13],[13]),([14],[14]),([9,12,15],[9,12,15]),([8,16],[8,16])])
def celluloidlaw18_StrokeOwns.B22 : List Nat:=[0,0,2,0,14,0,62,127,255,0,0,1024,3072,0,8192,24576,65024,131071]
theorem celluloidlaw18_StrokeOwns.tab22 : rtab .any (opsOf Try.f4 22) = celluloidlaw18_StrokeOwns.T22:=by kernel_rfl
theorem celluloidlaw18_StrokeOwns.bits22 : waitsOk celluloidlaw18_StrokeOwns.T22.2 celluloidlaw18_StrokeOwns.B22 = true:=by kernel_rfl
set_option maxHeartbeats 8000000 in
set_option maxRecDepth 100000 in
theorem celluloidlaw18_StrokeOwns.calls (k : Nat) (A0 : Option Addr) (c0 : Nat) (l0 : List (S25)) (a1 : Int) (a2 : Int) (r : Bool) (w : World) (hr0 : Kd.C k25 w A0 l0.length l0) (hc0 : l0.length ≤ c0) (h : celluloidlaw18_StrokeOwns.f k l0 a1 a2 = some r) :
    Calls Try.prog 4 #[.slice A0 l0.length c0,.int .i64 a1,.int .i64 a2] w fun e w' => e = .returned (.bool r) ∧ Below w.heap.size w w':=by
  have hu25:=Try.underlying25;have HR0:=am hr0;have HC0:=am hc0;clear hr0 hc0;have HB:=am (Below.refl w.heap.size w);have H : (if (l0.length : Int) > 30 then (celluloidlaw18_StrokeOwns.j0 k l0 a1 a2 true) else (if a1 > 6 then (if a1 ≤ 256 then (celluloidlaw18_StrokeOwns.j0 k l0 a1 a2 true) else (if a2 > 6 then (celluloidlaw18_StrokeOwns.j0 k l0 a1 a2 (decide (a2 ≤ 256))) else (celluloidlaw18_StrokeOwns.j0 k l0 a1 a2 false))) else (if a2 > 6 then (celluloidlaw18_StrokeOwns.j0 k l0 a1 a2 (decide (a2 ≤ 256))) else (celluloidlaw18_StrokeOwns.j0 k l0 a1 a2 false)))) = some r:=h;clear h;have HC4:=am H;clear H
  go_enter Try.func4,Try.ntmps4
  go_upto_region 1 with (fail)
  go_cut [33] (fun v33 wc => ∃ (kq : Nat) (x33_3 : Bool),v33 = .bool x33_3 ∧ Aside0 (celluloidlaw18_StrokeOwns.j0 kq l0 a1 a2 x33_3 = some r) ∧ Aside0 (kq ≤ k) ∧ Aside0 (Below w.heap.size w wc))
  case first =>
    have H:=HC4.out;clear HC4
    by_cases c5 : (l0.length : Int) > 30
    · rw [if_pos c5] at H
      have c5b0 : decide (30 < (l0.length : Int)) = true:=decide_eq_true c5;have c5b1 : decide (30 < l0.length) = true:=decide_eq_true (by omega);clear c5
      (first|rw [c5b0]|(simp only [i64_w,i32_w];rw [c5b0])|skip)
      have H':=am H;clear H
      go_wp2
      go_meet
      case rel => exact ⟨_,(true),(by first|rfl|(simp;done)|(simp [*];done)),H',⟨by first|omega|exact Nat.le_refl _⟩,⟨by repeat (first|(with_reducible first|exact HB.out|apply sa|apply sn|apply sd)|exact HB.out)⟩⟩
    · rw [if_neg c5] at H
      have c5b0 : decide (30 < (l0.length : Int)) = false:=decide_eq_false c5;have c5b1 : decide (30 < l0.length) = false:=decide_eq_false (by omega);clear c5
      (first|rw [c5b0]|(simp only [i64_w,i32_w];rw [c5b0])|skip)
      by_cases c6 : a1 > 6
      · rw [if_pos c6] at H
        have c6b0 : decide (6 < a1) = true:=decide_eq_true c6;clear c6
        by_cases c7 : a1 ≤ 256
        · rw [if_pos c7] at H
          have c7b0 : decide (a1 ≤ 256) = true:=decide_eq_true c7;clear c7;have H':=am H;clear H
          go_wp2
          go_meet
          case rel => exact ⟨_,(true),(by first|rfl|(simp;done)|(simp [*];done)),H',⟨by first|omega|exact Nat.le_refl _⟩,⟨by repeat (first|(with_reducible first|exact HB.out|apply sa|apply sn|apply sd)|exact HB.out)⟩⟩
        · rw [if_neg c7] at H
          have c7b0 : decide (a1 ≤ 256) = false:=decide_eq_false c7;clear c7
          by_cases c8 : a2 > 6
          · rw [if_pos c8] at H
            have c8b0 : decide (6 < a2) = true:=decide_eq_true c8;clear c8;have H':=am H;clear H
            go_wp2
            go_meet
            case rel => exact ⟨_,(decide (a2 ≤ 256)),(by first|rfl|(simp;done)|(simp [*];done)),H',⟨by first|omega|exact Nat.le_refl _⟩,⟨by repeat (first|(with_reducible first|exact HB.out|apply sa|apply sn|apply sd)|exact HB.out)⟩⟩
          · rw [if_neg c8] at H
            have c8b0 : decide (6 < a2) = false:=decide_eq_false c8;clear c8;have H':=am H;clear H
            go_wp2
            go_meet
            case rel => exact ⟨_,(false),(by first|rfl|(simp;done)|(simp [*];done)),H',⟨by first|omega|exact Nat.le_refl _⟩,⟨by repeat (first|(with_reducible first|exact HB.out|apply sa|apply sn|apply sd)|exact HB.out)⟩⟩
      · rw [if_neg c6] at H
        have c6b0 : decide (6 < a1) = false:=decide_eq_false c6;clear c6
        by_cases c9 : a2 > 6
        · rw [if_pos c9] at H
          have c9b0 : decide (6 < a2) = true:=decide_eq_true c9;clear c9;have H':=am H;clear H
          go_wp2
          go_meet
          case rel => exact ⟨_,(decide (a2 ≤ 256)),(by first|rfl|(simp;done)|(simp [*];done)),H',⟨by first|omega|exact Nat.le_refl _⟩,⟨by repeat (first|(with_reducible first|exact HB.out|apply sa|apply sn|apply sd)|exact HB.out)⟩⟩
        · rw [if_neg c9] at H
          have c9b0 : decide (6 < a2) = false:=decide_eq_false c9;clear c9;have H':=am H;clear H
          go_wp2
          go_meet
          case rel => exact ⟨_,(false),(by first|rfl|(simp;done)|(simp [*];done)),H',⟨by first|omega|exact Nat.le_refl _⟩,⟨by repeat (first|(with_reducible first|exact HB.out|apply sa|apply sn|apply sd)|exact HB.out)⟩⟩
  case rest =>
    clear HC4
    try clear p2
    try clear c4
    try clear c5
    try clear c5b0
    try clear c5b1
    try clear c6
    try clear c6b0
    try clear c7
    try clear c7b0
    try clear c8
    try clear c8b0
    try clear c9
    try clear c9b0
    obtain ⟨kq,x33_3,rfl,HA,HJ3,HB⟩:=hcut
    cases kq with
    | zero => exact absurd HA.out (by simp [celluloidlaw18_StrokeOwns.j0])
    | succ kj3 =>
      have H:=HA.out;clear HA;simp only [celluloidlaw18_StrokeOwns.j0] at H
      by_cases c10 : x33_3 = true
      · subst c10
        have H1 : ((celluloidlaw18_awake.f kj3).bind fun t284 => (some t284)) = some r:=by rw [if_pos rfl] at H;exact H
        clear H;have H:=H1;clear H1;replace H:=Option.bind_eq_some_iff.mp H;obtain ⟨t284,A110,H⟩:=H;replace H : (some t284) = some r:=H;have A11:=am A110;clear A110;obtain rfl:=Option.some.inj H
        go_wp2_with (first|((with_reducible refine gate_callee (f:=16) rfl ?_);refine goesL_ (some 34) rfl rfl Try.func16 (by kernel_rfl) rfl #[] rfl (by (try simp only [List.map_toArray,List.map_cons,List.map_nil]);first|done|rfl|(simp only [List.length_drop,List.length_take];rfl)) ?_;(with_reducible refine (celluloidlaw18_awake.calls kj3  t284 _ A11.out).mono ?_);rintro e w12 ⟨rfl,hb⟩;refine ⟨_,rfl,?_⟩;replace HB:=am (ss (by repeat (first|(with_reducible first|exact HB.out|apply sa|apply sn|apply sd)|exact HB.out)) hb);(try clear hb);(try clear hb2);(try clear hk);(try clear hi)))
        go_ret
        exact ⟨by first|rfl|(simp [errW_none,errW_some] <;> rfl)|(simp [*,errW_none,errW_some] <;> rfl),by repeat (first|(with_reducible first|exact HB.out|apply sa|apply sn|apply sd)|exact HB.out)⟩
      · replace c10:=Bool.eq_false_iff.mpr c10
        subst c10
        have H1 : ((stroke_Owners.f kj3 l0 a1 a2).bind fun bt285 => (celluloidlaw18_StrokeOwns.l0 kj3 a1 a2 bt285.1 bt285.2 ([] : List (S27)) true l0 (l0.length : Int) 0)) = some r:=by rw [if_neg (show ¬ (false = true) by decide)] at H;exact H
        clear H;have H:=H1;clear H1;replace H:=Option.bind_eq_some_iff.mp H;obtain ⟨⟨t285,t286⟩,A130,H⟩:=H;replace H : (celluloidlaw18_StrokeOwns.l0 kj3 a1 a2 t285 t286 ([] : List (S27)) true l0 (l0.length : Int) 0) = some r:=H;have A13:=am A130;clear A130;have H':=am H;clear H
        go_wp2_with (first|((with_reducible refine gate_callee (f:=17) rfl ?_);refine goesL_ (some 39) rfl rfl Try.func17 (by kernel_rfl) rfl #[.slice A0 l0.length c0,.int .i64 a1,.int .i64 a2] rfl (by (try simp only [List.map_toArray,List.map_cons,List.map_nil]);first|done|rfl|(simp only [List.length_drop,List.length_take];rfl)) ?_;(with_reducible refine (stroke_Owners.calls kj3 _ _ l0 a1 a2 t285 t286 _ ?side1 ?side2 A13.out).mono ?_);(case side1 => repeat (first|exact (Kd.C_below HR0.out HB.out)|(with_reducible refine Kd.C_alloc ?_ _)|(with_reducible refine Kd.C_drewN ?_ _)|(with_reducible refine Kd.C_drew ?_)));(case side2 => exact HC0.out);rintro e w14 ⟨v287,rfl,ho0,hb⟩;refine ⟨_,rfl,?_⟩;have HO288:=am (Kd.R_lower ho0 (sz (by repeat (first|(with_reducible first|exact HB.out|apply sa|apply sn|apply sd)|exact HB.out))));replace HB:=am (ss (by repeat (first|(with_reducible first|exact HB.out|apply sa|apply sn|apply sd)|exact HB.out)) hb);(try clear hb);(try clear hb2);(try clear hk);(try clear hi);(try clear ho0)))
        go_loopg [9,10,44] kj3 (fun kq v9 v10 v44 w' => ∃ (x9_2 : List (S27)) (x10_2 : Bool) (x44_2 : Int),v10 = .bool x10_2 ∧ v44 = .int .i64 x44_2 ∧ Aside0 (celluloidlaw18_StrokeOwns.l0 kq a1 a2 t285 t286 x9_2 x10_2 l0 (l0.length : Int) x44_2 = some r) ∧ Aside0 (kq ≤ kj3) ∧ Aside0 (Kd.R (Kd.int .i64) 3 w' w.heap.size (fun _ => True) v287 t285) ∧ Aside0 (Kd.R k27 27 w' w.heap.size (fun _ => True) v9 x9_2) ∧ Aside0 (Below w.heap.size w w'))
        case atStart => exact ⟨(([] : List (S27))),(true),(0),(by first|rfl|(simp;done)|(simp [*];done)),(by first|rfl|(simp;done)|(simp [*];done)),H',⟨Nat.le_refl _⟩,⟨by (with_reducible repeat (first|apply Kd.R_alloc|apply Kd.R_drewN|apply Kd.R_drew));exact HO288.out⟩,⟨by first|exact Kd.R_nil _ _ _ _ _|exact Kd.N_nil _ _ _ _ _|exact Kd.V_nil _ _ _ _ _|exact Kd.Q_nil _ _ _ _ _|exact Kd.S_nil _ _ _ _ _⟩,⟨by repeat (first|(with_reducible first|exact HB.out|apply sa|apply sn|apply sd)|exact HB.out)⟩⟩
        case round =>
          clear H'
          try clear c1
          try clear p2
          try clear c4
          try clear c5
          try clear c5b0
          try clear c5b1
          try clear c6
          try clear c6b0
          try clear c7
          try clear c7b0
          try clear c8
          try clear c8b0
          try clear c9
          try clear c9b0
          try clear c10
          try clear p2
          obtain ⟨x9_2,x10_2,x44_2,rfl,rfl,HA,HK2,HO_7,HO_9,HB⟩:=hrel
          cases gk with
          | zero => exact absurd HA.out (by simp [celluloidlaw18_StrokeOwns.l0])
          | succ k2 =>
            have H:=HA.out;clear HA;simp only [celluloidlaw18_StrokeOwns.l0] at H
            by_cases c15 : x44_2 < (l0.length : Int)
            · rw [if_pos c15] at H
              have c15b0 : decide (x44_2 < (l0.length : Int)) = true:=decide_eq_true c15;clear c15
              by_cases c16 : 0 ≤ x44_2
              · rw [if_pos c16] at H
                have c16b0 : decide (0 ≤ x44_2) = true:=decide_eq_true c16;clear c16
                by_cases c17 : x44_2 < (l0.length : Int)
                · rw [if_pos c17] at H
                  have c17b0 : decide (x44_2 < (l0.length : Int)) = true:=decide_eq_true c17;clear c17;replace H:=Option.bind_eq_some_iff.mp H;obtain ⟨⟨t291,t292,t293,t294,t295,t296⟩,A180,H⟩:=H;replace H : (if x9_2.length < 2932031007402 then ((some (x9_2 ++ [(⟨(⟨t291,t292⟩ : S23),(⟨t293,t294⟩ : S23),t295,t296⟩ : S27)] : List (S27))).bind fun y297 => (if x10_2 = true then ((celluloidlaw18_ref.f ((rd_T25 l0 x44_2).f0.f0) ((rd_T25 l0 x44_2).f0.f1) ((rd_T25 l0 x44_2).f1.f0) ((rd_T25 l0 x44_2).f1.f1) ((rd_T25 l0 x44_2).f2) ((rd_T25 l0 x44_2).f3)).bind fun bt300 => ((celluloidref18_Right.f k2 bt300.1 bt300.2.1 bt300.2.2.1 bt300.2.2.2.1 bt300.2.2.2.2.1 bt300.2.2.2.2.2).bind fun t306 => (celluloidlaw18_StrokeOwns.l0 k2 a1 a2 t285 t286 y297 t306 l0 (l0.length : Int) (wrap64 (x44_2 + 1))))) else (celluloidlaw18_StrokeOwns.l0 k2 a1 a2 t285 t286 y297 false l0 (l0.length : Int) (wrap64 (x44_2 + 1))))) else (none)) = some r:=H;have A18:=am A180;clear A180
                  by_cases c19 : x9_2.length < 2932031007402
                  · rw [if_pos c19] at H
                    have LMc19:=am c19;clear c19;obtain ⟨y297,hy297⟩ : ∃ y_ : List (S27),y_ = (x9_2 ++ [(⟨(⟨t291,t292⟩ : S23),(⟨t293,t294⟩ : S23),t295,t296⟩ : S27)]):=⟨_,rfl⟩
                    replace H : (if x10_2 = true then ((celluloidlaw18_ref.f ((rd_T25 l0 x44_2).f0.f0) ((rd_T25 l0 x44_2).f0.f1) ((rd_T25 l0 x44_2).f1.f0) ((rd_T25 l0 x44_2).f1.f1) ((rd_T25 l0 x44_2).f2) ((rd_T25 l0 x44_2).f3)).bind fun bt300 => ((celluloidref18_Right.f k2 bt300.1 bt300.2.1 bt300.2.2.1 bt300.2.2.2.1 bt300.2.2.2.2.1 bt300.2.2.2.2.2).bind fun t306 => (celluloidlaw18_StrokeOwns.l0 k2 a1 a2 t285 t286 y297 t306 l0 (l0.length : Int) (wrap64 (x44_2 + 1))))) else (celluloidlaw18_StrokeOwns.l0 k2 a1 a2 t285 t286 y297 false l0 (l0.length : Int) (wrap64 (x44_2 + 1)))) = some r:=by first|(rw [hy297];with_reducible exact H)|(have H2_:=(Option.bind_some _ _).symm.trans H;rw [hy297];with_reducible exact H2_)|(have H2_:=(Option.bind_some _ _).symm.trans H;with_reducible exact H2_)|with_reducible exact H|(rw [hy297];exact H)|exact H
                    have Ny297:=am hy297;clear hy297
                    by_cases c20 : x10_2 = true
                    · subst c20
                      have H1 : ((celluloidlaw18_ref.f ((rd_T25 l0 x44_2).f0.f0) ((rd_T25 l0 x44_2).f0.f1) ((rd_T25 l0 x44_2).f1.f0) ((rd_T25 l0 x44_2).f1.f1) ((rd_T25 l0 x44_2).f2) ((rd_T25 l0 x44_2).f3)).bind fun bt300 => ((celluloidref18_Right.f k2 bt300.1 bt300.2.1 bt300.2.2.1 bt300.2.2.2.1 bt300.2.2.2.2.1 bt300.2.2.2.2.2).bind fun t306 => (celluloidlaw18_StrokeOwns.l0 k2 a1 a2 t285 t286 y297 t306 l0 (l0.length : Int) (wrap64 (x44_2 + 1))))) = some r:=by rw [if_pos rfl] at H;exact H
                      clear H;have H:=H1;clear H1;replace H:=Option.bind_eq_some_iff.mp H;obtain ⟨⟨t300,t301,t302,t303,t304,t305⟩,A210,H⟩:=H;replace H : ((celluloidref18_Right.f k2 t300 t301 t302 t303 t304 t305).bind fun t306 => (celluloidlaw18_StrokeOwns.l0 k2 a1 a2 t285 t286 y297 t306 l0 (l0.length : Int) (wrap64 (x44_2 + 1)))) = some r:=H;have A21:=am A210;clear A210;replace H:=Option.bind_eq_some_iff.mp H;obtain ⟨t306,A220,H⟩:=H;replace H : (celluloidlaw18_StrokeOwns.l0 k2 a1 a2 t285 t286 y297 t306 l0 (l0.length : Int) (wrap64 (x44_2 + 1))) = some r:=H;have A22:=am A220;clear A220;have H':=am H;clear H;have p289 : 0 ≤ (x44_2 : Int):=of_decide_eq_true (by first|(with_reducible assumption)|assumption);have q289 : x44_2 < (l0.length : Int):=of_decide_eq_true (by first|(with_reducible assumption)|assumption);obtain ⟨ad289,e289,hx289_0,hx289_1,hx289_2,hx289_3,hx289_4,hx289_5⟩:=at_T25 HR0.out x44_2 p289 q289
                      cases e289
                      replace hx289_0:=(HB.out.cell (World.block_lt_of_cell? w _ hx289_0)).trans hx289_0;replace hx289_1:=(HB.out.cell (World.block_lt_of_cell? w _ hx289_1)).trans hx289_1;replace hx289_2:=(HB.out.cell (World.block_lt_of_cell? w _ hx289_2)).trans hx289_2;replace hx289_3:=(HB.out.cell (World.block_lt_of_cell? w _ hx289_3)).trans hx289_3;replace hx289_4:=(HB.out.cell (World.block_lt_of_cell? w _ hx289_4)).trans hx289_4;replace hx289_5:=(HB.out.cell (World.block_lt_of_cell? w _ hx289_5)).trans hx289_5;replace p289:=eq_true p289;replace q289:=eq_true q289
                      go_wp2_with (first|((with_reducible refine gate_dst (N:=12) rfl ?_);(try (refine gate_guard (by rfl) ?_;dsimp only));refine box_event ?hg (N:=12) ?hd (cs:=#[.int .i64 0,.int .i64 0,.int .i64 0,.int .i64 0,.int .i64 0,.int .i64 0]) (t:=25) ?hr ?_;(case hd => rfl);(case hg => rfl);(case hr => first|(go_simp;done)|(go_simp;rfl));intro gb290 hg w23 hbox hb;replace HO_7:=am (Kd.R_below (by (with_reducible repeat (first|apply Kd.R_alloc|apply Kd.R_drewN|apply Kd.R_drew));exact HO_7.out) hb);replace HO_9:=am (Kd.R_below (by (with_reducible repeat (first|apply Kd.R_alloc|apply Kd.R_drewN|apply Kd.R_drew));exact HO_9.out) hb);have BK290:=am (hbox);have GW290:=am ((by rw [hg];exact (sz (by repeat (first|(with_reducible first|exact HB.out|apply sa|apply sn|apply sd)|exact HB.out))) : w.heap.size ≤ gb290));have GE290:=am ((by rw [hg];exact (sz (by repeat (first|(with_reducible first|exact HB.out|apply sa|apply sn|apply sd)|exact HB.out))) : w.heap.size ≤ gb290));replace HB:=am (ss (by repeat (first|(with_reducible first|exact HB.out|apply sa|apply sn|apply sd)|exact HB.out)) hb);clear hb hbox hg;obtain ⟨hcz24_0,hcz24_1,hcz24_2,hcz24_3,hcz24_4,hcz24_5⟩:=cq6 BK290.out;obtain ⟨hfz24_0,hfz24_1,hfz24_2,hfz24_3,hfz24_4,hfz24_5⟩:=fq6 BK290.out)|((with_reducible refine gate_callee (f:=11) rfl ?_);refine goesL_ (some 50) rfl rfl Try.func11 (by kernel_rfl) rfl #[.agg #[.int .i64 ((rd_T25 l0 x44_2).f0.f0),.int .i64 ((rd_T25 l0 x44_2).f0.f1),.int .i64 ((rd_T25 l0 x44_2).f1.f0),.int .i64 ((rd_T25 l0 x44_2).f1.f1),.int .i64 ((rd_T25 l0 x44_2).f2),.int .i64 ((rd_T25 l0 x44_2).f3)]] rfl (by (try simp only [List.map_toArray,List.map_cons,List.map_nil]);first|done|rfl|(simp only [List.length_drop,List.length_take];rfl)) ?_;(with_reducible refine (celluloidlaw18_ref.calls ((rd_T25 l0 x44_2).f0.f0) ((rd_T25 l0 x44_2).f0.f1) ((rd_T25 l0 x44_2).f1.f0) ((rd_T25 l0 x44_2).f1.f1) ((rd_T25 l0 x44_2).f2) ((rd_T25 l0 x44_2).f3) t291 t292 t293 t294 t295 t296 _ A18.out).mono ?_);rintro e w25 ⟨rfl,hb⟩;refine ⟨_,rfl,?_⟩;replace HO_7:=am (Kd.R_below (by (with_reducible repeat (first|apply Kd.R_alloc|apply Kd.R_drewN|apply Kd.R_drew));exact (rm (rf (rf (rf (rf (rf (rf (Kd.R_types HO_7.out BK290.out (by decide)))))))))) hb);replace HO_9:=am (Kd.R_below (by (with_reducible repeat (first|apply Kd.R_alloc|apply Kd.R_drewN|apply Kd.R_drew));exact (rm (rf (rf (rf (rf (rf (rf (Kd.R_types HO_9.out BK290.out (by decide)))))))))) hb);replace BK290:=am (bw (g:=gb290) (o:=.cells #[.int .i64 ((rd_T25 l0 x44_2).f0.f0),.int .i64 ((rd_T25 l0 x44_2).f0.f1),.int .i64 ((rd_T25 l0 x44_2).f1.f0),.int .i64 ((rd_T25 l0 x44_2).f1.f1),.int .i64 ((rd_T25 l0 x44_2).f2),.int .i64 ((rd_T25 l0 x44_2).f3)] 25 (0,0)) (bp6 BK290.out) hb);replace HB:=am (ss (by repeat (first|(with_reducible first|exact HB.out|apply sa|apply sn|apply sd|refine sx ?_ GE290.out)|exact HB.out)) hb);(try clear hb);(try clear hb2);(try clear hk);(try clear hi))|((with_reducible refine gate_builtin (b:=.append) (xs:=#[.tmp 48,.tmp 51]) rfl ?_);(try (refine gate_guard (by rfl) ?_;dsimp only));at_builtin;refine Kd.R_append k27 (w0:=w) w.heap.size rfl (.tmp 48) (.tmp 51) 39 27 (.agg #[(.int .i64 0),(.int .i64 0),(.int .i64 0),(.int .i64 0),(.int .i64 0),(.int .i64 0)]) 48 rfl Try.underlying39 info27 rfl (by decide) (by omega) u9 x9_2 (⟨(⟨t291,t292⟩ : S23),(⟨t293,t294⟩ : S23),t295,t296⟩ : S27) [.int .i64 t291,.int .i64 t292,.int .i64 t293,.int .i64 t294,.int .i64 t295,.int .i64 t296] (fun _ => True) (fun _ => False) rfl rfl ?aP (fun _ hk => hk.elim) ?aF ?aO ?aB ?aS ?aL ?_;(case aP => exact k27_mkM _ _ _ (⟨(⟨t291,t292⟩ : S23),(⟨t293,t294⟩ : S23),t295,t296⟩ : S27));(case aB => exact (by repeat (first|(with_reducible first|exact HB.out|apply sa|apply sn|apply sd|refine sx ?_ GE290.out)|exact HB.out)));(case aF => exact (fun _ _ => trivial));(case aO => exact (by (with_reducible repeat (first|apply Kd.R_alloc|apply Kd.R_drewN|apply Kd.R_drew));exact HO_9.out));(case aS => exact (sz (by repeat (first|(with_reducible first|exact HB.out|apply sa|apply sn|apply sd|refine sx ?_ GE290.out)|exact HB.out))));(case aL => have:=LMc19.out;omega);intro v298 w26 ho hb hg hat;rw [← Ny297.out] at ho;have n0_:=am (Kd.R_over' (by (with_reducible repeat (first|apply Kd.R_alloc|apply Kd.R_drewN|apply Kd.R_drew));exact HO_7.out) (Kd.R_typed (by (with_reducible repeat (first|apply Kd.R_alloc|apply Kd.R_drewN|apply Kd.R_drew));exact HO_9.out)) (by decide) hg);have n1_:=am (blk_grown (g:=gb290) (o:=.cells #[.int .i64 ((rd_T25 l0 x44_2).f0.f0),.int .i64 ((rd_T25 l0 x44_2).f0.f1),.int .i64 ((rd_T25 l0 x44_2).f1.f0),.int .i64 ((rd_T25 l0 x44_2).f1.f1),.int .i64 ((rd_T25 l0 x44_2).f2),.int .i64 ((rd_T25 l0 x44_2).f3)] 25 (0,0)) (by exact BK290.out) hg (Kd.R_ne HO_9.out BK290.out (by decide)));have n2_:=am (hb);have n3_:=am (ho);clear HO_7;clear BK290;clear HB;clear HO_9;have HO_7:=n0_;have BK290:=n1_;have HB:=n2_;have HO299:=n3_;clear n0_ n1_ n2_ n3_;clear ho hb hg hat;obtain ⟨hcz27_0,hcz27_1,hcz27_2,hcz27_3,hcz27_4,hcz27_5⟩:=cq6 BK290.out;obtain ⟨hfz27_0,hfz27_1,hfz27_2,hfz27_3,hfz27_4,hfz27_5⟩:=fq6 BK290.out)|(go_at_call 11;(with_reducible refine (celluloidlaw18_ref.calls ((rd_T25 l0 x44_2).f0.f0) ((rd_T25 l0 x44_2).f0.f1) ((rd_T25 l0 x44_2).f1.f0) ((rd_T25 l0 x44_2).f1.f1) ((rd_T25 l0 x44_2).f2) ((rd_T25 l0 x44_2).f3) t300 t301 t302 t303 t304 t305 _ A21.out).mono ?_);rintro e w28 ⟨rfl,hb⟩;replace HO_7:=am (Kd.R_below (by (with_reducible repeat (first|apply Kd.R_alloc|apply Kd.R_drewN|apply Kd.R_drew));exact HO_7.out) hb);replace HO299:=am (Kd.R_below (by (with_reducible repeat (first|apply Kd.R_alloc|apply Kd.R_drewN|apply Kd.R_drew));exact HO299.out) hb);replace BK290:=am (bw (by exact BK290.out) hb);replace HB:=am (ss (by repeat (first|(with_reducible first|exact HB.out|apply sa|apply sn|apply sd|refine sx ?_ GE290.out)|exact HB.out)) hb);(try clear hb);(try clear hb2);(try clear hk);(try clear hi))|(go_at_call 10;(with_reducible refine (celluloidref18_Right.calls k2 t300 t301 t302 t303 t304 t305 t306 _ A22.out).mono ?_);rintro e w29 ⟨rfl,hb⟩;replace HO_7:=am (Kd.R_below (by (with_reducible repeat (first|apply Kd.R_alloc|apply Kd.R_drewN|apply Kd.R_drew));exact HO_7.out) hb);replace HO299:=am (Kd.R_below (by (with_reducible repeat (first|apply Kd.R_alloc|apply Kd.R_drewN|apply Kd.R_drew));exact HO299.out) hb);replace BK290:=am (bw (by exact BK290.out) hb);replace HB:=am (ss (by repeat (first|(with_reducible first|exact HB.out|apply sa|apply sn|apply sd|refine sx ?_ GE290.out)|exact HB.out)) hb);(try clear hb);(try clear hb2);(try clear hk);(try clear hi)))
                      go_roundg k2
                      case measure => have:=HJ3.out;have:=HK2.out;omega
                      case rel => exact ⟨(y297),(t306),(wrap64 (x44_2 + 1)),(by first|rfl|(simp;done)|(simp [*];done)),(by first|rfl|(simp;done)|(simp [*];done)),H',⟨by have:=HJ3.out;have:=HK2.out;omega⟩,⟨by (with_reducible repeat (first|apply Kd.R_alloc|apply Kd.R_drewN|apply Kd.R_drew));exact HO_7.out⟩,⟨by (with_reducible repeat (first|apply Kd.R_alloc|apply Kd.R_drewN|apply Kd.R_drew));exact HO299.out⟩,⟨by repeat (first|(with_reducible first|exact HB.out|apply sa|apply sn|apply sd|refine sx ?_ GE290.out)|exact HB.out)⟩⟩
                    · replace c20:=Bool.eq_false_iff.mpr c20
                      subst c20
                      have H1 : (celluloidlaw18_StrokeOwns.l0 k2 a1 a2 t285 t286 y297 false l0 (l0.length : Int) (wrap64 (x44_2 + 1))) = some r:=by rw [if_neg (show ¬ (false = true) by decide)] at H;exact H
                      clear H;have H:=H1;clear H1;have H':=am H;clear H;have p289 : 0 ≤ (x44_2 : Int):=of_decide_eq_true (by first|(with_reducible assumption)|assumption);have q289 : x44_2 < (l0.length : Int):=of_decide_eq_true (by first|(with_reducible assumption)|assumption);obtain ⟨ad289,e289,hx289_0,hx289_1,hx289_2,hx289_3,hx289_4,hx289_5⟩:=at_T25 HR0.out x44_2 p289 q289
                      cases e289
                      replace hx289_0:=(HB.out.cell (World.block_lt_of_cell? w _ hx289_0)).trans hx289_0;replace hx289_1:=(HB.out.cell (World.block_lt_of_cell? w _ hx289_1)).trans hx289_1;replace hx289_2:=(HB.out.cell (World.block_lt_of_cell? w _ hx289_2)).trans hx289_2;replace hx289_3:=(HB.out.cell (World.block_lt_of_cell? w _ hx289_3)).trans hx289_3;replace hx289_4:=(HB.out.cell (World.block_lt_of_cell? w _ hx289_4)).trans hx289_4;replace hx289_5:=(HB.out.cell (World.block_lt_of_cell? w _ hx289_5)).trans hx289_5;replace p289:=eq_true p289;replace q289:=eq_true q289
                      go_wp2_with (first|((with_reducible refine gate_dst (N:=12) rfl ?_);(try (refine gate_guard (by rfl) ?_;dsimp only));refine box_event ?hg (N:=12) ?hd (cs:=#[.int .i64 0,.int .i64 0,.int .i64 0,.int .i64 0,.int .i64 0,.int .i64 0]) (t:=25) ?hr ?_;(case hd => rfl);(case hg => rfl);(case hr => first|(go_simp;done)|(go_simp;rfl));intro gb290 hg w30 hbox hb;replace HO_7:=am (Kd.R_below (by (with_reducible repeat (first|apply Kd.R_alloc|apply Kd.R_drewN|apply Kd.R_drew));exact HO_7.out) hb);replace HO_9:=am (Kd.R_below (by (with_reducible repeat (first|apply Kd.R_alloc|apply Kd.R_drewN|apply Kd.R_drew));exact HO_9.out) hb);have BK290:=am (hbox);have GW290:=am ((by rw [hg];exact (sz (by repeat (first|(with_reducible first|exact HB.out|apply sa|apply sn|apply sd)|exact HB.out))) : w.heap.size ≤ gb290));have GE290:=am ((by rw [hg];exact (sz (by repeat (first|(with_reducible first|exact HB.out|apply sa|apply sn|apply sd)|exact HB.out))) : w.heap.size ≤ gb290));replace HB:=am (ss (by repeat (first|(with_reducible first|exact HB.out|apply sa|apply sn|apply sd)|exact HB.out)) hb);clear hb hbox hg;obtain ⟨hcz31_0,hcz31_1,hcz31_2,hcz31_3,hcz31_4,hcz31_5⟩:=cq6 BK290.out;obtain ⟨hfz31_0,hfz31_1,hfz31_2,hfz31_3,hfz31_4,hfz31_5⟩:=fq6 BK290.out)|((with_reducible refine gate_callee (f:=11) rfl ?_);refine goesL_ (some 50) rfl rfl Try.func11 (by kernel_rfl) rfl #[.agg #[.int .i64 ((rd_T25 l0 x44_2).f0.f0),.int .i64 ((rd_T25 l0 x44_2).f0.f1),.int .i64 ((rd_T25 l0 x44_2).f1.f0),.int .i64 ((rd_T25 l0 x44_2).f1.f1),.int .i64 ((rd_T25 l0 x44_2).f2),.int .i64 ((rd_T25 l0 x44_2).f3)]] rfl (by (try simp only [List.map_toArray,List.map_cons,List.map_nil]);first|done|rfl|(simp only [List.length_drop,List.length_take];rfl)) ?_;(with_reducible refine (celluloidlaw18_ref.calls ((rd_T25 l0 x44_2).f0.f0) ((rd_T25 l0 x44_2).f0.f1) ((rd_T25 l0 x44_2).f1.f0) ((rd_T25 l0 x44_2).f1.f1) ((rd_T25 l0 x44_2).f2) ((rd_T25 l0 x44_2).f3) t291 t292 t293 t294 t295 t296 _ A18.out).mono ?_);rintro e w32 ⟨rfl,hb⟩;refine ⟨_,rfl,?_⟩;replace HO_7:=am (Kd.R_below (by (with_reducible repeat (first|apply Kd.R_alloc|apply Kd.R_drewN|apply Kd.R_drew));exact (rm (rf (rf (rf (rf (rf (rf (Kd.R_types HO_7.out BK290.out (by decide)))))))))) hb);replace HO_9:=am (Kd.R_below (by (with_reducible repeat (first|apply Kd.R_alloc|apply Kd.R_drewN|apply Kd.R_drew));exact (rm (rf (rf (rf (rf (rf (rf (Kd.R_types HO_9.out BK290.out (by decide)))))))))) hb);replace BK290:=am (bw (g:=gb290) (o:=.cells #[.int .i64 ((rd_T25 l0 x44_2).f0.f0),.int .i64 ((rd_T25 l0 x44_2).f0.f1),.int .i64 ((rd_T25 l0 x44_2).f1.f0),.int .i64 ((rd_T25 l0 x44_2).f1.f1),.int .i64 ((rd_T25 l0 x44_2).f2),.int .i64 ((rd_T25 l0 x44_2).f3)] 25 (0,0)) (bp6 BK290.out) hb);replace HB:=am (ss (by repeat (first|(with_reducible first|exact HB.out|apply sa|apply sn|apply sd|refine sx ?_ GE290.out)|exact HB.out)) hb);(try clear hb);(try clear hb2);(try clear hk);(try clear hi))|((with_reducible refine gate_builtin (b:=.append) (xs:=#[.tmp 48,.tmp 51]) rfl ?_);(try (refine gate_guard (by rfl) ?_;dsimp only));at_builtin;refine Kd.R_append k27 (w0:=w) w.heap.size rfl (.tmp 48) (.tmp 51) 39 27 (.agg #[(.int .i64 0),(.int .i64 0),(.int .i64 0),(.int .i64 0),(.int .i64 0),(.int .i64 0)]) 48 rfl Try.underlying39 info27 rfl (by decide) (by omega) u9 x9_2 (⟨(⟨t291,t292⟩ : S23),(⟨t293,t294⟩ : S23),t295,t296⟩ : S27) [.int .i64 t291,.int .i64 t292,.int .i64 t293,.int .i64 t294,.int .i64 t295,.int .i64 t296] (fun _ => True) (fun _ => False) rfl rfl ?aP (fun _ hk => hk.elim) ?aF ?aO ?aB ?aS ?aL ?_;(case aP => exact k27_mkM _ _ _ (⟨(⟨t291,t292⟩ : S23),(⟨t293,t294⟩ : S23),t295,t296⟩ : S27));(case aB => exact (by repeat (first|(with_reducible first|exact HB.out|apply sa|apply sn|apply sd|refine sx ?_ GE290.out)|exact HB.out)));(case aF => exact (fun _ _ => trivial));(case aO => exact (by (with_reducible repeat (first|apply Kd.R_alloc|apply Kd.R_drewN|apply Kd.R_drew));exact HO_9.out));(case aS => exact (sz (by repeat (first|(with_reducible first|exact HB.out|apply sa|apply sn|apply sd|refine sx ?_ GE290.out)|exact HB.out))));(case aL => have:=LMc19.out;omega);intro v298 w33 ho hb hg hat;rw [← Ny297.out] at ho;have n0_:=am (Kd.R_over' (by (with_reducible repeat (first|apply Kd.R_alloc|apply Kd.R_drewN|apply Kd.R_drew));exact HO_7.out) (Kd.R_typed (by (with_reducible repeat (first|apply Kd.R_alloc|apply Kd.R_drewN|apply Kd.R_drew));exact HO_9.out)) (by decide) hg);have n1_:=am (blk_grown (g:=gb290) (o:=.cells #[.int .i64 ((rd_T25 l0 x44_2).f0.f0),.int .i64 ((rd_T25 l0 x44_2).f0.f1),.int .i64 ((rd_T25 l0 x44_2).f1.f0),.int .i64 ((rd_T25 l0 x44_2).f1.f1),.int .i64 ((rd_T25 l0 x44_2).f2),.int .i64 ((rd_T25 l0 x44_2).f3)] 25 (0,0)) (by exact BK290.out) hg (Kd.R_ne HO_9.out BK290.out (by decide)));have n2_:=am (hb);have n3_:=am (ho);clear HO_7;clear BK290;clear HB;clear HO_9;have HO_7:=n0_;have BK290:=n1_;have HB:=n2_;have HO299:=n3_;clear n0_ n1_ n2_ n3_;clear ho hb hg hat))
                      go_roundg k2
                      case measure => have:=HJ3.out;have:=HK2.out;omega
                      case rel => exact ⟨(y297),(false),(wrap64 (x44_2 + 1)),(by first|rfl|(simp;done)|(simp [*];done)),(by first|rfl|(simp;done)|(simp [*];done)),H',⟨by have:=HJ3.out;have:=HK2.out;omega⟩,⟨by (with_reducible repeat (first|apply Kd.R_alloc|apply Kd.R_drewN|apply Kd.R_drew));exact HO_7.out⟩,⟨by (with_reducible repeat (first|apply Kd.R_alloc|apply Kd.R_drewN|apply Kd.R_drew));exact HO299.out⟩,⟨by repeat (first|(with_reducible first|exact HB.out|apply sa|apply sn|apply sd|refine sx ?_ GE290.out)|exact HB.out)⟩⟩
                  · rw [if_neg c19] at H
                    exact absurd H (by simp)
                · rw [if_neg c17] at H
                  exact absurd H (by simp)
              · rw [if_neg c16] at H
                exact absurd H (by simp)
            · rw [if_neg c15] at H
              have c15b0 : decide (x44_2 < (l0.length : Int)) = false:=decide_eq_false c15;clear c15;have HC34:=am H;clear H
              go_upto_region 12 with (fail)
              go_cut [77] (fun v77 wc => ∃ (kq : Nat) (x77_33 : Bool),v77 = .bool x77_33 ∧ Aside0 (celluloidlaw18_StrokeOwns.j2 kq a1 a2 t285 t286 x9_2 x77_33 = some r) ∧ Aside0 (kq ≤ k2) ∧ Aside0 (Kd.R (Kd.int .i64) 3 wc w.heap.size (fun _ => True) v287 t285) ∧ Aside0 (Kd.R k27 27 wc w.heap.size (fun _ => True) u9 x9_2) ∧ Aside0 (Below w.heap.size w wc))
              case first =>
                have H:=HC34.out;clear HC34
                by_cases c35 : a1 < 1
                · rw [if_pos c35] at H
                  have c35b0 : decide (a1 < 1) = true:=decide_eq_true c35;clear c35
                  (first|rw [c35b0]|(simp only [i64_w,i32_w];rw [c35b0])|skip)
                  have H':=am H;clear H
                  go_wp2
                  go_meet
                  case rel => exact ⟨_,(true),(by first|rfl|(simp;done)|(simp [*];done)),H',⟨by have:=HJ3.out;have:=HK2.out;first|omega|exact Nat.le_refl _⟩,⟨by (with_reducible repeat (first|apply Kd.R_alloc|apply Kd.R_drewN|apply Kd.R_drew));exact HO_7.out⟩,⟨by (with_reducible repeat (first|apply Kd.R_alloc|apply Kd.R_drewN|apply Kd.R_drew));exact HO_9.out⟩,⟨by repeat (first|(with_reducible first|exact HB.out|apply sa|apply sn|apply sd)|exact HB.out)⟩⟩
                · rw [if_neg c35] at H
                  have c35b0 : decide (a1 < 1) = false:=decide_eq_false c35;clear c35
                  (first|rw [c35b0]|(simp only [i64_w,i32_w];rw [c35b0])|skip)
                  by_cases c36 : a1 > 256
                  · rw [if_pos c36] at H
                    have c36b0 : decide (256 < a1) = true:=decide_eq_true c36;clear c36;have H':=am H;clear H
                    go_wp2
                    go_meet
                    case rel => exact ⟨_,(true),(by first|rfl|(simp;done)|(simp [*];done)),H',⟨by have:=HJ3.out;have:=HK2.out;first|omega|exact Nat.le_refl _⟩,⟨by (with_reducible repeat (first|apply Kd.R_alloc|apply Kd.R_drewN|apply Kd.R_drew));exact HO_7.out⟩,⟨by (with_reducible repeat (first|apply Kd.R_alloc|apply Kd.R_drewN|apply Kd.R_drew));exact HO_9.out⟩,⟨by repeat (first|(with_reducible first|exact HB.out|apply sa|apply sn|apply sd)|exact HB.out)⟩⟩
                  · rw [if_neg c36] at H
                    have c36b0 : decide (256 < a1) = false:=decide_eq_false c36;clear c36
                    by_cases c37 : a2 < 1
                    · rw [if_pos c37] at H
                      have c37b0 : decide (a2 < 1) = true:=decide_eq_true c37;clear c37;have H':=am H;clear H
                      go_wp2
                      go_meet
                      case rel => exact ⟨_,(true),(by first|rfl|(simp;done)|(simp [*];done)),H',⟨by have:=HJ3.out;have:=HK2.out;first|omega|exact Nat.le_refl _⟩,⟨by (with_reducible repeat (first|apply Kd.R_alloc|apply Kd.R_drewN|apply Kd.R_drew));exact HO_7.out⟩,⟨by (with_reducible repeat (first|apply Kd.R_alloc|apply Kd.R_drewN|apply Kd.R_drew));exact HO_9.out⟩,⟨by repeat (first|(with_reducible first|exact HB.out|apply sa|apply sn|apply sd)|exact HB.out)⟩⟩
                    · rw [if_neg c37] at H
                      have c37b0 : decide (a2 < 1) = false:=decide_eq_false c37;clear c37
                      by_cases c38 : a2 > 256
                      · rw [if_pos c38] at H
                        have c38b0 : decide (256 < a2) = true:=decide_eq_true c38;clear c38;have H':=am H;clear H
                        go_wp2
                        go_meet
                        case rel => exact ⟨_,(true),(by first|rfl|(simp;done)|(simp [*];done)),H',⟨by have:=HJ3.out;have:=HK2.out;first|omega|exact Nat.le_refl _⟩,⟨by (with_reducible repeat (first|apply Kd.R_alloc|apply Kd.R_drewN|apply Kd.R_drew));exact HO_7.out⟩,⟨by (with_reducible repeat (first|apply Kd.R_alloc|apply Kd.R_drewN|apply Kd.R_drew));exact HO_9.out⟩,⟨by repeat (first|(with_reducible first|exact HB.out|apply sa|apply sn|apply sd)|exact HB.out)⟩⟩
                      · rw [if_neg c38] at H
                        have c38b0 : decide (256 < a2) = false:=decide_eq_false c38;clear c38;have H':=am H;clear H
                        go_wp2
                        go_meet
                        case rel => exact ⟨_,(!x10_2),(by first|rfl|(simp;done)|(simp [*];done)),H',⟨by have:=HJ3.out;have:=HK2.out;first|omega|exact Nat.le_refl _⟩,⟨by (with_reducible repeat (first|apply Kd.R_alloc|apply Kd.R_drewN|apply Kd.R_drew));exact HO_7.out⟩,⟨by (with_reducible repeat (first|apply Kd.R_alloc|apply Kd.R_drewN|apply Kd.R_drew));exact HO_9.out⟩,⟨by repeat (first|(with_reducible first|exact HB.out|apply sa|apply sn|apply sd)|exact HB.out)⟩⟩
              case rest =>
                clear HC34
                try clear c1
                try clear c2
                try clear p2
                try clear q2
                try clear hx2
                try clear c3
                try clear c4
                try clear c5
                try clear c5b0
                try clear c5b1
                try clear c6
                try clear c6b0
                try clear p6
                try clear c7
                try clear c7b0
                try clear c8
                try clear c8b0
                try clear c9
                try clear c9b0
                try clear c10
                try clear c11
                try clear c15
                try clear c15b0
                try clear c16
                try clear c16b0
                try clear c17
                try clear c17b0
                try clear c19
                try clear c20
                try clear p28
                try clear q28
                try clear hx28
                try clear c35
                try clear c35b0
                try clear c36
                try clear c36b0
                try clear c37
                try clear c37b0
                try clear c38
                try clear c38b0
                try clear hcz24_0
                try clear hcz24_1
                try clear hcz24_2
                try clear hcz24_3
                try clear hcz24_4
                try clear hcz24_5
                try clear hcz27_0
                try clear hcz27_1
                try clear hcz27_2
                try clear hcz27_3
                try clear hcz27_4
                try clear hcz27_5
                try clear hcz31_0
                try clear hcz31_1
                try clear hcz31_2
                try clear hcz31_3
                try clear hcz31_4
                try clear hcz31_5
                try clear hfz24_0
                try clear hfz24_1
                try clear hfz24_2
                try clear hfz24_3
                try clear hfz24_4
                try clear hfz24_5
                try clear hfz27_0
                try clear hfz27_1
                try clear hfz27_2
                try clear hfz27_3
                try clear hfz27_4
                try clear hfz27_5
                try clear hfz31_0
                try clear hfz31_1
                try clear hfz31_2
                try clear hfz31_3
                try clear hfz31_4
                try clear hfz31_5
                try clear hx289_0
                try clear hx289_1
                try clear hx289_2
                try clear hx289_3
                try clear hx289_4
                try clear hx289_5
                try clear p2
                try clear p289
                try clear q289
                obtain ⟨kq,x77_33,rfl,HA,HJ33,HO_7,HO_9,HB⟩:=hcut
                cases kq with
                | zero => exact absurd HA.out (by simp [celluloidlaw18_StrokeOwns.j2])
                | succ kj33 =>
                  have H:=HA.out;clear HA;simp only [celluloidlaw18_StrokeOwns.j2] at H
                  by_cases c39 : x77_33 = true
                  · subst c39
                    have H1 : (if (t285.length : Int) = 0 then (if t286 = 1 then ((celluloidlaw18_awake.f kj33).bind fun t307 => (some t307)) else (some false)) else (some false)) = some r:=by rw [if_pos rfl] at H;exact H
                    clear H;have H:=H1;clear H1
                    by_cases c40 : (t285.length : Int) = 0
                    · rw [if_pos c40] at H
                      have c40b0 : ((t285.length : Int) == 0) = true:=beq_iff_eq.mpr c40;have c40b1 : ((t285.length : Int) != 0) = false:=bne_eq_false_iff_eq.mpr c40;clear c40
                      by_cases c41 : t286 = 1
                      · rw [if_pos c41] at H
                        have c41b0 : (t286 == 1) = true:=beq_iff_eq.mpr c41;have c41b1 : (t286 != 1) = false:=bne_eq_false_iff_eq.mpr c41;clear c41;replace H:=Option.bind_eq_some_iff.mp H;obtain ⟨t307,A420,H⟩:=H;replace H : (some t307) = some r:=H;have A42:=am A420;clear A420;obtain rfl:=Option.some.inj H;obtain ⟨Ao43,co43,eo43⟩:=Kd.R_slice HO_7.out;subst eo43
                        go_wp2_with (first|(go_at_call 16;(with_reducible refine (celluloidlaw18_awake.calls kj33  t307 _ A42.out).mono ?_);rintro e w44 ⟨rfl,hb⟩;replace HO_7:=am (Kd.R_below (by (with_reducible repeat (first|apply Kd.R_alloc|apply Kd.R_drewN|apply Kd.R_drew));exact HO_7.out) hb);replace HO_9:=am (Kd.R_below (by (with_reducible repeat (first|apply Kd.R_alloc|apply Kd.R_drewN|apply Kd.R_drew));exact HO_9.out) hb);replace HB:=am (ss (by repeat (first|(with_reducible first|exact HB.out|apply sa|apply sn|apply sd)|exact HB.out)) hb);(try clear hb);(try clear hb2);(try clear hk);(try clear hi)))
                        go_ret
                        exact ⟨by first|rfl|(simp [errW_none,errW_some] <;> rfl)|(simp [*,errW_none,errW_some] <;> rfl),by repeat (first|(with_reducible first|exact HB.out|apply sa|apply sn|apply sd)|exact HB.out)⟩
                      · rw [if_neg c41] at H
                        have c41b0 : (t286 == 1) = false:=beq_eq_false_iff_ne.mpr c41;have c41b1 : (t286 != 1) = true:=bne_iff_ne.mpr c41;obtain rfl:=Option.some.inj H;obtain ⟨Ao45,co45,eo45⟩:=Kd.R_slice HO_7.out;subst eo45
                        go_wp2
                        go_ret
                        exact ⟨by first|rfl|(simp [errW_none,errW_some] <;> rfl)|(simp [*,errW_none,errW_some] <;> rfl),by repeat (first|(with_reducible first|exact HB.out|apply sa|apply sn|apply sd)|exact HB.out)⟩
                    · rw [if_neg c40] at H
                      have c40b0 : ((t285.length : Int) == 0) = false:=beq_eq_false_iff_ne.mpr c40;have c40b1 : ((t285.length : Int) != 0) = true:=bne_iff_ne.mpr c40
                      have c40b2 : ¬ (t285 = []):=fun h_ => c40 (by rw [h_];rfl)
                      obtain rfl:=Option.some.inj H;obtain ⟨Ao46,co46,eo46⟩:=Kd.R_slice HO_7.out;subst eo46
                      go_wp2
                      go_ret
                      exact ⟨by first|rfl|(simp [errW_none,errW_some] <;> rfl)|(simp [*,errW_none,errW_some] <;> rfl),by repeat (first|(with_reducible first|exact HB.out|apply sa|apply sn|apply sd)|exact HB.out)⟩
                  · replace c39:=Bool.eq_false_iff.mpr c39
                    subst c39
                    have H1 : (if t286 = 0 then (celluloidlaw18_StrokeOwns.j3 kj33 a1 a2 t285 x9_2 ((t285.length : Int) != (wrap64 ((wrap64 (16 * a1)) * a2)))) else (celluloidlaw18_StrokeOwns.j3 kj33 a1 a2 t285 x9_2 true)) = some r:=by rw [if_neg (show ¬ (false = true) by decide)] at H;exact H
                    clear H;have H:=H1;clear H1;have HC47:=am H;clear H
                    go_upto_region 14 with (fail)
                    go_cut [98] (fun v98 wc => ∃ (kq : Nat) (x98_46 : Bool),v98 = .bool x98_46 ∧ Aside0 (celluloidlaw18_StrokeOwns.j3 kq a1 a2 t285 x9_2 x98_46 = some r) ∧ Aside0 (kq ≤ kj33) ∧ Aside0 (Kd.R (Kd.int .i64) 3 wc w.heap.size (fun _ => True) v287 t285) ∧ Aside0 (Kd.R k27 27 wc w.heap.size (fun _ => True) u9 x9_2) ∧ Aside0 (Below w.heap.size w wc))
                    case first =>
                      have H:=HC47.out;clear HC47
                      by_cases c48 : t286 = 0
                      · rw [if_pos c48] at H
                        have c48b0 : (t286 == 0) = true:=beq_iff_eq.mpr c48;have c48b1 : (t286 != 0) = false:=bne_eq_false_iff_eq.mpr c48;clear c48
                        (first|rw [c48b0]|(simp only [i64_w,i32_w];rw [c48b0])|skip)
                        have H':=am H;clear H;obtain ⟨Ao49,co49,eo49⟩:=Kd.R_slice HO_7.out;subst eo49
                        go_wp2
                        go_meet
                        case rel => exact ⟨_,(((t285.length : Int) != (wrap64 ((wrap64 (16 * a1)) * a2)))),(by first|rfl|(simp;done)|(simp [*];done)),H',⟨by have:=HJ3.out;have:=HK2.out;have:=HJ33.out;first|omega|exact Nat.le_refl _⟩,⟨by (with_reducible repeat (first|apply Kd.R_alloc|apply Kd.R_drewN|apply Kd.R_drew));exact HO_7.out⟩,⟨by (with_reducible repeat (first|apply Kd.R_alloc|apply Kd.R_drewN|apply Kd.R_drew));exact HO_9.out⟩,⟨by repeat (first|(with_reducible first|exact HB.out|apply sa|apply sn|apply sd)|exact HB.out)⟩⟩
                      · rw [if_neg c48] at H
                        have c48b0 : (t286 == 0) = false:=beq_eq_false_iff_ne.mpr c48;have c48b1 : (t286 != 0) = true:=bne_iff_ne.mpr c48
                        (first|rw [c48b0]|(simp only [i64_w,i32_w];rw [c48b0])|skip)
                        have H':=am H;clear H
                        go_wp2
                        go_meet
                        case rel => exact ⟨_,(true),(by first|rfl|(simp;done)|(simp [*];done)),H',⟨by have:=HJ3.out;have:=HK2.out;have:=HJ33.out;first|omega|exact Nat.le_refl _⟩,⟨by (with_reducible repeat (first|apply Kd.R_alloc|apply Kd.R_drewN|apply Kd.R_drew));exact HO_7.out⟩,⟨by (with_reducible repeat (first|apply Kd.R_alloc|apply Kd.R_drewN|apply Kd.R_drew));exact HO_9.out⟩,⟨by repeat (first|(with_reducible first|exact HB.out|apply sa|apply sn|apply sd)|exact HB.out)⟩⟩
                    case rest =>
                      clear HC47
                      try clear c1
                      try clear c2
                      try clear p2
                      try clear q2
                      try clear hx2
                      try clear c3
                      try clear c4
                      try clear c5
                      try clear c5b0
                      try clear c5b1
                      try clear c6
                      try clear c6b0
                      try clear p6
                      try clear c7
                      try clear c7b0
                      try clear c8
                      try clear c8b0
                      try clear c9
                      try clear c9b0
                      try clear c10
                      try clear c11
                      try clear c15
                      try clear c15b0
                      try clear c16
                      try clear c16b0
                      try clear c17
                      try clear c17b0
                      try clear c19
                      try clear c20
                      try clear p28
                      try clear q28
                      try clear hx28
                      try clear c35
                      try clear c35b0
                      try clear c36
                      try clear c36b0
                      try clear c37
                      try clear c37b0
                      try clear c38
                      try clear c38b0
                      try clear c39
                      try clear c40
                      try clear c40b0
                      try clear c40b1
                      try clear c40b2
                      try clear c41
                      try clear c41b0
                      try clear c41b1
                      try clear c48
                      try clear c48b0
                      try clear c48b1
                      try clear hcz24_0
                      try clear hcz24_1
                      try clear hcz24_2
                      try clear hcz24_3
                      try clear hcz24_4
                      try clear hcz24_5
                      try clear hcz27_0
                      try clear hcz27_1
                      try clear hcz27_2
                      try clear hcz27_3
                      try clear hcz27_4
                      try clear hcz27_5
                      try clear hcz31_0
                      try clear hcz31_1
                      try clear hcz31_2
                      try clear hcz31_3
                      try clear hcz31_4
                      try clear hcz31_5
                      try clear hfz24_0
                      try clear hfz24_1
                      try clear hfz24_2
                      try clear hfz24_3
                      try clear hfz24_4
                      try clear hfz24_5
                      try clear hfz27_0
                      try clear hfz27_1
                      try clear hfz27_2
                      try clear hfz27_3
                      try clear hfz27_4
                      try clear hfz27_5
                      try clear hfz31_0
                      try clear hfz31_1
                      try clear hfz31_2
                      try clear hfz31_3
                      try clear hfz31_4
                      try clear hfz31_5
                      try clear hx289_0
                      try clear hx289_1
                      try clear hx289_2
                      try clear hx289_3
                      try clear hx289_4
                      try clear hx289_5
                      try clear p2
                      try clear p28
                      try clear p289
                      try clear p6
                      try clear q2
                      try clear q28
                      try clear q289
                      obtain ⟨kq,x98_46,rfl,HA,HJ46,HO_7,HO_9,HB⟩:=hcut
                      cases kq with
                      | zero => exact absurd HA.out (by simp [celluloidlaw18_StrokeOwns.j3])
                      | succ kj46 =>
                        have H:=HA.out;clear HA;simp only [celluloidlaw18_StrokeOwns.j3] at H
                        by_cases c50 : x98_46 = true
                        · subst c50
                          have H1 : (some false) = some r:=by rw [if_pos rfl] at H;exact H
                          clear H;have H:=H1;clear H1;obtain rfl:=Option.some.inj H
                          go_wp2
                          go_ret
                          exact ⟨by first|rfl|(simp [errW_none,errW_some] <;> rfl)|(simp [*,errW_none,errW_some] <;> rfl),by repeat (first|(with_reducible first|exact HB.out|apply sa|apply sn|apply sd)|exact HB.out)⟩
                        · replace c50:=Bool.eq_false_iff.mpr c50
                          subst c50
                          have H1 : (celluloidlaw18_StrokeOwns.l1 kj46 a1 a2 t285 x9_2 0) = some r:=by rw [if_neg (show ¬ (false = true) by decide)] at H;exact H
                          clear H;have H:=H1;clear H1;have H':=am H;clear H
                          go_wp2
                          go_loopg [13] kj46 (fun kq v13 w' => ∃ (x13_5 : Int),v13 = .int .i64 x13_5 ∧ Aside0 (celluloidlaw18_StrokeOwns.l1 kq a1 a2 t285 x9_2 x13_5 = some r) ∧ Aside0 (kq ≤ kj46) ∧ Aside0 (Kd.R (Kd.int .i64) 3 w' w.heap.size (fun _ => True) v287 t285) ∧ Aside0 (Kd.R k27 27 w' w.heap.size (fun _ => True) u9 x9_2) ∧ Aside0 (Below w.heap.size w w'))
                          case atStart => exact ⟨(0),(by first|rfl|(simp;done)|(simp [*];done)),H',⟨Nat.le_refl _⟩,⟨by (with_reducible repeat (first|apply Kd.R_alloc|apply Kd.R_drewN|apply Kd.R_drew));exact HO_7.out⟩,⟨by (with_reducible repeat (first|apply Kd.R_alloc|apply Kd.R_drewN|apply Kd.R_drew));exact HO_9.out⟩,⟨by repeat (first|(with_reducible first|exact HB.out|apply sa|apply sn|apply sd)|exact HB.out)⟩⟩
                          case round =>
                            clear H'
                            try clear c1
                            try clear c2
                            try clear p2
                            try clear q2
                            try clear hx2
                            try clear c3
                            try clear c4
                            try clear c5
                            try clear c5b0
                            try clear c5b1
                            try clear c6
                            try clear c6b0
                            try clear p6
                            try clear c7
                            try clear c7b0
                            try clear c8
                            try clear c8b0
                            try clear c9
                            try clear c9b0
                            try clear c10
                            try clear c11
                            try clear c15
                            try clear c15b0
                            try clear c16
                            try clear c16b0
                            try clear c17
                            try clear c17b0
                            try clear c19
                            try clear c20
                            try clear p28
                            try clear q28
                            try clear hx28
                            try clear c35
                            try clear c35b0
                            try clear c36
                            try clear c36b0
                            try clear c37
                            try clear c37b0
                            try clear c38
                            try clear c38b0
                            try clear c39
                            try clear c40
                            try clear c40b0
                            try clear c40b1
                            try clear c40b2
                            try clear c41
                            try clear c41b0
                            try clear c41b1
                            try clear c48
                            try clear c48b0
                            try clear c48b1
                            try clear c50
                            try clear hcz24_0
                            try clear hcz24_1
                            try clear hcz24_2
                            try clear hcz24_3
                            try clear hcz24_4
                            try clear hcz24_5
                            try clear hcz27_0
                            try clear hcz27_1
                            try clear hcz27_2
                            try clear hcz27_3
                            try clear hcz27_4
                            try clear hcz27_5
                            try clear hcz31_0
                            try clear hcz31_1
                            try clear hcz31_2
                            try clear hcz31_3
                            try clear hcz31_4
                            try clear hcz31_5
                            try clear hfz24_0
                            try clear hfz24_1
                            try clear hfz24_2
                            try clear hfz24_3
                            try clear hfz24_4
                            try clear hfz24_5
                            try clear hfz27_0
                            try clear hfz27_1
                            try clear hfz27_2
                            try clear hfz27_3
                            try clear hfz27_4
                            try clear hfz27_5
                            try clear hfz31_0
                            try clear hfz31_1
                            try clear hfz31_2
                            try clear hfz31_3
                            try clear hfz31_4
                            try clear hfz31_5
                            try clear hx289_0
                            try clear hx289_1
                            try clear hx289_2
                            try clear hx289_3
                            try clear hx289_4
                            try clear hx289_5
                            try clear p2
                            try clear p28
                            try clear p289
                            try clear p6
                            try clear q2
                            try clear q28
                            try clear q289
                            obtain ⟨x13_5,rfl,HA,HK5,HO_7,HO_9,HB⟩:=hrel
                            cases gk with
                            | zero => exact absurd HA.out (by simp [celluloidlaw18_StrokeOwns.l1])
                            | succ k5 =>
                              have H:=HA.out;clear HA;simp only [celluloidlaw18_StrokeOwns.l1] at H
                              by_cases c51 : x13_5 < (wrap64 (4 * a2))
                              · rw [if_pos c51] at H
                                have c51b0 : decide (x13_5 < (wrap64 (4 * a2))) = true:=decide_eq_true c51;clear c51;have H':=am H;clear H
                                go_wp2
                                go_loopg [14] k5 (fun kq v14 w' => ∃ (x14_6 : Int),v14 = .int .i64 x14_6 ∧ Aside0 (celluloidlaw18_StrokeOwns.l2 kq a1 a2 t285 x9_2 x13_5 x14_6 = some r) ∧ Aside0 (kq ≤ k5) ∧ Aside0 (Kd.R (Kd.int .i64) 3 w' w.heap.size (fun _ => True) v287 t285) ∧ Aside0 (Kd.R k27 27 w' w.heap.size (fun _ => True) u9 x9_2) ∧ Aside0 (Below w.heap.size w w'))
                                case atStart => exact ⟨(0),(by first|rfl|(simp;done)|(simp [*];done)),H',⟨Nat.le_refl _⟩,⟨by (with_reducible repeat (first|apply Kd.R_alloc|apply Kd.R_drewN|apply Kd.R_drew));exact HO_7.out⟩,⟨by (with_reducible repeat (first|apply Kd.R_alloc|apply Kd.R_drewN|apply Kd.R_drew));exact HO_9.out⟩,⟨by repeat (first|(with_reducible first|exact HB.out|apply sa|apply sn|apply sd)|exact HB.out)⟩⟩
                                case round =>
                                  clear H'
                                  try clear c1
                                  try clear c2
                                  try clear p2
                                  try clear q2
                                  try clear hx2
                                  try clear c3
                                  try clear c4
                                  try clear c5
                                  try clear c5b0
                                  try clear c5b1
                                  try clear c6
                                  try clear c6b0
                                  try clear p6
                                  try clear c7
                                  try clear c7b0
                                  try clear c8
                                  try clear c8b0
                                  try clear c9
                                  try clear c9b0
                                  try clear c10
                                  try clear c11
                                  try clear c15
                                  try clear c15b0
                                  try clear c16
                                  try clear c16b0
                                  try clear c17
                                  try clear c17b0
                                  try clear c19
                                  try clear c20
                                  try clear p28
                                  try clear q28
                                  try clear hx28
                                  try clear c35
                                  try clear c35b0
                                  try clear c36
                                  try clear c36b0
                                  try clear c37
                                  try clear c37b0
                                  try clear c38
                                  try clear c38b0
                                  try clear c39
                                  try clear c40
                                  try clear c40b0
                                  try clear c40b1
                                  try clear c40b2
                                  try clear c41
                                  try clear c41b0
                                  try clear c41b1
                                  try clear c48
                                  try clear c48b0
                                  try clear c48b1
                                  try clear c50
                                  try clear c51
                                  try clear c51b0
                                  try clear hcz24_0
                                  try clear hcz24_1
                                  try clear hcz24_2
                                  try clear hcz24_3
                                  try clear hcz24_4
                                  try clear hcz24_5
                                  try clear hcz27_0
                                  try clear hcz27_1
                                  try clear hcz27_2
                                  try clear hcz27_3
                                  try clear hcz27_4
                                  try clear hcz27_5
                                  try clear hcz31_0
                                  try clear hcz31_1
                                  try clear hcz31_2
                                  try clear hcz31_3
                                  try clear hcz31_4
                                  try clear hcz31_5
                                  try clear hfz24_0
                                  try clear hfz24_1
                                  try clear hfz24_2
                                  try clear hfz24_3
                                  try clear hfz24_4
                                  try clear hfz24_5
                                  try clear hfz27_0
                                  try clear hfz27_1
                                  try clear hfz27_2
                                  try clear hfz27_3
                                  try clear hfz27_4
                                  try clear hfz27_5
                                  try clear hfz31_0
                                  try clear hfz31_1
                                  try clear hfz31_2
                                  try clear hfz31_3
                                  try clear hfz31_4
                                  try clear hfz31_5
                                  try clear hx289_0
                                  try clear hx289_1
                                  try clear hx289_2
                                  try clear hx289_3
                                  try clear hx289_4
                                  try clear hx289_5
                                  try clear p2
                                  try clear p28
                                  try clear p289
                                  try clear p6
                                  try clear q2
                                  try clear q28
                                  try clear q289
                                  obtain ⟨x14_6,rfl,HA,HK6,HO_7,HO_9,HB⟩:=hrel
                                  cases gk with
                                  | zero => exact absurd HA.out (by simp [celluloidlaw18_StrokeOwns.l2])
                                  | succ k6 =>
                                    have H:=HA.out;clear HA;simp only [celluloidlaw18_StrokeOwns.l2] at H
                                    by_cases c52 : x14_6 < (wrap64 (4 * a1))
                                    · rw [if_pos c52] at H
                                      have c52b0 : decide (x14_6 < (wrap64 (4 * a1))) = true:=decide_eq_true c52;clear c52;obtain ⟨ji53,hji53⟩ : ∃ j_ : Int,(wrap64 ((wrap64 ((wrap64 (4 * a1)) * x13_5)) + x14_6)) = j_:=⟨_,rfl⟩
                                      replace H : (if 0 ≤ (ji53) then (if (ji53) < (t285.length : Int) then ((celluloidref18_Owner.f k6 x9_2 (wrap64 ((wrap64 (16 * x14_6)) + 7)) (wrap64 ((wrap64 (16 * x13_5)) + 7))).bind fun t310 => (if (rd t285 (ji53)) = t310 then (celluloidlaw18_StrokeOwns.l2 k6 a1 a2 t285 x9_2 x13_5 (wrap64 (x14_6 + 1))) else (some false))) else (none)) else (none)) = some r:=by first|(rw [hji53] at H;exact H)|(simp only [hji53] at H ⊢;exact H)
                                      have hji53w : (IntKind.i64.wrap ((wrap64 ((wrap64 (4 * a1)) * x13_5)) + x14_6)) = ji53:=(i64_w _).trans hji53
                                      by_cases c54 : 0 ≤ (ji53)
                                      · rw [if_pos c54] at H
                                        have c54b0 : decide (0 ≤ (ji53)) = true:=decide_eq_true c54;clear c54
                                        by_cases c55 : (ji53) < (t285.length : Int)
                                        · rw [if_pos c55] at H
                                          have c55b0 : decide ((ji53) < (t285.length : Int)) = true:=decide_eq_true c55;clear c55;replace H:=Option.bind_eq_some_iff.mp H;obtain ⟨t310,A560,H⟩:=H;replace H : (if (rd t285 (ji53)) = t310 then (celluloidlaw18_StrokeOwns.l2 k6 a1 a2 t285 x9_2 x13_5 (wrap64 (x14_6 + 1))) else (some false)) = some r:=H;have A56:=am A560;clear A560
                                          by_cases c57 : (rd t285 (ji53)) = t310
                                          · rw [if_pos c57] at H
                                            have c57b0 : ((rd t285 (ji53)) == t310) = true:=beq_iff_eq.mpr c57;have c57b1 : ((rd t285 (ji53)) != t310) = false:=bne_eq_false_iff_eq.mpr c57;clear c57;have H':=am H;clear H
                                            try go_wp2
                                            replace HO_7:=am (Kd.R_drew HO_7.out);replace HO_9:=am (Kd.R_drew HO_9.out);replace HB:=am (sd HB.out);obtain ⟨Ao59,co59,eo59⟩:=Kd.R_slice HO_7.out
                                            (first|subst eo59|(injection eo59 with f1_ f2_ f3_;have f4_:=f1_.symm;have f5_:=f3_.symm;clear f1_ f2_ f3_;subst f4_;subst f5_))
                                            have p309 : 0 ≤ ((ji53) : Int):=of_decide_eq_true (by first|(with_reducible assumption)|assumption);have q309 : (ji53) < (t285.length : Int):=of_decide_eq_true (by first|(with_reducible assumption)|assumption);obtain ⟨ad309,e309,hx309_0⟩:=Kd.at_int (Kd.R_reads' HO_7.out).2.2 (ji53) p309 q309
                                            cases e309
                                            replace p309:=eq_true p309;replace q309:=eq_true q309;obtain ⟨Ao60,co60,eo60⟩:=Kd.R_slice HO_9.out
                                            (first|subst eo60|(injection eo60 with f1_ f2_ f3_;have f4_:=f1_.symm;have f5_:=f3_.symm;clear f1_ f2_ f3_;subst f4_;subst f5_))
                                            refine start_ (n:=18) (S:=fun w' => w'.cell? (ad309.add ((ji53)).toNat) = some (.int .i64 (rd t285 (ji53)))) (ds:=[]) #[false,false,false,false,false,false,false,false,false,false,false,false,false,false,false,false,false,false] (by kernel_rfl) rfl rfl (hx309_0) (fun hHeld => ?_);refine with_tabW celluloidlaw18_StrokeOwns.tab22 celluloidlaw18_StrokeOwns.bits22 (fun HT_ HW_ => ?_);generalize wr.drew = w58 at HO_7 HO_9 HB hx309_0 hHeld ⊢;refine pure_ (i:=0) (N:=some 111) (v:=?_) (a':=?_) #[true,false,false,false,false,false,false,false,false,false,false,false,false,false,false,false,false,false] rfl rfl (any_of HT_.out (by kernel_rfl)) (fun _ _ _ h => h) (Or.inl ⟨by rfl,?_⟩) ?_ ?_
                                            rotate_left
                                            · intro w'
                                              go_simp
                                              with_reducible rfl
                                            rotate_left
                                            · simp only [Act.put,q1,q2,q3,i64_w,i32_w]
                                              rfl
                                            refine pure_ (i:=1) (N:=some 112) (v:=?_) (a':=?_) #[true,true,false,false,false,false,false,false,false,false,false,false,false,false,false,false,false,false] rfl rfl (any_of HT_.out (by kernel_rfl)) (fun _ _ _ h => h) (Or.inl ⟨by rfl,?_⟩) ?_ ?_
                                            rotate_left
                                            · intro w'
                                              go_simp
                                              with_reducible rfl
                                            rotate_left
                                            · simp only [Act.put,q1,q2,q3,i64_w,i32_w]
                                              rfl
                                            refine pure_ (i:=2) (N:=some 113) (v:=?_) (a':=?_) #[true,true,true,false,false,false,false,false,false,false,false,false,false,false,false,false,false,false] rfl rfl (any_of HT_.out (by kernel_rfl)) (fun _ _ _ h => h) (Or.inl ⟨by rfl,?_⟩) ?_ ?_
                                            rotate_left
                                            · intro w'
                                              go_simp
                                              with_reducible rfl
                                            rotate_left
                                            · simp only [Act.put,q1,q2,q3,i64_w,i32_w]
                                              rfl
                                            refine pure_ (i:=3) (N:=some 114) (v:=?_) (a':=?_) #[true,true,true,true,false,false,false,false,false,false,false,false,false,false,false,false,false,false] rfl rfl (any_of HT_.out (by kernel_rfl)) (fun _ _ _ h => h) (Or.inl ⟨by rfl,?_⟩) ?_ ?_
                                            rotate_left
                                            · intro w'
                                              go_simp
                                              with_reducible rfl
                                            rotate_left
                                            · simp only [Act.put,q1,q2,q3,i64_w,i32_w]
                                              rfl
                                            refine pure_ (i:=4) (N:=some 115) (v:=?_) (a':=?_) #[true,true,true,true,true,false,false,false,false,false,false,false,false,false,false,false,false,false] rfl rfl (any_of HT_.out (by kernel_rfl)) (fun _ _ _ h => h) (Or.inl ⟨by rfl,?_⟩) ?_ ?_
                                            rotate_left
                                            · intro w'
                                              go_simp
                                              with_reducible rfl
                                            rotate_left
                                            · simp only [Act.put,q1,q2,q3,i64_w,i32_w]
                                              rfl
                                            refine pure_ (i:=5) (N:=some 116) (v:=?_) (a':=?_) #[true,true,true,true,true,true,false,false,false,false,false,false,false,false,false,false,false,false] rfl rfl (any_of HT_.out (by kernel_rfl)) (fun _ _ _ h => h) (Or.inl ⟨by rfl,?_⟩) ?_ ?_
                                            rotate_left
                                            · intro w'
                                              go_simp
                                              with_reducible rfl
                                            rotate_left
                                            · simp only [Act.put,q1,q2,q3,i64_w,i32_w]
                                              rfl
                                            refine pure_ (i:=6) (N:=some 117) (v:=?_) (a':=?_) #[true,true,true,true,true,true,true,false,false,false,false,false,false,false,false,false,false,false] rfl rfl (any_of HT_.out (by kernel_rfl)) (fun _ _ _ h => h) (Or.inl ⟨by rfl,?_⟩) ?_ ?_
                                            rotate_left
                                            · intro w'
                                              go_simp
                                              with_reducible rfl
                                            rotate_left
                                            · simp only [Act.put,q1,q2,q3,i64_w,i32_w]
                                              rfl
                                            refine pure_ (i:=7) (N:=some 118) (v:=?_) (a':=?_) #[true,true,true,true,true,true,true,true,false,false,false,false,false,false,false,false,false,false] rfl rfl (any_of HT_.out (by kernel_rfl)) (fun _ _ _ h => h) (Or.inl ⟨by rfl,?_⟩) ?_ ?_
                                            rotate_left
                                            · intro w'
                                              go_simp
                                              with_reducible rfl
                                            rotate_left
                                            · simp only [Act.put,q1,q2,q3,i64_w,i32_w]
                                              rfl
                                            refine pure_ (i:=9) (N:=some 120) (v:=?_) (a':=?_) #[true,true,true,true,true,true,true,true,false,true,false,false,false,false,false,false,false,false] rfl rfl (any_of HT_.out (by kernel_rfl)) (fun _ _ _ h => h) (Or.inl ⟨by rfl,?_⟩) ?_ ?_
                                            rotate_left
                                            · intro w'
                                              go_simp
                                              with_reducible rfl
                                            rotate_left
                                            · simp only [Act.put,q1,q2,q3,i64_w,i32_w]
                                              rfl
                                            refine pure_ (i:=10) (N:=some 121) (v:=?_) (a':=?_) #[true,true,true,true,true,true,true,true,false,true,true,false,false,false,false,false,false,false] rfl rfl (any_of HT_.out (by kernel_rfl)) (fun _ _ _ h => h) (Or.inl ⟨by rfl,?_⟩) ?_ ?_
                                            rotate_left
                                            · intro w'
                                              go_simp
                                              with_reducible rfl
                                            rotate_left
                                            · simp only [Act.put,q1,q2,q3,i64_w,i32_w]
                                              rfl
                                            refine pure_ (i:=11) (N:=some 122) (v:=?_) (a':=?_) #[true,true,true,true,true,true,true,true,false,true,true,true,false,false,false,false,false,false] rfl rfl (any_of HT_.out (by kernel_rfl)) (fun _ _ _ h => h) (Or.inl ⟨by rfl,?_⟩) ?_ ?_
                                            rotate_left
                                            · intro w'
                                              go_simp
                                              with_reducible rfl
                                            rotate_left
                                            · simp only [Act.put,q1,q2,q3,i64_w,i32_w]
                                              rfl
                                            refine pure_ (i:=12) (N:=some 123) (v:=?_) (a':=?_) #[true,true,true,true,true,true,true,true,false,true,true,true,true,false,false,false,false,false] rfl rfl (any_of HT_.out (by kernel_rfl)) (fun _ _ _ h => h) (Or.inl ⟨by rfl,?_⟩) ?_ ?_
                                            rotate_left
                                            · intro w'
                                              go_simp
                                              with_reducible rfl
                                            rotate_left
                                            · simp only [Act.put,q1,q2,q3,i64_w,i32_w]
                                              rfl
                                            refine pure_ (i:=13) (N:=some 124) (v:=?_) (a':=?_) #[true,true,true,true,true,true,true,true,false,true,true,true,true,true,false,false,false,false] rfl rfl (any_of HT_.out (by kernel_rfl)) (fun _ _ _ h => h) (Or.inl ⟨by rfl,?_⟩) ?_ ?_
                                            rotate_left
                                            · intro w'
                                              go_simp
                                              with_reducible rfl
                                            rotate_left
                                            · simp only [Act.put,q1,q2,q3,i64_w,i32_w]
                                              rfl
                                            refine pure_ (i:=14) (N:=some 125) (v:=?_) (a':=?_) #[true,true,true,true,true,true,true,true,false,true,true,true,true,true,true,false,false,false] rfl rfl (any_of HT_.out (by kernel_rfl)) (fun _ _ _ h => h) (Or.inl ⟨by rfl,?_⟩) ?_ ?_
                                            rotate_left
                                            · intro w'
                                              go_simp
                                              with_reducible rfl
                                            rotate_left
                                            · simp only [Act.put,q1,q2,q3,i64_w,i32_w]
                                              rfl
                                            refine pure_ (i:=15) (N:=some 126) (v:=?_) (a':=?_) #[true,true,true,true,true,true,true,true,false,true,true,true,true,true,true,true,false,false] rfl rfl (any_of HT_.out (by kernel_rfl)) (fun _ _ _ h => h) (Or.inl ⟨by rfl,?_⟩) ?_ ?_
                                            rotate_left
                                            · intro w'
                                              go_simp
                                              with_reducible rfl
                                            rotate_left
                                            · simp only [Act.put,q1,q2,q3,i64_w,i32_w]
                                              rfl
                                            refine take_ (i:=8) (N:=some 119) (v:=?_) (a':=?_) #[true,true,true,true,true,true,true,true,true,true,true,true,true,true,true,true,false,false] rfl rfl (take_ofW HT_.out HW_.out (by kernel_rfl)) (fun _ _ _ h => h) (Or.inl ⟨by rfl,?_⟩) hHeld ?_ ?_
                                            rotate_left
                                            · intro w' s0
                                              go_simp
                                              with_reducible rfl
                                            rotate_left
                                            · simp only [Act.put,q1,q2,q3,i64_w,i32_w]
                                              rfl
                                            refine one_ (i:=16) (N:=some 127) #[true,true,true,true,true,true,true,true,true,true,true,true,true,true,true,true,true,false] rfl rfl (one_of HT_.out (by kernel_rfl)) (by decide) (fun K hK => ?_);refine goes_ Try.func18 (by kernel_rfl) rfl #[.slice Ao60 x9_2.length co60,.int .i64 (wrap64 ((wrap64 (16 * x14_6)) + 7)),.int .i64 (wrap64 ((wrap64 (16 * x13_5)) + 7))] (by rfl) rfl rfl (by (try simp only [List.map_toArray,List.map_cons,List.map_nil]);first|done|rfl|(simp only [List.length_drop,List.length_take];rfl)) ?_
                                            with_reducible refine (celluloidref18_Owner.calls k6 _ _ x9_2 (wrap64 ((wrap64 (16 * x14_6)) + 7)) (wrap64 ((wrap64 (16 * x13_5)) + 7)) t310 _ ?side1 ?side2 A56.out).mono ?_
                                            (case side1 => repeat (first|exact (Kd.R_reads' HO_9.out).2.2|(with_reducible refine Kd.C_alloc ?_ _)|(with_reducible refine Kd.C_drewN ?_ _)|(with_reducible refine Kd.C_drew ?_)))
                                            (case side2 => exact (Kd.R_reads' HO_9.out).2.1)
                                            rintro e w61 ⟨rfl,hb⟩
                                            have HS0_:=(hb.cell (World.block_lt_of_cell? _ _ (hHeld))).trans (hHeld);refine ⟨_,rfl,?_⟩;replace HO_7:=am (Kd.R_below (by (with_reducible repeat (first|apply Kd.R_alloc|apply Kd.R_drewN|apply Kd.R_drew));exact HO_7.out) hb);replace HO_9:=am (Kd.R_below (by (with_reducible repeat (first|apply Kd.R_alloc|apply Kd.R_drewN|apply Kd.R_drew));exact HO_9.out) hb);replace HB:=am (ss (by repeat (first|(with_reducible first|exact HB.out|apply sa|apply sn|apply sd)|exact HB.out)) hb);(try clear hb);(try clear hb2);(try clear hk);(try clear hi);refine hK.out _ _ (HS0_) (fun hHeld => ?_);clear hK K;refine norm_ (a':=?_) ?_ ?_
                                            rotate_left
                                            · show Act.put _ (some 127) _ = _
                                              simp only [Act.put,q1,q2,q3,i64_w,i32_w]
                                              rfl
                                            refine pure_ (i:=17) (N:=some 128) (v:=?_) (a':=?_) #[true,true,true,true,true,true,true,true,true,true,true,true,true,true,true,true,true,true] rfl rfl (any_of HT_.out (by kernel_rfl)) (fun _ _ _ h => h) (Or.inl ⟨by rfl,?_⟩) ?_ ?_
                                            rotate_left
                                            · intro w'
                                              go_simp
                                              with_reducible rfl
                                            rotate_left
                                            · simp only [Act.put,q1,q2,q3,i64_w,i32_w]
                                              rfl
                                            refine done_ (done_of HT_.out (by kernel_rfl)) ?_
                                            try go_wp2
                                            go_roundg k6
                                            case measure => have:=HJ3.out;have:=HK2.out;have:=HJ33.out;have:=HJ46.out;have:=HK5.out;have:=HK6.out;omega
                                            case rel => exact ⟨(wrap64 (x14_6 + 1)),(by first|rfl|(simp;done)|(simp [*];done)),H',⟨by have:=HJ3.out;have:=HK2.out;have:=HJ33.out;have:=HJ46.out;have:=HK5.out;have:=HK6.out;omega⟩,⟨by (with_reducible repeat (first|apply Kd.R_alloc|apply Kd.R_drewN|apply Kd.R_drew));exact HO_7.out⟩,⟨by (with_reducible repeat (first|apply Kd.R_alloc|apply Kd.R_drewN|apply Kd.R_drew));exact HO_9.out⟩,⟨by repeat (first|(with_reducible first|exact HB.out|apply sa|apply sn|apply sd)|exact HB.out)⟩⟩
                                          · rw [if_neg c57] at H
                                            have c57b0 : ((rd t285 (ji53)) == t310) = false:=beq_eq_false_iff_ne.mpr c57;have c57b1 : ((rd t285 (ji53)) != t310) = true:=bne_iff_ne.mpr c57;obtain rfl:=Option.some.inj H
                                            try go_wp2
                                            replace HO_7:=am (Kd.R_drew HO_7.out);replace HO_9:=am (Kd.R_drew HO_9.out);replace HB:=am (sd HB.out);obtain ⟨Ao63,co63,eo63⟩:=Kd.R_slice HO_7.out
                                            (first|subst eo63|(injection eo63 with f1_ f2_ f3_;have f4_:=f1_.symm;have f5_:=f3_.symm;clear f1_ f2_ f3_;subst f4_;subst f5_))
                                            have p309 : 0 ≤ ((ji53) : Int):=of_decide_eq_true (by first|(with_reducible assumption)|assumption);have q309 : (ji53) < (t285.length : Int):=of_decide_eq_true (by first|(with_reducible assumption)|assumption);obtain ⟨ad309,e309,hx309_0⟩:=Kd.at_int (Kd.R_reads' HO_7.out).2.2 (ji53) p309 q309
                                            cases e309
                                            replace p309:=eq_true p309;replace q309:=eq_true q309;obtain ⟨Ao64,co64,eo64⟩:=Kd.R_slice HO_9.out
                                            (first|subst eo64|(injection eo64 with f1_ f2_ f3_;have f4_:=f1_.symm;have f5_:=f3_.symm;clear f1_ f2_ f3_;subst f4_;subst f5_))
                                            refine start_ (n:=18) (S:=fun w' => w'.cell? (ad309.add ((ji53)).toNat) = some (.int .i64 (rd t285 (ji53)))) (ds:=[]) #[false,false,false,false,false,false,false,false,false,false,false,false,false,false,false,false,false,false] (by kernel_rfl) rfl rfl (hx309_0) (fun hHeld => ?_);refine with_tabW celluloidlaw18_StrokeOwns.tab22 celluloidlaw18_StrokeOwns.bits22 (fun HT_ HW_ => ?_);generalize wr.drew = w62 at HO_7 HO_9 HB hx309_0 hHeld ⊢;refine pure_ (i:=0) (N:=some 111) (v:=?_) (a':=?_) #[true,false,false,false,false,false,false,false,false,false,false,false,false,false,false,false,false,false] rfl rfl (any_of HT_.out (by kernel_rfl)) (fun _ _ _ h => h) (Or.inl ⟨by rfl,?_⟩) ?_ ?_
                                            rotate_left
                                            · intro w'
                                              go_simp
                                              with_reducible rfl
                                            rotate_left
                                            · simp only [Act.put,q1,q2,q3,i64_w,i32_w]
                                              rfl
                                            refine pure_ (i:=1) (N:=some 112) (v:=?_) (a':=?_) #[true,true,false,false,false,false,false,false,false,false,false,false,false,false,false,false,false,false] rfl rfl (any_of HT_.out (by kernel_rfl)) (fun _ _ _ h => h) (Or.inl ⟨by rfl,?_⟩) ?_ ?_
                                            rotate_left
                                            · intro w'
                                              go_simp
                                              with_reducible rfl
                                            rotate_left
                                            · simp only [Act.put,q1,q2,q3,i64_w,i32_w]
                                              rfl
                                            refine pure_ (i:=2) (N:=some 113) (v:=?_) (a':=?_) #[true,true,true,false,false,false,false,false,false,false,false,false,false,false,false,false,false,false] rfl rfl (any_of HT_.out (by kernel_rfl)) (fun _ _ _ h => h) (Or.inl ⟨by rfl,?_⟩) ?_ ?_
                                            rotate_left
                                            · intro w'
                                              go_simp
                                              with_reducible rfl
                                            rotate_left
                                            · simp only [Act.put,q1,q2,q3,i64_w,i32_w]
                                              rfl
                                            refine pure_ (i:=3) (N:=some 114) (v:=?_) (a':=?_) #[true,true,true,true,false,false,false,false,false,false,false,false,false,false,false,false,false,false] rfl rfl (any_of HT_.out (by kernel_rfl)) (fun _ _ _ h => h) (Or.inl ⟨by rfl,?_⟩) ?_ ?_
                                            rotate_left
                                            · intro w'
                                              go_simp
                                              with_reducible rfl
                                            rotate_left
                                            · simp only [Act.put,q1,q2,q3,i64_w,i32_w]
                                              rfl
                                            refine pure_ (i:=4) (N:=some 115) (v:=?_) (a':=?_) #[true,true,true,true,true,false,false,false,false,false,false,false,false,false,false,false,false,false] rfl rfl (any_of HT_.out (by kernel_rfl)) (fun _ _ _ h => h) (Or.inl ⟨by rfl,?_⟩) ?_ ?_
                                            rotate_left
                                            · intro w'
                                              go_simp
                                              with_reducible rfl
                                            rotate_left
                                            · simp only [Act.put,q1,q2,q3,i64_w,i32_w]
                                              rfl
                                            refine pure_ (i:=5) (N:=some 116) (v:=?_) (a':=?_) #[true,true,true,true,true,true,false,false,false,false,false,false,false,false,false,false,false,false] rfl rfl (any_of HT_.out (by kernel_rfl)) (fun _ _ _ h => h) (Or.inl ⟨by rfl,?_⟩) ?_ ?_
                                            rotate_left
                                            · intro w'
                                              go_simp
                                              with_reducible rfl
                                            rotate_left
                                            · simp only [Act.put,q1,q2,q3,i64_w,i32_w]
                                              rfl
                                            refine pure_ (i:=6) (N:=some 117) (v:=?_) (a':=?_) #[true,true,true,true,true,true,true,false,false,false,false,false,false,false,false,false,false,false] rfl rfl (any_of HT_.out (by kernel_rfl)) (fun _ _ _ h => h) (Or.inl ⟨by rfl,?_⟩) ?_ ?_
                                            rotate_left
                                            · intro w'
                                              go_simp
                                              with_reducible rfl
                                            rotate_left
                                            · simp only [Act.put,q1,q2,q3,i64_w,i32_w]
                                              rfl
                                            refine pure_ (i:=7) (N:=some 118) (v:=?_) (a':=?_) #[true,true,true,true,true,true,true,true,false,false,false,false,false,false,false,false,false,false] rfl rfl (any_of HT_.out (by kernel_rfl)) (fun _ _ _ h => h) (Or.inl ⟨by rfl,?_⟩) ?_ ?_
                                            rotate_left
                                            · intro w'
                                              go_simp
                                              with_reducible rfl
                                            rotate_left
                                            · simp only [Act.put,q1,q2,q3,i64_w,i32_w]
                                              rfl
                                            refine pure_ (i:=9) (N:=some 120) (v:=?_) (a':=?_) #[true,true,true,true,true,true,true,true,false,true,false,false,false,false,false,false,false,false] rfl rfl (any_of HT_.out (by kernel_rfl)) (fun _ _ _ h => h) (Or.inl ⟨by rfl,?_⟩) ?_ ?_
                                            rotate_left
                                            · intro w'
                                              go_simp
                                              with_reducible rfl
                                            rotate_left
                                            · simp only [Act.put,q1,q2,q3,i64_w,i32_w]
                                              rfl
                                            refine pure_ (i:=10) (N:=some 121) (v:=?_) (a':=?_) #[true,true,true,true,true,true,true,true,false,true,true,false,false,false,false,false,false,false] rfl rfl (any_of HT_.out (by kernel_rfl)) (fun _ _ _ h => h) (Or.inl ⟨by rfl,?_⟩) ?_ ?_
                                            rotate_left
                                            · intro w'
                                              go_simp
                                              with_reducible rfl
                                            rotate_left
                                            · simp only [Act.put,q1,q2,q3,i64_w,i32_w]
                                              rfl
                                            refine pure_ (i:=11) (N:=some 122) (v:=?_) (a':=?_) #[true,true,true,true,true,true,true,true,false,true,true,true,false,false,false,false,false,false] rfl rfl (any_of HT_.out (by kernel_rfl)) (fun _ _ _ h => h) (Or.inl ⟨by rfl,?_⟩) ?_ ?_
                                            rotate_left
                                            · intro w'
                                              go_simp
                                              with_reducible rfl
                                            rotate_left
                                            · simp only [Act.put,q1,q2,q3,i64_w,i32_w]
                                              rfl
                                            refine pure_ (i:=12) (N:=some 123) (v:=?_) (a':=?_) #[true,true,true,true,true,true,true,true,false,true,true,true,true,false,false,false,false,false] rfl rfl (any_of HT_.out (by kernel_rfl)) (fun _ _ _ h => h) (Or.inl ⟨by rfl,?_⟩) ?_ ?_
                                            rotate_left
                                            · intro w'
                                              go_simp
                                              with_reducible rfl
                                            rotate_left
                                            · simp only [Act.put,q1,q2,q3,i64_w,i32_w]
                                              rfl
                                            refine pure_ (i:=13) (N:=some 124) (v:=?_) (a':=?_) #[true,true,true,true,true,true,true,true,false,true,true,true,true,true,false,false,false,false] rfl rfl (any_of HT_.out (by kernel_rfl)) (fun _ _ _ h => h) (Or.inl ⟨by rfl,?_⟩) ?_ ?_
                                            rotate_left
                                            · intro w'
                                              go_simp
                                              with_reducible rfl
                                            rotate_left
                                            · simp only [Act.put,q1,q2,q3,i64_w,i32_w]
                                              rfl
                                            refine pure_ (i:=14) (N:=some 125) (v:=?_) (a':=?_) #[true,true,true,true,true,true,true,true,false,true,true,true,true,true,true,false,false,false] rfl rfl (any_of HT_.out (by kernel_rfl)) (fun _ _ _ h => h) (Or.inl ⟨by rfl,?_⟩) ?_ ?_
                                            rotate_left
                                            · intro w'
                                              go_simp
                                              with_reducible rfl
                                            rotate_left
                                            · simp only [Act.put,q1,q2,q3,i64_w,i32_w]
                                              rfl
                                            refine pure_ (i:=15) (N:=some 126) (v:=?_) (a':=?_) #[true,true,true,true,true,true,true,true,false,true,true,true,true,true,true,true,false,false] rfl rfl (any_of HT_.out (by kernel_rfl)) (fun _ _ _ h => h) (Or.inl ⟨by rfl,?_⟩) ?_ ?_
                                            rotate_left
                                            · intro w'
                                              go_simp
                                              with_reducible rfl
                                            rotate_left
                                            · simp only [Act.put,q1,q2,q3,i64_w,i32_w]
                                              rfl
                                            refine take_ (i:=8) (N:=some 119) (v:=?_) (a':=?_) #[true,true,true,true,true,true,true,true,true,true,true,true,true,true,true,true,false,false] rfl rfl (take_ofW HT_.out HW_.out (by kernel_rfl)) (fun _ _ _ h => h) (Or.inl ⟨by rfl,?_⟩) hHeld ?_ ?_
                                            rotate_left
                                            · intro w' s0
                                              go_simp
                                              with_reducible rfl
                                            rotate_left
                                            · simp only [Act.put,q1,q2,q3,i64_w,i32_w]
                                              rfl
                                            refine one_ (i:=16) (N:=some 127) #[true,true,true,true,true,true,true,true,true,true,true,true,true,true,true,true,true,false] rfl rfl (one_of HT_.out (by kernel_rfl)) (by decide) (fun K hK => ?_);refine goes_ Try.func18 (by kernel_rfl) rfl #[.slice Ao64 x9_2.length co64,.int .i64 (wrap64 ((wrap64 (16 * x14_6)) + 7)),.int .i64 (wrap64 ((wrap64 (16 * x13_5)) + 7))] (by rfl) rfl rfl (by (try simp only [List.map_toArray,List.map_cons,List.map_nil]);first|done|rfl|(simp only [List.length_drop,List.length_take];rfl)) ?_
                                            with_reducible refine (celluloidref18_Owner.calls k6 _ _ x9_2 (wrap64 ((wrap64 (16 * x14_6)) + 7)) (wrap64 ((wrap64 (16 * x13_5)) + 7)) t310 _ ?side1 ?side2 A56.out).mono ?_
                                            (case side1 => repeat (first|exact (Kd.R_reads' HO_9.out).2.2|(with_reducible refine Kd.C_alloc ?_ _)|(with_reducible refine Kd.C_drewN ?_ _)|(with_reducible refine Kd.C_drew ?_)))
                                            (case side2 => exact (Kd.R_reads' HO_9.out).2.1)
                                            rintro e w65 ⟨rfl,hb⟩
                                            have HS0_:=(hb.cell (World.block_lt_of_cell? _ _ (hHeld))).trans (hHeld);refine ⟨_,rfl,?_⟩;replace HO_7:=am (Kd.R_below (by (with_reducible repeat (first|apply Kd.R_alloc|apply Kd.R_drewN|apply Kd.R_drew));exact HO_7.out) hb);replace HO_9:=am (Kd.R_below (by (with_reducible repeat (first|apply Kd.R_alloc|apply Kd.R_drewN|apply Kd.R_drew));exact HO_9.out) hb);replace HB:=am (ss (by repeat (first|(with_reducible first|exact HB.out|apply sa|apply sn|apply sd)|exact HB.out)) hb);(try clear hb);(try clear hb2);(try clear hk);(try clear hi);refine hK.out _ _ (HS0_) (fun hHeld => ?_);clear hK K;refine norm_ (a':=?_) ?_ ?_
                                            rotate_left
                                            · show Act.put _ (some 127) _ = _
                                              simp only [Act.put,q1,q2,q3,i64_w,i32_w]
                                              rfl
                                            refine pure_ (i:=17) (N:=some 128) (v:=?_) (a':=?_) #[true,true,true,true,true,true,true,true,true,true,true,true,true,true,true,true,true,true] rfl rfl (any_of HT_.out (by kernel_rfl)) (fun _ _ _ h => h) (Or.inl ⟨by rfl,?_⟩) ?_ ?_
                                            rotate_left
                                            · intro w'
                                              go_simp
                                              with_reducible rfl
                                            rotate_left
                                            · simp only [Act.put,q1,q2,q3,i64_w,i32_w]
                                              rfl
                                            refine done_ (done_of HT_.out (by kernel_rfl)) ?_
                                            try go_wp2
                                            go_ret
                                            exact ⟨by first|rfl|(simp [errW_none,errW_some] <;> rfl)|(simp only [← hji53];first|rfl|(simp [errW_none,errW_some] <;> rfl))|(simp [*,errW_none,errW_some] <;> rfl),by repeat (first|(with_reducible first|exact HB.out|apply sa|apply sn|apply sd)|exact HB.out)⟩
                                        · rw [if_neg c55] at H
                                          exact absurd H (by simp)
                                      · rw [if_neg c54] at H
                                        exact absurd H (by simp)
                                    · rw [if_neg c52] at H
                                      have c52b0 : decide (x14_6 < (wrap64 (4 * a1))) = false:=decide_eq_false c52;clear c52;have H':=am H;clear H
                                      go_wp2
                                      go_roundg k6
                                      case measure => have:=HJ3.out;have:=HK2.out;have:=HJ33.out;have:=HJ46.out;have:=HK5.out;have:=HK6.out;omega
                                      case rel => exact ⟨(wrap64 (x13_5 + 1)),(by first|rfl|(simp;done)|(simp [*];done)),H',⟨by have:=HJ3.out;have:=HK2.out;have:=HJ33.out;have:=HJ46.out;have:=HK5.out;have:=HK6.out;omega⟩,⟨by (with_reducible repeat (first|apply Kd.R_alloc|apply Kd.R_drewN|apply Kd.R_drew));exact HO_7.out⟩,⟨by (with_reducible repeat (first|apply Kd.R_alloc|apply Kd.R_drewN|apply Kd.R_drew));exact HO_9.out⟩,⟨by repeat (first|(with_reducible first|exact HB.out|apply sa|apply sn|apply sd)|exact HB.out)⟩⟩
                              · rw [if_neg c51] at H
                                have c51b0 : decide (x13_5 < (wrap64 (4 * a2))) = false:=decide_eq_false c51;clear c51;replace H:=Option.bind_eq_some_iff.mp H;obtain ⟨t308,A660,H⟩:=H;replace H : (some t308) = some r:=H;have A66:=am A660;clear A660;obtain rfl:=Option.some.inj H
                                go_wp2_with (first|((with_reducible refine gate_callee (f:=16) rfl ?_);refine goesL_ (some 129) rfl rfl Try.func16 (by kernel_rfl) rfl #[] rfl (by (try simp only [List.map_toArray,List.map_cons,List.map_nil]);first|done|rfl|(simp only [List.length_drop,List.length_take];rfl)) ?_;(with_reducible refine (celluloidlaw18_awake.calls k5  t308 _ A66.out).mono ?_);rintro e w67 ⟨rfl,hb⟩;refine ⟨_,rfl,?_⟩;replace HO_7:=am (Kd.R_below (by (with_reducible repeat (first|apply Kd.R_alloc|apply Kd.R_drewN|apply Kd.R_drew));exact HO_7.out) hb);replace HO_9:=am (Kd.R_below (by (with_reducible repeat (first|apply Kd.R_alloc|apply Kd.R_drewN|apply Kd.R_drew));exact HO_9.out) hb);replace HB:=am (ss (by repeat (first|(with_reducible first|exact HB.out|apply sa|apply sn|apply sd)|exact HB.out)) hb);(try clear hb);(try clear hb2);(try clear hk);(try clear hi)))
                                go_ret
                                exact ⟨by first|rfl|(simp [errW_none,errW_some] <;> rfl)|(simp [*,errW_none,errW_some] <;> rfl),by repeat (first|(with_reducible first|exact HB.out|apply sa|apply sn|apply sd)|exact HB.out)⟩

end Go.Proofs.Ytnofihkmgedbfaa.P
