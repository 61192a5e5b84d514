/- Printed by printx.py (wip/tool) out of the translation: plain functions that tell what the program answers,and the proofs that the program comes to these answers,for all arguments of their kinds. Lean checks it. -/
import Derived.Test.YtnofihkmgedbfaaShort
import Derived.Test.YtnofihkmgedbfaaPx0
import Derived.Test.YtnofihkmgedbfaaPx3
namespace Go.Proofs.Ytnofihkmgedbfaa.P
open Go.RowKit Go.Proofs.YtnofihkmgedbfaaW.PrintWords Go.Proofs.YtnofihkmgedbfaaW.PrintLast Go.Proofs.YtnofihkmgedbfaaW.PrintMore
attribute [local go_sem] max2_int min2_int max_two min_two max_three min_three max_four min_four max_five min_five max_six min_six   -- for this text's walks alone
set_option linter.unusedVariables false
set_option linter.unusedSimpArgs false

/-! ### stroke_Owners: function 17 -/
mutual
def stroke_Owners.j0 : Nat → List (S25) → Int → Int → Bool → Option (List Int × Int)
  | 0,_,_,_,_ => none
  | k + 1,x0,x1,x2,x33 => if x33 = true then (some (([] : List Int),1)) else (if 0 ≤ (wrap64 ((wrap64 (4 * x1)) * (wrap64 (4 * x2)))) then (if (wrap64 ((wrap64 (4 * x1)) * (wrap64 (4 * x2))) : Int).toNat ≤ 35184372088832 then (stroke_Owners.l0 k (wrap64 (4 * x1)) (wrap64 (4 * x2)) (List.replicate (wrap64 ((wrap64 (4 * x1)) * (wrap64 (4 * x2))) : Int).toNat 0) x0 (x0.length : Int) 0) else (none)) else (none))
def stroke_Owners.l0 : Nat → Int → Int → List Int → List (S25) → Int → Int → Option (List Int × Int)
  | 0,_,_,_,_,_,_ => none
  | k + 1,x8,x9,x10,x42,x43,x44 => if x44 < x43 then (if 0 ≤ x44 then (if x44 < (x42.length : Int) then ((stroke_reach.f ((rd_T25 x42 x44).f0.f0) ((rd_T25 x42 x44).f1.f0) ((rd_T25 x42 x44).f3) x8).bind fun bt194 => ((stroke_reach.f ((rd_T25 x42 x44).f0.f1) ((rd_T25 x42 x44).f1.f1) ((rd_T25 x42 x44).f3) x9).bind fun bt196 => (stroke_Owners.l1 k x8 x9 x10 bt194.1 bt194.2 bt196.2 bt196.1 x42 x43 x44 ((rd_T25 x42 x44).f0.f0) ((rd_T25 x42 x44).f0.f1) ((rd_T25 x42 x44).f1.f0) ((rd_T25 x42 x44).f1.f1) ((rd_T25 x42 x44).f2) ((rd_T25 x42 x44).f3)))) else (none)) else (none)) else (some (x10,0))
def stroke_Owners.l1 : Nat → Int → Int → List Int → Int → Int → Int → Int → List (S25) → Int → Int → Int → Int → Int → Int → Int → Int → Option (List Int × Int)
  | 0,_,_,_,_,_,_,_,_,_,_,_,_,_,_,_,_ => none
  | k + 1,x8,x9,x10,x13,x14,x16,x17,x42,x43,x44,x194000,x194001,x194002,x194003,x194004,x194005 => if x17 < x16 then (stroke_Owners.l2 k x8 x9 x10 x13 x14 x16 x17 x13 x42 x43 x44 x194000 x194001 x194002 x194003 x194004 x194005) else (stroke_Owners.l0 k x8 x9 x10 x42 x43 (wrap64 (x44 + 1)))
def stroke_Owners.l2 : Nat → Int → Int → List Int → Int → Int → Int → Int → Int → List (S25) → Int → Int → Int → Int → Int → Int → Int → Int → Option (List Int × Int)
  | 0,_,_,_,_,_,_,_,_,_,_,_,_,_,_,_,_,_ => none
  | k + 1,x8,x9,x10,x13,x14,x16,x17,x18,x42,x43,x44,x194000,x194001,x194002,x194003,x194004,x194005 => if x18 < x14 then (if 0 ≤ (wrap64 ((wrap64 (x17 * x8)) + x18)) then (if (wrap64 ((wrap64 (x17 * x8)) + x18)) < (x10.length : Int) then (if (rd x10 (wrap64 ((wrap64 (x17 * x8)) + x18))) < x194004 then ((stroke_near.f x194000 x194001 x194002 x194003 x194004 x194005 (wrap64 ((wrap64 (16 * x18)) + 7)) (wrap64 ((wrap64 (16 * x17)) + 7))).bind fun t199 => (if t199 = true then (stroke_Owners.l2 k x8 x9 (x10.set ((wrap64 ((wrap64 (x17 * x8)) + x18)) : Int).toNat x194004) x13 x14 x16 x17 (wrap64 (x18 + 1)) x42 x43 x44 x194000 x194001 x194002 x194003 x194004 x194005) else (stroke_Owners.l2 k x8 x9 x10 x13 x14 x16 x17 (wrap64 (x18 + 1)) x42 x43 x44 x194000 x194001 x194002 x194003 x194004 x194005))) else (stroke_Owners.l2 k x8 x9 x10 x13 x14 x16 x17 (wrap64 (x18 + 1)) x42 x43 x44 x194000 x194001 x194002 x194003 x194004 x194005)) else (none)) else (none)) else (stroke_Owners.l1 k x8 x9 x10 x13 x14 x16 (wrap64 (x17 + 1)) x42 x43 x44 x194000 x194001 x194002 x194003 x194004 x194005)
end
def stroke_Owners.f (k : Nat) (l0 : List (S25)) (a1 : Int) (a2 : Int) : Option (List Int × Int):=if (mn a1 a2) < 1 then (stroke_Owners.j0 k l0 a1 a2 true) else (if (mx a1 a2) > 256 then (stroke_Owners.j0 k l0 a1 a2 true) else ((stroke_Piece_26.f k l0).bind fun t188 => (stroke_Owners.j0 k l0 a1 a2 t188)))
theorem stroke_Owners.mono_l : ∀ k,(∀ y0 y1 y2 y3,LeO (stroke_Owners.j0 k y0 y1 y2 y3) (stroke_Owners.j0 (k + 1) y0 y1 y2 y3)) ∧ (∀ y0 y1 y2 y3 y4 y5,LeO (stroke_Owners.l0 k y0 y1 y2 y3 y4 y5) (stroke_Owners.l0 (k + 1) y0 y1 y2 y3 y4 y5)) ∧ (∀ y0 y1 y2 y3 y4 y5 y6 y7 y8 y9 y10 y11 y12 y13 y14 y15,LeO (stroke_Owners.l1 k y0 y1 y2 y3 y4 y5 y6 y7 y8 y9 y10 y11 y12 y13 y14 y15) (stroke_Owners.l1 (k + 1) y0 y1 y2 y3 y4 y5 y6 y7 y8 y9 y10 y11 y12 y13 y14 y15)) ∧ (∀ y0 y1 y2 y3 y4 y5 y6 y7 y8 y9 y10 y11 y12 y13 y14 y15 y16,LeO (stroke_Owners.l2 k y0 y1 y2 y3 y4 y5 y6 y7 y8 y9 y10 y11 y12 y13 y14 y15 y16) (stroke_Owners.l2 (k + 1) y0 y1 y2 y3 y4 y5 y6 y7 y8 y9 y10 y11 y12 y13 y14 y15 y16))
  | 0 => ⟨fun _ _ _ _ r h => by simp [stroke_Owners.j0] at h,fun _ _ _ _ _ _ r h => by simp [stroke_Owners.l0] at h,fun _ _ _ _ _ _ _ _ _ _ _ _ _ _ _ _ r h => by simp [stroke_Owners.l1] at h,fun _ _ _ _ _ _ _ _ _ _ _ _ _ _ _ _ _ r h => by simp [stroke_Owners.l2] at h⟩
  | k + 1 => by
    obtain ⟨ih0,ih1,ih2,ih3⟩:=stroke_Owners.mono_l k;refine ⟨?_,?_,?_,?_⟩
    · intro y0 y1 y2 y3
      unfold stroke_Owners.j0
      repeat' first
      | (with_reducible exact ih0 _ _ _ _)
      | (with_reducible exact ih1 _ _ _ _ _ _)
      | (with_reducible exact ih2 _ _ _ _ _ _ _ _ _ _ _ _ _ _ _ _)
      | (with_reducible exact ih3 _ _ _ _ _ _ _ _ _ _ _ _ _ _ _ _ _)
      | (with_reducible exact stroke_Piece_26.mono _ _)
      | (with_reducible exact LeO.refl _)
      | (with_reducible exact LeO.none _)
      | (with_reducible refine LeO.ite ?_ ?_)
      | (with_reducible refine LeO.bind ?_ (fun _ => ?_))
      | exact ih0 _ _ _ _
      | exact ih1 _ _ _ _ _ _
      | exact ih2 _ _ _ _ _ _ _ _ _ _ _ _ _ _ _ _
      | exact ih3 _ _ _ _ _ _ _ _ _ _ _ _ _ _ _ _ _
      | exact stroke_Piece_26.mono _ _
      | exact LeO.none _
      | refine LeO.ite ?_ ?_
      | refine LeO.bind ?_ (fun _ => ?_)
    · intro y0 y1 y2 y3 y4 y5
      unfold stroke_Owners.l0
      repeat' first
      | (with_reducible exact ih0 _ _ _ _)
      | (with_reducible exact ih1 _ _ _ _ _ _)
      | (with_reducible exact ih2 _ _ _ _ _ _ _ _ _ _ _ _ _ _ _ _)
      | (with_reducible exact ih3 _ _ _ _ _ _ _ _ _ _ _ _ _ _ _ _ _)
      | (with_reducible exact stroke_Piece_26.mono _ _)
      | (with_reducible exact LeO.refl _)
      | (with_reducible exact LeO.none _)
      | (with_reducible refine LeO.ite ?_ ?_)
      | (with_reducible refine LeO.bind ?_ (fun _ => ?_))
      | exact ih0 _ _ _ _
      | exact ih1 _ _ _ _ _ _
      | exact ih2 _ _ _ _ _ _ _ _ _ _ _ _ _ _ _ _
      | exact ih3 _ _ _ _ _ _ _ _ _ _ _ _ _ _ _ _ _
      | exact stroke_Piece_26.mono _ _
      | exact LeO.none _
      | refine LeO.ite ?_ ?_
      | refine LeO.bind ?_ (fun _ => ?_)
    · intro y0 y1 y2 y3 y4 y5 y6 y7 y8 y9 y10 y11 y12 y13 y14 y15
      unfold stroke_Owners.l1
      repeat' first
      | (with_reducible exact ih0 _ _ _ _)
      | (with_reducible exact ih1 _ _ _ _ _ _)
      | (with_reducible exact ih2 _ _ _ _ _ _ _ _ _ _ _ _ _ _ _ _)
      | (with_reducible exact ih3 _ _ _ _ _ _ _ _ _ _ _ _ _ _ _ _ _)
      | (with_reducible exact stroke_Piece_26.mono _ _)
      | (with_reducible exact LeO.refl _)
      | (with_reducible exact LeO.none _)
      | (with_reducible refine LeO.ite ?_ ?_)
      | (with_reducible refine LeO.bind ?_ (fun _ => ?_))
      | exact ih0 _ _ _ _
      | exact ih1 _ _ _ _ _ _
      | exact ih2 _ _ _ _ _ _ _ _ _ _ _ _ _ _ _ _
      | exact ih3 _ _ _ _ _ _ _ _ _ _ _ _ _ _ _ _ _
      | exact stroke_Piece_26.mono _ _
      | exact LeO.none _
      | refine LeO.ite ?_ ?_
      | refine LeO.bind ?_ (fun _ => ?_)
    · intro y0 y1 y2 y3 y4 y5 y6 y7 y8 y9 y10 y11 y12 y13 y14 y15 y16
      unfold stroke_Owners.l2
      repeat' first
      | (with_reducible exact ih0 _ _ _ _)
      | (with_reducible exact ih1 _ _ _ _ _ _)
      | (with_reducible exact ih2 _ _ _ _ _ _ _ _ _ _ _ _ _ _ _ _)
      | (with_reducible exact ih3 _ _ _ _ _ _ _ _ _ _ _ _ _ _ _ _ _)
      | (with_reducible exact stroke_Piece_26.mono _ _)
      | (with_reducible exact LeO.refl _)
      | (with_reducible exact LeO.none _)
      | (with_reducible refine LeO.ite ?_ ?_)
      | (with_reducible refine LeO.bind ?_ (fun _ => ?_))
      | exact ih0 _ _ _ _
      | exact ih1 _ _ _ _ _ _
      | exact ih2 _ _ _ _ _ _ _ _ _ _ _ _ _ _ _ _
      | exact ih3 _ _ _ _ _ _ _ _ _ _ _ _ _ _ _ _ _
      | exact stroke_Piece_26.mono _ _
      | exact LeO.none _
      | refine LeO.ite ?_ ?_
      | refine LeO.bind ?_ (fun _ => ?_)
theorem stroke_Owners.mono : ∀ a0 a1 a2 k,LeO (stroke_Owners.f k a0 a1 a2) (stroke_Owners.f (k + 1) a0 a1 a2):=by
  intro a0 a1 a2 k
  obtain ⟨ih0,ih1,ih2,ih3⟩:=stroke_Owners.mono_l k
  unfold stroke_Owners.f
  repeat' first
      | (with_reducible exact ih0 _ _ _ _)
      | (with_reducible exact ih1 _ _ _ _ _ _)
      | (with_reducible exact ih2 _ _ _ _ _ _ _ _ _ _ _ _ _ _ _ _)
      | (with_reducible exact ih3 _ _ _ _ _ _ _ _ _ _ _ _ _ _ _ _ _)
      | (with_reducible exact stroke_Piece_26.mono _ _)
      | (with_reducible exact LeO.refl _)
      | (with_reducible exact LeO.none _)
      | (with_reducible refine LeO.ite ?_ ?_)
      | (with_reducible refine LeO.bind ?_ (fun _ => ?_))
      | exact ih0 _ _ _ _
      | exact ih1 _ _ _ _ _ _
      | exact ih2 _ _ _ _ _ _ _ _ _ _ _ _ _ _ _ _
      | exact ih3 _ _ _ _ _ _ _ _ _ _ _ _ _ _ _ _ _
      | exact stroke_Piece_26.mono _ _
      | exact LeO.none _
      | refine LeO.ite ?_ ?_
      | refine LeO.bind ?_ (fun _ => ?_)
def stroke_Owners.T17 : Bool × List (List Nat × List Nat):=(true,[([],[]),([],[]),([0,1],[0,1]),([2],[2]),([],[]),([4],[4]),([3,5],[3,5]),([6],[6]),([7],[7]),([7],[7]),([9,7],[7,9]),([10,7],[7,10]),([7],[7]),([12,7],[7,12]),([13,7],[7,13]),([8,11,14,7,7],[7,8,11,14]),([7,15],[7,15])])
def stroke_Owners.B17 : List Nat:=[0,0,3,7,0,16,63,127,255,255,767,1791,255,4351,12543,32767,65535]
theorem stroke_Owners.tab17 : rtab .any (opsOf Try.f17 17) = stroke_Owners.T17:=by kernel_rfl
theorem stroke_Owners.bits17 : waitsOk stroke_Owners.T17.2 stroke_Owners.B17 = true:=by kernel_rfl
set_option maxHeartbeats 8000000 in
set_option maxRecDepth 100000 in
theorem stroke_Owners.calls (k : Nat) (A0 : Option Addr) (c0 : Nat) (l0 : List (S25)) (a1 : Int) (a2 : Int) (r1 : List Int) (r2 : Int) (w : World) (hr0 : Kd.C k25 w A0 l0.length l0) (hc0 : l0.length ≤ c0) (h : stroke_Owners.f k l0 a1 a2 = some (r1,r2)) :
    Calls Try.prog 17 #[.slice A0 l0.length c0,.int .i64 a1,.int .i64 a2] w fun e w' => ∃ v0_ : Value,e = .returned (.tuple #[v0_,.int .i64 r2]) ∧ Kd.R (Kd.int .i64) 3 w' w.heap.size (fun _ => True) v0_ r1 ∧ Below w.heap.size w w':=by
  have hu25:=Try.underlying25;have HR0:=am hr0;have HC0:=am hc0;clear hr0 hc0;have HB:=am (Below.refl w.heap.size w);have H : (if (mn a1 a2) < 1 then (stroke_Owners.j0 k l0 a1 a2 true) else (if (mx a1 a2) > 256 then (stroke_Owners.j0 k l0 a1 a2 true) else ((stroke_Piece_26.f k l0).bind fun t188 => (stroke_Owners.j0 k l0 a1 a2 t188)))) = some (r1,r2):=h;clear h;have HC4:=am H;clear H
  go_enter Try.func17,Try.ntmps17
  go_upto_region 1 with (fail)
  go_cut [33] (fun v33 wc => ∃ (kq : Nat) (x33_3 : Bool),v33 = .bool x33_3 ∧ Aside0 (stroke_Owners.j0 kq l0 a1 a2 x33_3 = some (r1,r2)) ∧ Aside0 (kq ≤ k) ∧ Aside0 (Below w.heap.size w wc))
  case first =>
    have H:=HC4.out;clear HC4;obtain ⟨ji5,hji5⟩ : ∃ j_ : Int,(mn a1 a2) = j_:=⟨_,rfl⟩
    replace H : (if (ji5) < 1 then (stroke_Owners.j0 k l0 a1 a2 true) else (if (mx a1 a2) > 256 then (stroke_Owners.j0 k l0 a1 a2 true) else ((stroke_Piece_26.f k l0).bind fun t188 => (stroke_Owners.j0 k l0 a1 a2 t188)))) = some (r1,r2):=by first|(rw [hji5] at H;exact H)|(simp only [hji5] at H ⊢;exact H)
    have hji5_ : (if a2 < a1 then a2 else a1) = ji5:=hji5
    by_cases c6 : (ji5) < 1
    · rw [if_pos c6] at H
      have c6b0 : decide ((ji5) < 1) = true:=decide_eq_true c6;clear c6
      (first|rw [c6b0]|(simp only [i64_w,i32_w];rw [c6b0])|skip)
      have H':=am H;clear H
      go_wp2
      go_meet
      case rel => exact ⟨_,(true),(by first|rfl|(simp;done)|(simp [*];done)),H',⟨by first|omega|exact Nat.le_refl _⟩,⟨by repeat (first|(with_reducible first|exact HB.out|apply sa|apply sn|apply sd)|exact HB.out)⟩⟩
    · rw [if_neg c6] at H
      have c6b0 : decide ((ji5) < 1) = false:=decide_eq_false c6;clear c6
      (first|rw [c6b0]|(simp only [i64_w,i32_w];rw [c6b0])|skip)
      obtain ⟨ji7,hji7⟩ : ∃ j_ : Int,(mx a1 a2) = j_:=⟨_,rfl⟩
      replace H : (if (ji7) > 256 then (stroke_Owners.j0 k l0 a1 a2 true) else ((stroke_Piece_26.f k l0).bind fun t188 => (stroke_Owners.j0 k l0 a1 a2 t188))) = some (r1,r2):=by first|(rw [hji7] at H;exact H)|(simp only [hji7] at H ⊢;exact H)
      have hji7_ : (if a1 < a2 then a2 else a1) = ji7:=hji7
      by_cases c8 : (ji7) > 256
      · rw [if_pos c8] at H
        have c8b0 : decide (256 < (ji7)) = true:=decide_eq_true c8;clear c8;have H':=am H;clear H
        go_wp2
        go_meet
        case rel => exact ⟨_,(true),(by first|rfl|(simp;done)|(simp [*];done)),H',⟨by first|omega|exact Nat.le_refl _⟩,⟨by repeat (first|(with_reducible first|exact HB.out|apply sa|apply sn|apply sd)|exact HB.out)⟩⟩
      · rw [if_neg c8] at H
        have c8b0 : decide (256 < (ji7)) = false:=decide_eq_false c8;clear c8;replace H:=Option.bind_eq_some_iff.mp H;obtain ⟨t188,A90,H⟩:=H;replace H : (stroke_Owners.j0 k l0 a1 a2 t188) = some (r1,r2):=H;have A9:=am A90;clear A90;have H':=am H;clear H
        go_wp2_with (first|(go_at_call 26;(with_reducible refine (stroke_Piece_26.calls k _ _ l0  t188 _ ?side1 ?side2 A9.out).mono ?_);(case side1 => repeat (first|exact (Kd.C_below HR0.out HB.out)|(with_reducible refine Kd.C_alloc ?_ _)|(with_reducible refine Kd.C_drewN ?_ _)|(with_reducible refine Kd.C_drew ?_)));(case side2 => exact HC0.out);rintro e w10 ⟨rfl,hb⟩;replace HB:=am (ss (by repeat (first|(with_reducible first|exact HB.out|apply sa|apply sn|apply sd)|exact HB.out)) hb);(try clear hb);(try clear hb2);(try clear hk);(try clear hi)))
        go_meet
        case rel => exact ⟨_,(t188),(by first|rfl|(simp;done)|(simp [*];done)),H',⟨by first|omega|exact Nat.le_refl _⟩,⟨by repeat (first|(with_reducible first|exact HB.out|apply sa|apply sn|apply sd)|exact HB.out)⟩⟩
  case rest =>
    clear HC4
    try clear c1
    try clear p2
    try clear c6
    try clear c6b0
    try clear c8
    try clear c8b0
    obtain ⟨kq,x33_3,rfl,HA,HJ3,HB⟩:=hcut
    cases kq with
    | zero => exact absurd HA.out (by simp [stroke_Owners.j0])
    | succ kj3 =>
      have H:=HA.out;clear HA;simp only [stroke_Owners.j0] at H
      by_cases c11 : x33_3 = true
      · subst c11
        have H1 : (some (([] : List Int),1)) = some (r1,r2):=by rw [if_pos rfl] at H;exact H
        clear H;have H:=H1;clear H1;simp only [Option.some.injEq,Prod.mk.injEq] at H;obtain ⟨rfl,rfl⟩:=H
        go_wp2
        go_ret2
        exact ⟨_,by first|rfl|(simp [errW_none,errW_some] <;> rfl)|(simp [*,errW_none,errW_some] <;> rfl),by first|exact Kd.R_nil _ _ _ _ _|exact Kd.N_nil _ _ _ _ _|exact Kd.V_nil _ _ _ _ _|exact Kd.Q_nil _ _ _ _ _|exact Kd.S_nil _ _ _ _ _,by repeat (first|(with_reducible first|exact HB.out|apply sa|apply sn|apply sd)|exact HB.out)⟩
      · replace c11:=Bool.eq_false_iff.mpr c11
        subst c11
        have H1 : (if 0 ≤ (wrap64 ((wrap64 (4 * a1)) * (wrap64 (4 * a2)))) then (if (wrap64 ((wrap64 (4 * a1)) * (wrap64 (4 * a2))) : Int).toNat ≤ 35184372088832 then (stroke_Owners.l0 kj3 (wrap64 (4 * a1)) (wrap64 (4 * a2)) (List.replicate (wrap64 ((wrap64 (4 * a1)) * (wrap64 (4 * a2))) : Int).toNat 0) l0 (l0.length : Int) 0) else (none)) else (none)) = some (r1,r2):=by rw [if_neg (show ¬ (false = true) by decide)] at H;exact H
        clear H;have H:=H1;clear H1;obtain ⟨ji12,hji12⟩ : ∃ j_ : Int,(wrap64 ((wrap64 (4 * a1)) * (wrap64 (4 * a2)))) = j_:=⟨_,rfl⟩
        replace H : (if 0 ≤ (ji12) then (if (ji12 : Int).toNat ≤ 35184372088832 then (stroke_Owners.l0 kj3 (wrap64 (4 * a1)) (wrap64 (4 * a2)) (List.replicate (ji12 : Int).toNat 0) l0 (l0.length : Int) 0) else (none)) else (none)) = some (r1,r2):=by first|(rw [hji12] at H;exact H)|(simp only [hji12] at H ⊢;exact H)
        have hji12w : (IntKind.i64.wrap ((wrap64 (4 * a1)) * (wrap64 (4 * a2)))) = ji12:=(i64_w _).trans hji12
        by_cases c13 : 0 ≤ (ji12)
        · rw [if_pos c13] at H
          have c13b0:=eq_true c13;have c13b1 : decide (0 ≤ (ji12)) = true:=decide_eq_true c13;clear c13
          by_cases c14 : (ji12 : Int).toNat ≤ 35184372088832
          · rw [if_pos c14] at H
            have c14b0:=eq_true c14;have c14b1 : decide ((ji12 : Int).toNat ≤ 35184372088832) = true:=decide_eq_true c14;clear c14;obtain ⟨y189,hy189⟩ : ∃ y_ : List Int,y_ = (List.replicate (ji12 : Int).toNat 0):=⟨_,rfl⟩
            replace H : (stroke_Owners.l0 kj3 (wrap64 (4 * a1)) (wrap64 (4 * a2)) y189 l0 (l0.length : Int) 0) = some (r1,r2):=by first|(rw [hy189];with_reducible exact H)|(have H2_:=(Option.bind_some _ _).symm.trans H;rw [hy189];with_reducible exact H2_)|(have H2_:=(Option.bind_some _ _).symm.trans H;with_reducible exact H2_)|with_reducible exact H|(rw [hy189];exact H)|exact H
            have Ny189:=am hy189;clear hy189;have H':=am H;clear H
            go_wp2_with (first|((with_reducible refine gate_dst (N:=41) rfl ?_);(try (refine gate_guard (by rfl) ?_;dsimp only));refine Kd.R_make (Kd.int .i64) _ 3 rfl (N:=41) rfl 35 _ _ rfl ji12 rfl rfl Try.underlying35 (.int .i64 0) 8 info3 rfl (by decide) (by omega) 0 (ok:=fun _ => True) (okp:=fun _ => True) rfl (fun _ hk => hk) trivial (of_decide_eq_true (by first|(with_reducible assumption)|assumption)) (Nat.le_trans (Nat.mul_le_mul_right _ (of_decide_eq_true (by first|(with_reducible assumption)|assumption) : ji12.toNat ≤ 35184372088832)) (by omega)) (Below.refl _ _) (Nat.le_refl _) ?_;intro v190 w15 ho16 hb hg_ hnew_;clear hg_ hnew_;(first|rw [← Ny189.out] at ho16|(simp only [Int.reduceToNat] at ho16;rw [← Ny189.out] at ho16));have HO191:=am (Kd.R_lower ho16 (sz (by repeat (first|(with_reducible first|exact HB.out|apply sa|apply sn|apply sd)|exact HB.out))));replace HB:=am (ss (by repeat (first|(with_reducible first|exact HB.out|apply sa|apply sn|apply sd)|exact HB.out)) hb);clear hb ho16))
            go_loopg [44] kj3 (fun kq v44 w' => ∃ (x10_2 : List Int) (x44_2 : Int),v44 = .int .i64 x44_2 ∧ Aside0 (stroke_Owners.l0 kq (wrap64 (4 * a1)) (wrap64 (4 * a2)) x10_2 l0 (l0.length : Int) x44_2 = some (r1,r2)) ∧ Aside0 (kq ≤ kj3) ∧ Aside0 (Kd.R (Kd.int .i64) 3 w' w.heap.size (fun _ => True) v190 x10_2) ∧ Aside0 (Below w.heap.size w w'))
            case atStart => exact ⟨(y189),(0),(by first|rfl|(simp;done)|(simp [*];done)),H',⟨Nat.le_refl _⟩,⟨by (with_reducible repeat (first|apply Kd.R_alloc|apply Kd.R_drewN|apply Kd.R_drew));exact HO191.out⟩,⟨by repeat (first|(with_reducible first|exact HB.out|apply sa|apply sn|apply sd)|exact HB.out)⟩⟩
            case round =>
              clear H'
              try clear c1
              try clear p2
              try clear c6
              try clear c6b0
              try clear p6
              try clear c8
              try clear c8b0
              try clear c11
              try clear c13
              try clear c13b0
              try clear c13b1
              try clear c14
              try clear c14b0
              try clear c14b1
              try clear p2
              obtain ⟨x10_2,x44_2,rfl,HA,HK2,HO_10,HB⟩:=hrel
              cases gk with
              | zero => exact absurd HA.out (by simp [stroke_Owners.l0])
              | succ k2 =>
                have H:=HA.out;clear HA;simp only [stroke_Owners.l0] at H
                by_cases c17 : x44_2 < (l0.length : Int)
                · rw [if_pos c17] at H
                  have c17b0 : decide (x44_2 < (l0.length : Int)) = true:=decide_eq_true c17;clear c17
                  by_cases c18 : 0 ≤ x44_2
                  · rw [if_pos c18] at H
                    have c18b0 : decide (0 ≤ x44_2) = true:=decide_eq_true c18;clear c18
                    by_cases c19 : x44_2 < (l0.length : Int)
                    · rw [if_pos c19] at H
                      have c19b0 : decide (x44_2 < (l0.length : Int)) = true:=decide_eq_true c19;clear c19;replace H:=Option.bind_eq_some_iff.mp H;obtain ⟨⟨t194,t195⟩,A200,H⟩:=H;replace H : ((stroke_reach.f ((rd_T25 l0 x44_2).f0.f1) ((rd_T25 l0 x44_2).f1.f1) ((rd_T25 l0 x44_2).f3) (wrap64 (4 * a2))).bind fun bt196 => (stroke_Owners.l1 k2 (wrap64 (4 * a1)) (wrap64 (4 * a2)) x10_2 t194 t195 bt196.2 bt196.1 l0 (l0.length : Int) x44_2 ((rd_T25 l0 x44_2).f0.f0) ((rd_T25 l0 x44_2).f0.f1) ((rd_T25 l0 x44_2).f1.f0) ((rd_T25 l0 x44_2).f1.f1) ((rd_T25 l0 x44_2).f2) ((rd_T25 l0 x44_2).f3))) = some (r1,r2):=H;have A20:=am A200;clear A200;replace H:=Option.bind_eq_some_iff.mp H;obtain ⟨⟨t196,t197⟩,A210,H⟩:=H;replace H : (stroke_Owners.l1 k2 (wrap64 (4 * a1)) (wrap64 (4 * a2)) x10_2 t194 t195 t197 t196 l0 (l0.length : Int) x44_2 ((rd_T25 l0 x44_2).f0.f0) ((rd_T25 l0 x44_2).f0.f1) ((rd_T25 l0 x44_2).f1.f0) ((rd_T25 l0 x44_2).f1.f1) ((rd_T25 l0 x44_2).f2) ((rd_T25 l0 x44_2).f3)) = some (r1,r2):=H;have A21:=am A210;clear A210;have H':=am H;clear H;have p192 : 0 ≤ (x44_2 : Int):=of_decide_eq_true (by first|(with_reducible assumption)|assumption);have q192 : x44_2 < (l0.length : Int):=of_decide_eq_true (by first|(with_reducible assumption)|assumption);obtain ⟨ad192,e192,hx192_0,hx192_1,hx192_2,hx192_3,hx192_4,hx192_5⟩:=at_T25 HR0.out x44_2 p192 q192
                      cases e192
                      replace hx192_0:=(HB.out.cell (World.block_lt_of_cell? w _ hx192_0)).trans hx192_0;replace hx192_1:=(HB.out.cell (World.block_lt_of_cell? w _ hx192_1)).trans hx192_1;replace hx192_2:=(HB.out.cell (World.block_lt_of_cell? w _ hx192_2)).trans hx192_2;replace hx192_3:=(HB.out.cell (World.block_lt_of_cell? w _ hx192_3)).trans hx192_3;replace hx192_4:=(HB.out.cell (World.block_lt_of_cell? w _ hx192_4)).trans hx192_4;replace hx192_5:=(HB.out.cell (World.block_lt_of_cell? w _ hx192_5)).trans hx192_5;replace p192:=eq_true p192;replace q192:=eq_true q192
                      go_wp2_with (first|((with_reducible refine gate_dst (N:=12) rfl ?_);(try (refine gate_guard (by rfl) ?_;dsimp only));refine box_event ?hg (N:=12) ?hd (cs:=#[.int .i64 0,.int .i64 0,.int .i64 0,.int .i64 0,.int .i64 0,.int .i64 0]) (t:=25) ?hr ?_;(case hd => rfl);(case hg => rfl);(case hr => first|(go_simp;done)|(go_simp;rfl));intro gb193 hg w22 hbox hb;replace HO_10:=am (Kd.R_below (by (with_reducible repeat (first|apply Kd.R_alloc|apply Kd.R_drewN|apply Kd.R_drew));exact HO_10.out) hb);have BK193:=am (hbox);have GW193:=am ((by rw [hg];exact (sz (by repeat (first|(with_reducible first|exact HB.out|apply sa|apply sn|apply sd)|exact HB.out))) : w.heap.size ≤ gb193));have GE193:=am ((by rw [hg];exact (sz (by repeat (first|(with_reducible first|exact HB.out|apply sa|apply sn|apply sd)|exact HB.out))) : w.heap.size ≤ gb193));replace HB:=am (ss (by repeat (first|(with_reducible first|exact HB.out|apply sa|apply sn|apply sd)|exact HB.out)) hb);clear hb hbox hg;obtain ⟨hcz23_0,hcz23_1,hcz23_2,hcz23_3,hcz23_4,hcz23_5⟩:=cq6 BK193.out;obtain ⟨hfz23_0,hfz23_1,hfz23_2,hfz23_3,hfz23_4,hfz23_5⟩:=fq6 BK193.out)|((with_reducible refine gate_callee (f:=28) rfl ?_);refine goesL_ (some 58) rfl rfl Try.func28 (by kernel_rfl) rfl #[.int .i64 ((rd_T25 l0 x44_2).f0.f0),.int .i64 ((rd_T25 l0 x44_2).f1.f0),.int .i64 ((rd_T25 l0 x44_2).f3),.int .i64 (wrap64 (4 * a1))] rfl (by (try simp only [List.map_toArray,List.map_cons,List.map_nil]);first|done|rfl|(simp only [List.length_drop,List.length_take];rfl)) ?_;(with_reducible refine (stroke_reach.calls ((rd_T25 l0 x44_2).f0.f0) ((rd_T25 l0 x44_2).f1.f0) ((rd_T25 l0 x44_2).f3) (wrap64 (4 * a1)) t194 t195 _ A20.out).mono ?_);rintro e w24 ⟨rfl,hb⟩;refine ⟨_,rfl,?_⟩;replace HO_10:=am (Kd.R_below (by (with_reducible repeat (first|apply Kd.R_alloc|apply Kd.R_drewN|apply Kd.R_drew));exact (rm (rf (rf (rf (rf (rf (rf (Kd.R_types HO_10.out BK193.out (by decide)))))))))) hb);replace BK193:=am (bw (g:=gb193) (o:=.cells #[.int .i64 ((rd_T25 l0 x44_2).f0.f0),.int .i64 ((rd_T25 l0 x44_2).f0.f1),.int .i64 ((rd_T25 l0 x44_2).f1.f0),.int .i64 ((rd_T25 l0 x44_2).f1.f1),.int .i64 ((rd_T25 l0 x44_2).f2),.int .i64 ((rd_T25 l0 x44_2).f3)] 25 (0,0)) (bp6 BK193.out) hb);replace HB:=am (ss (by repeat (first|(with_reducible first|exact HB.out|apply sa|apply sn|apply sd|refine sx ?_ GE193.out)|exact HB.out)) hb);(try clear hb);(try clear hb2);(try clear hk);(try clear hi);obtain ⟨hcz25_0,hcz25_1,hcz25_2,hcz25_3,hcz25_4,hcz25_5⟩:=cq6 BK193.out;obtain ⟨hfz25_0,hfz25_1,hfz25_2,hfz25_3,hfz25_4,hfz25_5⟩:=fq6 BK193.out)|((with_reducible refine gate_callee (f:=28) rfl ?_);refine goesL_ (some 71) rfl rfl Try.func28 (by kernel_rfl) rfl #[.int .i64 ((rd_T25 l0 x44_2).f0.f1),.int .i64 ((rd_T25 l0 x44_2).f1.f1),.int .i64 ((rd_T25 l0 x44_2).f3),.int .i64 (wrap64 (4 * a2))] rfl (by (try simp only [List.map_toArray,List.map_cons,List.map_nil]);first|done|rfl|(simp only [List.length_drop,List.length_take];rfl)) ?_;(with_reducible refine (stroke_reach.calls ((rd_T25 l0 x44_2).f0.f1) ((rd_T25 l0 x44_2).f1.f1) ((rd_T25 l0 x44_2).f3) (wrap64 (4 * a2)) t196 t197 _ A21.out).mono ?_);rintro e w26 ⟨rfl,hb⟩;refine ⟨_,rfl,?_⟩;replace HO_10:=am (Kd.R_below (by (with_reducible repeat (first|apply Kd.R_alloc|apply Kd.R_drewN|apply Kd.R_drew));exact HO_10.out) hb);replace BK193:=am (bw (by exact BK193.out) hb);replace HB:=am (ss (by repeat (first|(with_reducible first|exact HB.out|apply sa|apply sn|apply sd|refine sx ?_ GE193.out)|exact HB.out)) hb);(try clear hb);(try clear hb2);(try clear hk);(try clear hi)))
                      go_loopg [17] k2 (fun kq v17 w' => ∃ (x10_3 : List Int) (x17_3 : Int),v17 = .int .i64 x17_3 ∧ Aside0 (stroke_Owners.l1 kq (wrap64 (4 * a1)) (wrap64 (4 * a2)) x10_3 t194 t195 t197 x17_3 l0 (l0.length : Int) x44_2 ((rd_T25 l0 x44_2).f0.f0) ((rd_T25 l0 x44_2).f0.f1) ((rd_T25 l0 x44_2).f1.f0) ((rd_T25 l0 x44_2).f1.f1) ((rd_T25 l0 x44_2).f2) ((rd_T25 l0 x44_2).f3) = some (r1,r2)) ∧ Aside0 (kq ≤ k2) ∧ Aside0 (Kd.R (Kd.int .i64) 3 w' w.heap.size (fun _ => True) v190 x10_3) ∧ Aside0 (w'.heap[gb193]? = some (.cells #[.int .i64 ((rd_T25 l0 x44_2).f0.f0),.int .i64 ((rd_T25 l0 x44_2).f0.f1),.int .i64 ((rd_T25 l0 x44_2).f1.f0),.int .i64 ((rd_T25 l0 x44_2).f1.f1),.int .i64 ((rd_T25 l0 x44_2).f2),.int .i64 ((rd_T25 l0 x44_2).f3)] 25 (0,0))) ∧ Aside0 (Below w.heap.size w w'))
                      case atStart => exact ⟨(x10_2),(t196),(by first|rfl|(simp;done)|(simp [*];done)),H',⟨Nat.le_refl _⟩,⟨by (with_reducible repeat (first|apply Kd.R_alloc|apply Kd.R_drewN|apply Kd.R_drew));exact HO_10.out⟩,⟨by exact BK193.out⟩,⟨by repeat (first|(with_reducible first|exact HB.out|apply sa|apply sn|apply sd|refine sx ?_ GE193.out)|exact HB.out)⟩⟩
                      case round =>
                        clear H'
                        try clear c1
                        try clear p1
                        try clear q1
                        try clear hx1
                        try clear c2
                        try clear p2
                        try clear c6
                        try clear c6b0
                        try clear p6
                        try clear c8
                        try clear c8b0
                        try clear c11
                        try clear c13
                        try clear c13b0
                        try clear c13b1
                        try clear c14
                        try clear c14b0
                        try clear c14b1
                        try clear c17
                        try clear c17b0
                        try clear c18
                        try clear c18b0
                        try clear c19
                        try clear c19b0
                        try clear p19
                        try clear q19
                        try clear hx19
                        try clear hcz23_0
                        try clear hcz23_1
                        try clear hcz23_2
                        try clear hcz23_3
                        try clear hcz23_4
                        try clear hcz23_5
                        try clear hcz25_0
                        try clear hcz25_1
                        try clear hcz25_2
                        try clear hcz25_3
                        try clear hcz25_4
                        try clear hcz25_5
                        try clear hfz23_0
                        try clear hfz23_1
                        try clear hfz23_2
                        try clear hfz23_3
                        try clear hfz23_4
                        try clear hfz23_5
                        try clear hfz25_0
                        try clear hfz25_1
                        try clear hfz25_2
                        try clear hfz25_3
                        try clear hfz25_4
                        try clear hfz25_5
                        try clear hx192_0
                        try clear hx192_1
                        try clear hx192_2
                        try clear hx192_3
                        try clear hx192_4
                        try clear hx192_5
                        try clear p192
                        try clear p2
                        try clear p6
                        try clear q192
                        obtain ⟨x10_3,x17_3,rfl,HA,HK3,HO_10,BK193,HB⟩:=hrel
                        cases gk with
                        | zero => exact absurd HA.out (by simp [stroke_Owners.l1])
                        | succ k3 =>
                          have H:=HA.out;clear HA;simp only [stroke_Owners.l1] at H
                          by_cases c27 : x17_3 < t197
                          · rw [if_pos c27] at H
                            have c27b0 : decide (x17_3 < t197) = true:=decide_eq_true c27;clear c27;have H':=am H;clear H
                            go_wp2
                            go_loopg [18] k3 (fun kq v18 w' => ∃ (x10_4 : List Int) (x18_4 : Int),v18 = .int .i64 x18_4 ∧ Aside0 (stroke_Owners.l2 kq (wrap64 (4 * a1)) (wrap64 (4 * a2)) x10_4 t194 t195 t197 x17_3 x18_4 l0 (l0.length : Int) x44_2 ((rd_T25 l0 x44_2).f0.f0) ((rd_T25 l0 x44_2).f0.f1) ((rd_T25 l0 x44_2).f1.f0) ((rd_T25 l0 x44_2).f1.f1) ((rd_T25 l0 x44_2).f2) ((rd_T25 l0 x44_2).f3) = some (r1,r2)) ∧ Aside0 (kq ≤ k3) ∧ Aside0 (Kd.R (Kd.int .i64) 3 w' w.heap.size (fun _ => True) v190 x10_4) ∧ Aside0 (w'.heap[gb193]? = some (.cells #[.int .i64 ((rd_T25 l0 x44_2).f0.f0),.int .i64 ((rd_T25 l0 x44_2).f0.f1),.int .i64 ((rd_T25 l0 x44_2).f1.f0),.int .i64 ((rd_T25 l0 x44_2).f1.f1),.int .i64 ((rd_T25 l0 x44_2).f2),.int .i64 ((rd_T25 l0 x44_2).f3)] 25 (0,0))) ∧ Aside0 (Below w.heap.size w w'))
                            case atStart => exact ⟨(x10_3),(t194),(by first|rfl|(simp;done)|(simp [*];done)),H',⟨Nat.le_refl _⟩,⟨by (with_reducible repeat (first|apply Kd.R_alloc|apply Kd.R_drewN|apply Kd.R_drew));exact HO_10.out⟩,⟨by exact BK193.out⟩,⟨by repeat (first|(with_reducible first|exact HB.out|apply sa|apply sn|apply sd|refine sx ?_ GE193.out)|exact HB.out)⟩⟩
                            case round =>
                              clear H'
                              try clear c1
                              try clear p1
                              try clear q1
                              try clear hx1
                              try clear c2
                              try clear p2
                              try clear c6
                              try clear c6b0
                              try clear p6
                              try clear c8
                              try clear c8b0
                              try clear c11
                              try clear c13
                              try clear c13b0
                              try clear c13b1
                              try clear c14
                              try clear c14b0
                              try clear c14b1
                              try clear c17
                              try clear c17b0
                              try clear c18
                              try clear c18b0
                              try clear c19
                              try clear c19b0
                              try clear p19
                              try clear q19
                              try clear hx19
                              try clear c27
                              try clear c27b0
                              try clear hcz23_0
                              try clear hcz23_1
                              try clear hcz23_2
                              try clear hcz23_3
                              try clear hcz23_4
                              try clear hcz23_5
                              try clear hcz25_0
                              try clear hcz25_1
                              try clear hcz25_2
                              try clear hcz25_3
                              try clear hcz25_4
                              try clear hcz25_5
                              try clear hfz23_0
                              try clear hfz23_1
                              try clear hfz23_2
                              try clear hfz23_3
                              try clear hfz23_4
                              try clear hfz23_5
                              try clear hfz25_0
                              try clear hfz25_1
                              try clear hfz25_2
                              try clear hfz25_3
                              try clear hfz25_4
                              try clear hfz25_5
                              try clear hx192_0
                              try clear hx192_1
                              try clear hx192_2
                              try clear hx192_3
                              try clear hx192_4
                              try clear hx192_5
                              try clear p1
                              try clear p19
                              try clear p192
                              try clear p2
                              try clear p6
                              try clear q1
                              try clear q19
                              try clear q192
                              obtain ⟨x10_4,x18_4,rfl,HA,HK4,HO_10,BK193,HB⟩:=hrel
                              cases gk with
                              | zero => exact absurd HA.out (by simp [stroke_Owners.l2])
                              | succ k4 =>
                                have H:=HA.out;clear HA;simp only [stroke_Owners.l2] at H
                                by_cases c28 : x18_4 < t195
                                · rw [if_pos c28] at H
                                  have c28b0 : decide (x18_4 < t195) = true:=decide_eq_true c28;clear c28;obtain ⟨ji29,hji29⟩ : ∃ j_ : Int,(wrap64 ((wrap64 (x17_3 * (wrap64 (4 * a1)))) + x18_4)) = j_:=⟨_,rfl⟩
                                  replace H : (if 0 ≤ (ji29) then (if (ji29) < (x10_4.length : Int) then (if (rd x10_4 (ji29)) < ((rd_T25 l0 x44_2).f2) then ((stroke_near.f ((rd_T25 l0 x44_2).f0.f0) ((rd_T25 l0 x44_2).f0.f1) ((rd_T25 l0 x44_2).f1.f0) ((rd_T25 l0 x44_2).f1.f1) ((rd_T25 l0 x44_2).f2) ((rd_T25 l0 x44_2).f3) (wrap64 ((wrap64 (16 * x18_4)) + 7)) (wrap64 ((wrap64 (16 * x17_3)) + 7))).bind fun t199 => (if t199 = true then (stroke_Owners.l2 k4 (wrap64 (4 * a1)) (wrap64 (4 * a2)) (x10_4.set ((ji29) : Int).toNat ((rd_T25 l0 x44_2).f2)) t194 t195 t197 x17_3 (wrap64 (x18_4 + 1)) l0 (l0.length : Int) x44_2 ((rd_T25 l0 x44_2).f0.f0) ((rd_T25 l0 x44_2).f0.f1) ((rd_T25 l0 x44_2).f1.f0) ((rd_T25 l0 x44_2).f1.f1) ((rd_T25 l0 x44_2).f2) ((rd_T25 l0 x44_2).f3)) else (stroke_Owners.l2 k4 (wrap64 (4 * a1)) (wrap64 (4 * a2)) x10_4 t194 t195 t197 x17_3 (wrap64 (x18_4 + 1)) l0 (l0.length : Int) x44_2 ((rd_T25 l0 x44_2).f0.f0) ((rd_T25 l0 x44_2).f0.f1) ((rd_T25 l0 x44_2).f1.f0) ((rd_T25 l0 x44_2).f1.f1) ((rd_T25 l0 x44_2).f2) ((rd_T25 l0 x44_2).f3)))) else (stroke_Owners.l2 k4 (wrap64 (4 * a1)) (wrap64 (4 * a2)) x10_4 t194 t195 t197 x17_3 (wrap64 (x18_4 + 1)) l0 (l0.length : Int) x44_2 ((rd_T25 l0 x44_2).f0.f0) ((rd_T25 l0 x44_2).f0.f1) ((rd_T25 l0 x44_2).f1.f0) ((rd_T25 l0 x44_2).f1.f1) ((rd_T25 l0 x44_2).f2) ((rd_T25 l0 x44_2).f3))) else (none)) else (none)) = some (r1,r2):=by first|(rw [hji29] at H;exact H)|(simp only [hji29] at H ⊢;exact H)
                                  have hji29w : (IntKind.i64.wrap ((wrap64 (x17_3 * (wrap64 (4 * a1)))) + x18_4)) = ji29:=(i64_w _).trans hji29
                                  by_cases c30 : 0 ≤ (ji29)
                                  · rw [if_pos c30] at H
                                    have c30b0 : decide (0 ≤ (ji29)) = true:=decide_eq_true c30;clear c30
                                    by_cases c31 : (ji29) < (x10_4.length : Int)
                                    · rw [if_pos c31] at H
                                      have c31b0 : decide ((ji29) < (x10_4.length : Int)) = true:=decide_eq_true c31;clear c31
                                      by_cases c32 : (rd x10_4 (ji29)) < ((rd_T25 l0 x44_2).f2)
                                      · rw [if_pos c32] at H
                                        have c32b0 : decide ((rd x10_4 (ji29)) < ((rd_T25 l0 x44_2).f2)) = true:=decide_eq_true c32;clear c32;replace H:=Option.bind_eq_some_iff.mp H;obtain ⟨t199,A330,H⟩:=H;replace H : (if t199 = true then (stroke_Owners.l2 k4 (wrap64 (4 * a1)) (wrap64 (4 * a2)) (x10_4.set ((ji29) : Int).toNat ((rd_T25 l0 x44_2).f2)) t194 t195 t197 x17_3 (wrap64 (x18_4 + 1)) l0 (l0.length : Int) x44_2 ((rd_T25 l0 x44_2).f0.f0) ((rd_T25 l0 x44_2).f0.f1) ((rd_T25 l0 x44_2).f1.f0) ((rd_T25 l0 x44_2).f1.f1) ((rd_T25 l0 x44_2).f2) ((rd_T25 l0 x44_2).f3)) else (stroke_Owners.l2 k4 (wrap64 (4 * a1)) (wrap64 (4 * a2)) x10_4 t194 t195 t197 x17_3 (wrap64 (x18_4 + 1)) l0 (l0.length : Int) x44_2 ((rd_T25 l0 x44_2).f0.f0) ((rd_T25 l0 x44_2).f0.f1) ((rd_T25 l0 x44_2).f1.f0) ((rd_T25 l0 x44_2).f1.f1) ((rd_T25 l0 x44_2).f2) ((rd_T25 l0 x44_2).f3))) = some (r1,r2):=H;have A33:=am A330;clear A330
                                        by_cases c34 : t199 = true
                                        · subst c34
                                          have H1 : (stroke_Owners.l2 k4 (wrap64 (4 * a1)) (wrap64 (4 * a2)) (x10_4.set ((ji29) : Int).toNat ((rd_T25 l0 x44_2).f2)) t194 t195 t197 x17_3 (wrap64 (x18_4 + 1)) l0 (l0.length : Int) x44_2 ((rd_T25 l0 x44_2).f0.f0) ((rd_T25 l0 x44_2).f0.f1) ((rd_T25 l0 x44_2).f1.f0) ((rd_T25 l0 x44_2).f1.f1) ((rd_T25 l0 x44_2).f2) ((rd_T25 l0 x44_2).f3)) = some (r1,r2):=by rw [if_pos rfl] at H;exact H
                                          clear H;have H:=H1;clear H1;obtain ⟨y200,hy200⟩ : ∃ y_ : List Int,y_ = (x10_4.set ((ji29) : Int).toNat ((rd_T25 l0 x44_2).f2)):=⟨_,rfl⟩
                                          replace H : (stroke_Owners.l2 k4 (wrap64 (4 * a1)) (wrap64 (4 * a2)) y200 t194 t195 t197 x17_3 (wrap64 (x18_4 + 1)) l0 (l0.length : Int) x44_2 ((rd_T25 l0 x44_2).f0.f0) ((rd_T25 l0 x44_2).f0.f1) ((rd_T25 l0 x44_2).f1.f0) ((rd_T25 l0 x44_2).f1.f1) ((rd_T25 l0 x44_2).f2) ((rd_T25 l0 x44_2).f3)) = some (r1,r2):=by first|(rw [hy200];with_reducible exact H)|(have H2_:=(Option.bind_some _ _).symm.trans H;rw [hy200];with_reducible exact H2_)|(have H2_:=(Option.bind_some _ _).symm.trans H;with_reducible exact H2_)|with_reducible exact H|(rw [hy200];exact H)|exact H
                                          have Ny200:=am hy200;clear hy200;have H':=am H;clear H
                                          try go_wp2
                                          replace HO_10:=am (Kd.R_drew HO_10.out);replace BK193:=am (bd BK193.out);replace HB:=am (sd HB.out);obtain ⟨Ao37,co37,eo37⟩:=Kd.R_slice HO_10.out
                                          (first|subst eo37|(injection eo37 with f1_ f2_ f3_;have f4_:=f1_.symm;have f5_:=f3_.symm;clear f1_ f2_ f3_;subst f4_;subst f5_))
                                          have p198 : 0 ≤ ((ji29) : Int):=of_decide_eq_true (by first|(with_reducible assumption)|assumption);have q198 : (ji29) < (x10_4.length : Int):=of_decide_eq_true (by first|(with_reducible assumption)|assumption);obtain ⟨ad198,e198,hx198_0⟩:=Kd.at_int (Kd.R_reads' HO_10.out).2.2 (ji29) p198 q198
                                          cases e198
                                          replace p198:=eq_true p198;replace q198:=eq_true q198;refine start_ (n:=17) (S:=fun w' => w'.cell? ⟨gb193,0,none⟩ = some (.int .i64 ((rd_T25 l0 x44_2).f0.f0)) ∧ w'.cell? ⟨gb193,1,none⟩ = some (.int .i64 ((rd_T25 l0 x44_2).f0.f1)) ∧ w'.cell? ⟨gb193,2,none⟩ = some (.int .i64 ((rd_T25 l0 x44_2).f1.f0)) ∧ w'.cell? ⟨gb193,3,none⟩ = some (.int .i64 ((rd_T25 l0 x44_2).f1.f1)) ∧ w'.cell? ⟨gb193,4,none⟩ = some (.int .i64 ((rd_T25 l0 x44_2).f2)) ∧ w'.cell? ⟨gb193,5,none⟩ = some (.int .i64 ((rd_T25 l0 x44_2).f3)) ∧ w'.cell? (ad198.add ((ji29)).toNat) = some (.int .i64 (rd x10_4 (ji29)))) (ds:=[]) #[false,false,false,false,false,false,false,false,false,false,false,false,false,false,false,false,false] (by kernel_rfl) rfl rfl ⟨(bc BK193.out 0).trans rfl,(bc BK193.out 1).trans rfl,(bc BK193.out 2).trans rfl,(bc BK193.out 3).trans rfl,(bc BK193.out 4).trans rfl,(bc BK193.out 5).trans rfl,hx198_0⟩ (fun hHeld => ?_);refine with_tabW stroke_Owners.tab17 stroke_Owners.bits17 (fun HT_ HW_ => ?_);generalize wr.drew = w36 at HO_10 BK193 HB hx198_0 hHeld ⊢;refine pure_ (i:=0) (N:=some 91) (v:=?_) (a':=?_) #[true,false,false,false,false,false,false,false,false,false,false,false,false,false,false,false,false] rfl rfl (any_of HT_.out (by kernel_rfl)) (fun _ _ _ h => h) (Or.inl ⟨by rfl,?_⟩) ?_ ?_
                                          rotate_left
                                          · intro w'
                                            go_simp
                                            with_reducible rfl
                                          rotate_left
                                          · simp only [Act.put,q1,q2,q3,i64_w,i32_w]
                                            rfl
                                          refine pure_ (i:=1) (N:=some 92) (v:=?_) (a':=?_) #[true,true,false,false,false,false,false,false,false,false,false,false,false,false,false,false,false] rfl rfl (any_of HT_.out (by kernel_rfl)) (fun _ _ _ h => h) (Or.inl ⟨by rfl,?_⟩) ?_ ?_
                                          rotate_left
                                          · intro w'
                                            go_simp
                                            with_reducible rfl
                                          rotate_left
                                          · simp only [Act.put,q1,q2,q3,i64_w,i32_w]
                                            rfl
                                          refine pure_ (i:=2) (N:=some 93) (v:=?_) (a':=?_) #[true,true,true,false,false,false,false,false,false,false,false,false,false,false,false,false,false] rfl rfl (any_of HT_.out (by kernel_rfl)) (fun _ _ _ h => h) (Or.inl ⟨by rfl,?_⟩) ?_ ?_
                                          rotate_left
                                          · intro w'
                                            go_simp
                                            with_reducible rfl
                                          rotate_left
                                          · simp only [Act.put,q1,q2,q3,i64_w,i32_w]
                                            rfl
                                          refine pure_ (i:=4) (N:=some 95) (v:=?_) (a':=?_) #[true,true,true,false,true,false,false,false,false,false,false,false,false,false,false,false,false] rfl rfl (any_of HT_.out (by kernel_rfl)) (fun _ _ _ h => h) (Or.inl ⟨by rfl,?_⟩) ?_ ?_
                                          rotate_left
                                          · intro w'
                                            go_simp
                                            with_reducible rfl
                                          rotate_left
                                          · simp only [Act.put,q1,q2,q3,i64_w,i32_w]
                                            rfl
                                          refine take_ (i:=3) (N:=some 94) (v:=?_) (a':=?_) #[true,true,true,true,true,false,false,false,false,false,false,false,false,false,false,false,false] rfl rfl (take_ofW HT_.out HW_.out (by kernel_rfl)) (fun _ _ _ h => h) (Or.inl ⟨by rfl,?_⟩) hHeld ?_ ?_
                                          rotate_left
                                          · rintro w' ⟨s0,s1,s2,s3,s4,s5,s6⟩
                                            go_simp
                                            with_reducible rfl
                                          rotate_left
                                          · simp only [Act.put,q1,q2,q3,i64_w,i32_w]
                                            rfl
                                          refine take_ (i:=5) (N:=some 96) (v:=?_) (a':=?_) #[true,true,true,true,true,true,false,false,false,false,false,false,false,false,false,false,false] rfl rfl (take_ofW HT_.out HW_.out (by kernel_rfl)) (fun _ _ _ h => h) (Or.inl ⟨by rfl,?_⟩) hHeld ?_ ?_
                                          rotate_left
                                          · rintro w' ⟨s0,s1,s2,s3,s4,s5,s6⟩
                                            go_simp
                                            with_reducible rfl
                                          rotate_left
                                          · simp only [Act.put,q1,q2,q3,i64_w,i32_w]
                                            rfl
                                          refine pure_ (i:=6) (N:=some 97) (v:=?_) (a':=?_) #[true,true,true,true,true,true,true,false,false,false,false,false,false,false,false,false,false] rfl rfl (any_of HT_.out (by kernel_rfl)) (fun _ _ _ h => h) (Or.inl ⟨by rfl,?_⟩) ?_ ?_
                                          rotate_left
                                          · intro w'
                                            go_simp
                                            with_reducible rfl
                                          rotate_left
                                          · simp only [Act.put,q1,q2,q3,i64_w,i32_w]
                                            rfl
                                          refine pure_ (i:=7) (N:=some 98) (v:=?_) (a':=?_) #[true,true,true,true,true,true,true,true,false,false,false,false,false,false,false,false,false] rfl rfl (any_of HT_.out (by kernel_rfl)) (fun _ _ _ h => h) (Or.inl ⟨by rfl,?_⟩) ?_ ?_
                                          rotate_left
                                          · intro w'
                                            go_simp
                                            with_reducible rfl
                                          rotate_left
                                          · simp only [Act.put,q1,q2,q3,i64_w,i32_w]
                                            rfl
                                          refine pure_ (i:=9) (N:=some 100) (v:=?_) (a':=?_) #[true,true,true,true,true,true,true,true,false,true,false,false,false,false,false,false,false] rfl rfl (any_of HT_.out (by kernel_rfl)) (fun _ _ _ h => h) (Or.inl ⟨by rfl,?_⟩) ?_ ?_
                                          rotate_left
                                          · intro w'
                                            go_simp
                                            with_reducible rfl
                                          rotate_left
                                          · simp only [Act.put,q1,q2,q3,i64_w,i32_w]
                                            rfl
                                          refine pure_ (i:=10) (N:=some 101) (v:=?_) (a':=?_) #[true,true,true,true,true,true,true,true,false,true,true,false,false,false,false,false,false] rfl rfl (any_of HT_.out (by kernel_rfl)) (fun _ _ _ h => h) (Or.inl ⟨by rfl,?_⟩) ?_ ?_
                                          rotate_left
                                          · intro w'
                                            go_simp
                                            with_reducible rfl
                                          rotate_left
                                          · simp only [Act.put,q1,q2,q3,i64_w,i32_w]
                                            rfl
                                          refine pure_ (i:=11) (N:=some 102) (v:=?_) (a':=?_) #[true,true,true,true,true,true,true,true,false,true,true,true,false,false,false,false,false] rfl rfl (any_of HT_.out (by kernel_rfl)) (fun _ _ _ h => h) (Or.inl ⟨by rfl,?_⟩) ?_ ?_
                                          rotate_left
                                          · intro w'
                                            go_simp
                                            with_reducible rfl
                                          rotate_left
                                          · simp only [Act.put,q1,q2,q3,i64_w,i32_w]
                                            rfl
                                          refine pure_ (i:=12) (N:=some 103) (v:=?_) (a':=?_) #[true,true,true,true,true,true,true,true,false,true,true,true,true,false,false,false,false] rfl rfl (any_of HT_.out (by kernel_rfl)) (fun _ _ _ h => h) (Or.inl ⟨by rfl,?_⟩) ?_ ?_
                                          rotate_left
                                          · intro w'
                                            go_simp
                                            with_reducible rfl
                                          rotate_left
                                          · simp only [Act.put,q1,q2,q3,i64_w,i32_w]
                                            rfl
                                          refine pure_ (i:=13) (N:=some 104) (v:=?_) (a':=?_) #[true,true,true,true,true,true,true,true,false,true,true,true,true,true,false,false,false] rfl rfl (any_of HT_.out (by kernel_rfl)) (fun _ _ _ h => h) (Or.inl ⟨by rfl,?_⟩) ?_ ?_
                                          rotate_left
                                          · intro w'
                                            go_simp
                                            with_reducible rfl
                                          rotate_left
                                          · simp only [Act.put,q1,q2,q3,i64_w,i32_w]
                                            rfl
                                          refine pure_ (i:=14) (N:=some 105) (v:=?_) (a':=?_) #[true,true,true,true,true,true,true,true,false,true,true,true,true,true,true,false,false] rfl rfl (any_of HT_.out (by kernel_rfl)) (fun _ _ _ h => h) (Or.inl ⟨by rfl,?_⟩) ?_ ?_
                                          rotate_left
                                          · intro w'
                                            go_simp
                                            with_reducible rfl
                                          rotate_left
                                          · simp only [Act.put,q1,q2,q3,i64_w,i32_w]
                                            rfl
                                          refine take_ (i:=8) (N:=some 99) (v:=?_) (a':=?_) #[true,true,true,true,true,true,true,true,true,true,true,true,true,true,true,false,false] rfl rfl (take_ofW HT_.out HW_.out (by kernel_rfl)) (fun _ _ _ h => h) (Or.inl ⟨by rfl,?_⟩) hHeld ?_ ?_
                                          rotate_left
                                          · rintro w' ⟨s0,s1,s2,s3,s4,s5,s6⟩
                                            go_simp
                                            with_reducible rfl
                                          rotate_left
                                          · simp only [Act.put,q1,q2,q3,i64_w,i32_w]
                                            rfl
                                          refine one_ (i:=15) (N:=some 106) #[true,true,true,true,true,true,true,true,true,true,true,true,true,true,true,true,false] rfl rfl (one_of HT_.out (by kernel_rfl)) (by decide) (fun K hK => ?_);refine goes_ Try.func25 (by kernel_rfl) rfl #[.agg #[.int .i64 ((rd_T25 l0 x44_2).f0.f0),.int .i64 ((rd_T25 l0 x44_2).f0.f1),.int .i64 ((rd_T25 l0 x44_2).f1.f0),.int .i64 ((rd_T25 l0 x44_2).f1.f1),.int .i64 ((rd_T25 l0 x44_2).f2),.int .i64 ((rd_T25 l0 x44_2).f3)],.int .i64 (wrap64 ((wrap64 (16 * x18_4)) + 7)),.int .i64 (wrap64 ((wrap64 (16 * x17_3)) + 7))] (by rfl) rfl rfl (by (try simp only [List.map_toArray,List.map_cons,List.map_nil]);first|done|rfl|(simp only [List.length_drop,List.length_take];rfl)) ?_
                                          with_reducible refine (stroke_near.calls ((rd_T25 l0 x44_2).f0.f0) ((rd_T25 l0 x44_2).f0.f1) ((rd_T25 l0 x44_2).f1.f0) ((rd_T25 l0 x44_2).f1.f1) ((rd_T25 l0 x44_2).f2) ((rd_T25 l0 x44_2).f3) (wrap64 ((wrap64 (16 * x18_4)) + 7)) (wrap64 ((wrap64 (16 * x17_3)) + 7)) true _ A33.out).mono ?_
                                          rintro e w38 ⟨rfl,hb⟩
                                          have HS6_:=(hb.cell (World.block_lt_of_cell? _ _ (hHeld.2.2.2.2.2.2))).trans (hHeld.2.2.2.2.2.2);refine ⟨_,rfl,?_⟩;replace HO_10:=am (Kd.R_below (by (with_reducible repeat (first|apply Kd.R_alloc|apply Kd.R_drewN|apply Kd.R_drew));exact HO_10.out) hb);replace BK193:=am (bw (by exact BK193.out) hb);replace HB:=am (ss (by repeat (first|(with_reducible first|exact HB.out|apply sa|apply sn|apply sd|refine sx ?_ GE193.out)|exact HB.out)) hb);(try clear hb);(try clear hb2);(try clear hk);(try clear hi);refine hK.out _ _ ⟨(bc BK193.out 0).trans rfl,(bc BK193.out 1).trans rfl,(bc BK193.out 2).trans rfl,(bc BK193.out 3).trans rfl,(bc BK193.out 4).trans rfl,(bc BK193.out 5).trans rfl,HS6_⟩ (fun hHeld => ?_);clear hK K;refine norm_ (a':=?_) ?_ ?_
                                          rotate_left
                                          · show Act.put _ (some 106) _ = _
                                            simp only [Act.put,q1,q2,q3,i64_w,i32_w]
                                            rfl
                                          refine pure_ (i:=16) (N:=some 107) (v:=?_) (a':=?_) #[true,true,true,true,true,true,true,true,true,true,true,true,true,true,true,true,true] rfl rfl (any_of HT_.out (by kernel_rfl)) (fun _ _ _ h => h) (Or.inl ⟨by rfl,?_⟩) ?_ ?_
                                          rotate_left
                                          · intro w'
                                            go_simp
                                            with_reducible rfl
                                          rotate_left
                                          · simp only [Act.put,q1,q2,q3,i64_w,i32_w]
                                            rfl
                                          refine done_ (done_of HT_.out (by kernel_rfl)) ?_;have hcz39_0 : w38.cell? ⟨gb193,0,none⟩ = some (.int .i64 ((rd_T25 l0 x44_2).f0.f0)):=(bc BK193.out 0).trans rfl;have hcz39_1 : w38.cell? ⟨gb193,1,none⟩ = some (.int .i64 ((rd_T25 l0 x44_2).f0.f1)):=(bc BK193.out 1).trans rfl;have hcz39_2 : w38.cell? ⟨gb193,2,none⟩ = some (.int .i64 ((rd_T25 l0 x44_2).f1.f0)):=(bc BK193.out 2).trans rfl;have hcz39_3 : w38.cell? ⟨gb193,3,none⟩ = some (.int .i64 ((rd_T25 l0 x44_2).f1.f1)):=(bc BK193.out 3).trans rfl;have hcz39_4 : w38.cell? ⟨gb193,4,none⟩ = some (.int .i64 ((rd_T25 l0 x44_2).f2)):=(bc BK193.out 4).trans rfl;have hcz39_5 : w38.cell? ⟨gb193,5,none⟩ = some (.int .i64 ((rd_T25 l0 x44_2).f3)):=(bc BK193.out 5).trans rfl;have hfz39_0:=bz BK193.out 0;have hfz39_1:=bz BK193.out 1;have hfz39_2:=bz BK193.out 2;have hfz39_3:=bz BK193.out 3;have hfz39_4:=bz BK193.out 4;have hfz39_5:=bz BK193.out 5;have p35 : 0 ≤ ((ji29) : Int):=of_decide_eq_true (by first|(with_reducible assumption)|assumption);have q35 : ((ji29) : Int) < ((x10_4.length : Int) : Int):=of_decide_eq_true (by first|(with_reducible assumption)|assumption);obtain ⟨go35,co35,eo35,gb35,gl35,cl35,HG35⟩:=Kd.R_form HO_10.out (by omega)
                                          (first|cases eo35|(injection eo35 with ea_ en_ ec_;(first|subst ea_|(injection ea_ with ea_;subst ea_));subst ec_;clear en_))
                                          have GB35:=am gb35;have GG35:=am HG35;clear gb35 gl35 HG35
                                          (first|simp only [add_plain] at hx198_0|skip)
                                          obtain ⟨hx35_0,hf35_0⟩:=Kd.R_celln 0 HO_10.out ((ji29) : Int) p35 q35;replace p35:=eq_true p35;replace q35:=eq_true q35;obtain ⟨hy40_,hz40_⟩:=Kd.R_celln 0 HO_10.out ((ji29) : Int) (of_decide_eq_true (by first|(with_reducible assumption)|assumption)) (of_decide_eq_true (by first|(with_reducible assumption)|assumption));have HP40:=Kd.R_putg HO_10.out ((ji29) : Int) ((rd_T25 l0 x44_2).f2)
                                          try go_wp2_with (first|((with_reducible refine gate_store (t:=3) (p:=112) rfl ?_);refine store_event (t:=3) (p:=112) (v:=?vo_w41) (w1:=(w38.setCell ⟨go35,((ji29) : Int).toNat,none⟩ (.int .i64 ((rd_T25 l0 x44_2).f2)))) ?hg ?ho ?hn ?hr ?_;(case ho => rfl);(case hg => rfl);(case hn => rfl);(case hr => first|(go_simp;done)|(go_simp;rfl));intro w41 hw;have hg : w38.grownBy w41 (some go35):=(by rw [hw];exact HP40.2);have hp_ : Kd.R (Kd.int .i64) 3 w41 w.heap.size (fun _ => True) (.slice (some ⟨go35,0,none⟩) x10_4.length co37) y200:=(by rw [hw,Ny200.out];exact HP40.1);clear HP40;replace BK193:=am (blk_grown (g:=gb193) (o:=.cells #[.int .i64 ((rd_T25 l0 x44_2).f0.f0),.int .i64 ((rd_T25 l0 x44_2).f0.f1),.int .i64 ((rd_T25 l0 x44_2).f1.f0),.int .i64 ((rd_T25 l0 x44_2).f1.f1),.int .i64 ((rd_T25 l0 x44_2).f2),.int .i64 ((rd_T25 l0 x44_2).f3)] 25 (0,0)) (by exact BK193.out) hg (Kd.R_ne HO_10.out BK193.out (by decide)));replace HO_10:=am (hp_);replace HB:=am ((by rw [hw];exact sx (HB.out) GB35.out : Below w.heap.size w w41));clear hg hw hp_))
                                          go_roundg k4
                                          case measure => have:=HJ3.out;have:=HK2.out;have:=HK3.out;have:=HK4.out;omega
                                          case rel => exact ⟨(y200),(wrap64 (x18_4 + 1)),(by first|rfl|(simp;done)|(simp [*];done)),H',⟨by have:=HJ3.out;have:=HK2.out;have:=HK3.out;have:=HK4.out;omega⟩,⟨by (with_reducible repeat (first|apply Kd.R_alloc|apply Kd.R_drewN|apply Kd.R_drew));exact HO_10.out⟩,⟨by exact BK193.out⟩,⟨by repeat (first|(with_reducible first|exact HB.out|apply sa|apply sn|apply sd|refine sx ?_ GE193.out)|exact HB.out)⟩⟩
                                        · replace c34:=Bool.eq_false_iff.mpr c34
                                          subst c34
                                          have H1 : (stroke_Owners.l2 k4 (wrap64 (4 * a1)) (wrap64 (4 * a2)) x10_4 t194 t195 t197 x17_3 (wrap64 (x18_4 + 1)) l0 (l0.length : Int) x44_2 ((rd_T25 l0 x44_2).f0.f0) ((rd_T25 l0 x44_2).f0.f1) ((rd_T25 l0 x44_2).f1.f0) ((rd_T25 l0 x44_2).f1.f1) ((rd_T25 l0 x44_2).f2) ((rd_T25 l0 x44_2).f3)) = some (r1,r2):=by rw [if_neg (show ¬ (false = true) by decide)] at H;exact H
                                          clear H;have H:=H1;clear H1;have H':=am H;clear H
                                          try go_wp2
                                          replace HO_10:=am (Kd.R_drew HO_10.out);replace BK193:=am (bd BK193.out);replace HB:=am (sd HB.out);obtain ⟨Ao43,co43,eo43⟩:=Kd.R_slice HO_10.out
                                          (first|subst eo43|(injection eo43 with f1_ f2_ f3_;have f4_:=f1_.symm;have f5_:=f3_.symm;clear f1_ f2_ f3_;subst f4_;subst f5_))
                                          have p198 : 0 ≤ ((ji29) : Int):=of_decide_eq_true (by first|(with_reducible assumption)|assumption);have q198 : (ji29) < (x10_4.length : Int):=of_decide_eq_true (by first|(with_reducible assumption)|assumption);obtain ⟨ad198,e198,hx198_0⟩:=Kd.at_int (Kd.R_reads' HO_10.out).2.2 (ji29) p198 q198
                                          cases e198
                                          replace p198:=eq_true p198;replace q198:=eq_true q198;refine start_ (n:=17) (S:=fun w' => w'.cell? ⟨gb193,0,none⟩ = some (.int .i64 ((rd_T25 l0 x44_2).f0.f0)) ∧ w'.cell? ⟨gb193,1,none⟩ = some (.int .i64 ((rd_T25 l0 x44_2).f0.f1)) ∧ w'.cell? ⟨gb193,2,none⟩ = some (.int .i64 ((rd_T25 l0 x44_2).f1.f0)) ∧ w'.cell? ⟨gb193,3,none⟩ = some (.int .i64 ((rd_T25 l0 x44_2).f1.f1)) ∧ w'.cell? ⟨gb193,4,none⟩ = some (.int .i64 ((rd_T25 l0 x44_2).f2)) ∧ w'.cell? ⟨gb193,5,none⟩ = some (.int .i64 ((rd_T25 l0 x44_2).f3)) ∧ w'.cell? (ad198.add ((ji29)).toNat) = some (.int .i64 (rd x10_4 (ji29)))) (ds:=[]) #[false,false,false,false,false,false,false,false,false,false,false,false,false,false,false,false,false] (by kernel_rfl) rfl rfl ⟨(bc BK193.out 0).trans rfl,(bc BK193.out 1).trans rfl,(bc BK193.out 2).trans rfl,(bc BK193.out 3).trans rfl,(bc BK193.out 4).trans rfl,(bc BK193.out 5).trans rfl,hx198_0⟩ (fun hHeld => ?_);refine with_tabW stroke_Owners.tab17 stroke_Owners.bits17 (fun HT_ HW_ => ?_);generalize wr.drew = w42 at HO_10 BK193 HB hx198_0 hHeld ⊢;refine pure_ (i:=0) (N:=some 91) (v:=?_) (a':=?_) #[true,false,false,false,false,false,false,false,false,false,false,false,false,false,false,false,false] rfl rfl (any_of HT_.out (by kernel_rfl)) (fun _ _ _ h => h) (Or.inl ⟨by rfl,?_⟩) ?_ ?_
                                          rotate_left
                                          · intro w'
                                            go_simp
                                            with_reducible rfl
                                          rotate_left
                                          · simp only [Act.put,q1,q2,q3,i64_w,i32_w]
                                            rfl
                                          refine pure_ (i:=1) (N:=some 92) (v:=?_) (a':=?_) #[true,true,false,false,false,false,false,false,false,false,false,false,false,false,false,false,false] rfl rfl (any_of HT_.out (by kernel_rfl)) (fun _ _ _ h => h) (Or.inl ⟨by rfl,?_⟩) ?_ ?_
                                          rotate_left
                                          · intro w'
                                            go_simp
                                            with_reducible rfl
                                          rotate_left
                                          · simp only [Act.put,q1,q2,q3,i64_w,i32_w]
                                            rfl
                                          refine pure_ (i:=2) (N:=some 93) (v:=?_) (a':=?_) #[true,true,true,false,false,false,false,false,false,false,false,false,false,false,false,false,false] rfl rfl (any_of HT_.out (by kernel_rfl)) (fun _ _ _ h => h) (Or.inl ⟨by rfl,?_⟩) ?_ ?_
                                          rotate_left
                                          · intro w'
                                            go_simp
                                            with_reducible rfl
                                          rotate_left
                                          · simp only [Act.put,q1,q2,q3,i64_w,i32_w]
                                            rfl
                                          refine pure_ (i:=4) (N:=some 95) (v:=?_) (a':=?_) #[true,true,true,false,true,false,false,false,false,false,false,false,false,false,false,false,false] rfl rfl (any_of HT_.out (by kernel_rfl)) (fun _ _ _ h => h) (Or.inl ⟨by rfl,?_⟩) ?_ ?_
                                          rotate_left
                                          · intro w'
                                            go_simp
                                            with_reducible rfl
                                          rotate_left
                                          · simp only [Act.put,q1,q2,q3,i64_w,i32_w]
                                            rfl
                                          refine take_ (i:=3) (N:=some 94) (v:=?_) (a':=?_) #[true,true,true,true,true,false,false,false,false,false,false,false,false,false,false,false,false] rfl rfl (take_ofW HT_.out HW_.out (by kernel_rfl)) (fun _ _ _ h => h) (Or.inl ⟨by rfl,?_⟩) hHeld ?_ ?_
                                          rotate_left
                                          · rintro w' ⟨s0,s1,s2,s3,s4,s5,s6⟩
                                            go_simp
                                            with_reducible rfl
                                          rotate_left
                                          · simp only [Act.put,q1,q2,q3,i64_w,i32_w]
                                            rfl
                                          refine take_ (i:=5) (N:=some 96) (v:=?_) (a':=?_) #[true,true,true,true,true,true,false,false,false,false,false,false,false,false,false,false,false] rfl rfl (take_ofW HT_.out HW_.out (by kernel_rfl)) (fun _ _ _ h => h) (Or.inl ⟨by rfl,?_⟩) hHeld ?_ ?_
                                          rotate_left
                                          · rintro w' ⟨s0,s1,s2,s3,s4,s5,s6⟩
                                            go_simp
                                            with_reducible rfl
                                          rotate_left
                                          · simp only [Act.put,q1,q2,q3,i64_w,i32_w]
                                            rfl
                                          refine pure_ (i:=6) (N:=some 97) (v:=?_) (a':=?_) #[true,true,true,true,true,true,true,false,false,false,false,false,false,false,false,false,false] rfl rfl (any_of HT_.out (by kernel_rfl)) (fun _ _ _ h => h) (Or.inl ⟨by rfl,?_⟩) ?_ ?_
                                          rotate_left
                                          · intro w'
                                            go_simp
                                            with_reducible rfl
                                          rotate_left
                                          · simp only [Act.put,q1,q2,q3,i64_w,i32_w]
                                            rfl
                                          refine pure_ (i:=7) (N:=some 98) (v:=?_) (a':=?_) #[true,true,true,true,true,true,true,true,false,false,false,false,false,false,false,false,false] rfl rfl (any_of HT_.out (by kernel_rfl)) (fun _ _ _ h => h) (Or.inl ⟨by rfl,?_⟩) ?_ ?_
                                          rotate_left
                                          · intro w'
                                            go_simp
                                            with_reducible rfl
                                          rotate_left
                                          · simp only [Act.put,q1,q2,q3,i64_w,i32_w]
                                            rfl
                                          refine pure_ (i:=9) (N:=some 100) (v:=?_) (a':=?_) #[true,true,true,true,true,true,true,true,false,true,false,false,false,false,false,false,false] rfl rfl (any_of HT_.out (by kernel_rfl)) (fun _ _ _ h => h) (Or.inl ⟨by rfl,?_⟩) ?_ ?_
                                          rotate_left
                                          · intro w'
                                            go_simp
                                            with_reducible rfl
                                          rotate_left
                                          · simp only [Act.put,q1,q2,q3,i64_w,i32_w]
                                            rfl
                                          refine pure_ (i:=10) (N:=some 101) (v:=?_) (a':=?_) #[true,true,true,true,true,true,true,true,false,true,true,false,false,false,false,false,false] rfl rfl (any_of HT_.out (by kernel_rfl)) (fun _ _ _ h => h) (Or.inl ⟨by rfl,?_⟩) ?_ ?_
                                          rotate_left
                                          · intro w'
                                            go_simp
                                            with_reducible rfl
                                          rotate_left
                                          · simp only [Act.put,q1,q2,q3,i64_w,i32_w]
                                            rfl
                                          refine pure_ (i:=11) (N:=some 102) (v:=?_) (a':=?_) #[true,true,true,true,true,true,true,true,false,true,true,true,false,false,false,false,false] rfl rfl (any_of HT_.out (by kernel_rfl)) (fun _ _ _ h => h) (Or.inl ⟨by rfl,?_⟩) ?_ ?_
                                          rotate_left
                                          · intro w'
                                            go_simp
                                            with_reducible rfl
                                          rotate_left
                                          · simp only [Act.put,q1,q2,q3,i64_w,i32_w]
                                            rfl
                                          refine pure_ (i:=12) (N:=some 103) (v:=?_) (a':=?_) #[true,true,true,true,true,true,true,true,false,true,true,true,true,false,false,false,false] rfl rfl (any_of HT_.out (by kernel_rfl)) (fun _ _ _ h => h) (Or.inl ⟨by rfl,?_⟩) ?_ ?_
                                          rotate_left
                                          · intro w'
                                            go_simp
                                            with_reducible rfl
                                          rotate_left
                                          · simp only [Act.put,q1,q2,q3,i64_w,i32_w]
                                            rfl
                                          refine pure_ (i:=13) (N:=some 104) (v:=?_) (a':=?_) #[true,true,true,true,true,true,true,true,false,true,true,true,true,true,false,false,false] rfl rfl (any_of HT_.out (by kernel_rfl)) (fun _ _ _ h => h) (Or.inl ⟨by rfl,?_⟩) ?_ ?_
                                          rotate_left
                                          · intro w'
                                            go_simp
                                            with_reducible rfl
                                          rotate_left
                                          · simp only [Act.put,q1,q2,q3,i64_w,i32_w]
                                            rfl
                                          refine pure_ (i:=14) (N:=some 105) (v:=?_) (a':=?_) #[true,true,true,true,true,true,true,true,false,true,true,true,true,true,true,false,false] rfl rfl (any_of HT_.out (by kernel_rfl)) (fun _ _ _ h => h) (Or.inl ⟨by rfl,?_⟩) ?_ ?_
                                          rotate_left
                                          · intro w'
                                            go_simp
                                            with_reducible rfl
                                          rotate_left
                                          · simp only [Act.put,q1,q2,q3,i64_w,i32_w]
                                            rfl
                                          refine take_ (i:=8) (N:=some 99) (v:=?_) (a':=?_) #[true,true,true,true,true,true,true,true,true,true,true,true,true,true,true,false,false] rfl rfl (take_ofW HT_.out HW_.out (by kernel_rfl)) (fun _ _ _ h => h) (Or.inl ⟨by rfl,?_⟩) hHeld ?_ ?_
                                          rotate_left
                                          · rintro w' ⟨s0,s1,s2,s3,s4,s5,s6⟩
                                            go_simp
                                            with_reducible rfl
                                          rotate_left
                                          · simp only [Act.put,q1,q2,q3,i64_w,i32_w]
                                            rfl
                                          refine one_ (i:=15) (N:=some 106) #[true,true,true,true,true,true,true,true,true,true,true,true,true,true,true,true,false] rfl rfl (one_of HT_.out (by kernel_rfl)) (by decide) (fun K hK => ?_);refine goes_ Try.func25 (by kernel_rfl) rfl #[.agg #[.int .i64 ((rd_T25 l0 x44_2).f0.f0),.int .i64 ((rd_T25 l0 x44_2).f0.f1),.int .i64 ((rd_T25 l0 x44_2).f1.f0),.int .i64 ((rd_T25 l0 x44_2).f1.f1),.int .i64 ((rd_T25 l0 x44_2).f2),.int .i64 ((rd_T25 l0 x44_2).f3)],.int .i64 (wrap64 ((wrap64 (16 * x18_4)) + 7)),.int .i64 (wrap64 ((wrap64 (16 * x17_3)) + 7))] (by rfl) rfl rfl (by (try simp only [List.map_toArray,List.map_cons,List.map_nil]);first|done|rfl|(simp only [List.length_drop,List.length_take];rfl)) ?_
                                          with_reducible refine (stroke_near.calls ((rd_T25 l0 x44_2).f0.f0) ((rd_T25 l0 x44_2).f0.f1) ((rd_T25 l0 x44_2).f1.f0) ((rd_T25 l0 x44_2).f1.f1) ((rd_T25 l0 x44_2).f2) ((rd_T25 l0 x44_2).f3) (wrap64 ((wrap64 (16 * x18_4)) + 7)) (wrap64 ((wrap64 (16 * x17_3)) + 7)) false _ A33.out).mono ?_
                                          rintro e w44 ⟨rfl,hb⟩
                                          have HS6_:=(hb.cell (World.block_lt_of_cell? _ _ (hHeld.2.2.2.2.2.2))).trans (hHeld.2.2.2.2.2.2);refine ⟨_,rfl,?_⟩;replace HO_10:=am (Kd.R_below (by (with_reducible repeat (first|apply Kd.R_alloc|apply Kd.R_drewN|apply Kd.R_drew));exact HO_10.out) hb);replace BK193:=am (bw (by exact BK193.out) hb);replace HB:=am (ss (by repeat (first|(with_reducible first|exact HB.out|apply sa|apply sn|apply sd|refine sx ?_ GE193.out)|exact HB.out)) hb);(try clear hb);(try clear hb2);(try clear hk);(try clear hi);refine hK.out _ _ ⟨(bc BK193.out 0).trans rfl,(bc BK193.out 1).trans rfl,(bc BK193.out 2).trans rfl,(bc BK193.out 3).trans rfl,(bc BK193.out 4).trans rfl,(bc BK193.out 5).trans rfl,HS6_⟩ (fun hHeld => ?_);clear hK K;refine norm_ (a':=?_) ?_ ?_
                                          rotate_left
                                          · show Act.put _ (some 106) _ = _
                                            simp only [Act.put,q1,q2,q3,i64_w,i32_w]
                                            rfl
                                          refine pure_ (i:=16) (N:=some 107) (v:=?_) (a':=?_) #[true,true,true,true,true,true,true,true,true,true,true,true,true,true,true,true,true] rfl rfl (any_of HT_.out (by kernel_rfl)) (fun _ _ _ h => h) (Or.inl ⟨by rfl,?_⟩) ?_ ?_
                                          rotate_left
                                          · intro w'
                                            go_simp
                                            with_reducible rfl
                                          rotate_left
                                          · simp only [Act.put,q1,q2,q3,i64_w,i32_w]
                                            rfl
                                          refine done_ (done_of HT_.out (by kernel_rfl)) ?_
                                          try go_wp2
                                          go_roundg k4
                                          case measure => have:=HJ3.out;have:=HK2.out;have:=HK3.out;have:=HK4.out;omega
                                          case rel => exact ⟨(x10_4),(wrap64 (x18_4 + 1)),(by first|rfl|(simp;done)|(simp [*];done)),H',⟨by have:=HJ3.out;have:=HK2.out;have:=HK3.out;have:=HK4.out;omega⟩,⟨by (with_reducible repeat (first|apply Kd.R_alloc|apply Kd.R_drewN|apply Kd.R_drew));exact HO_10.out⟩,⟨by exact BK193.out⟩,⟨by repeat (first|(with_reducible first|exact HB.out|apply sa|apply sn|apply sd|refine sx ?_ GE193.out)|exact HB.out)⟩⟩
                                      · rw [if_neg c32] at H
                                        have c32b0 : decide ((rd x10_4 (ji29)) < ((rd_T25 l0 x44_2).f2)) = false:=decide_eq_false c32;clear c32;have H':=am H;clear H
                                        try go_wp2
                                        replace HO_10:=am (Kd.R_drew HO_10.out);replace BK193:=am (bd BK193.out);replace HB:=am (sd HB.out);obtain ⟨Ao46,co46,eo46⟩:=Kd.R_slice HO_10.out
                                        (first|subst eo46|(injection eo46 with f1_ f2_ f3_;have f4_:=f1_.symm;have f5_:=f3_.symm;clear f1_ f2_ f3_;subst f4_;subst f5_))
                                        have p198 : 0 ≤ ((ji29) : Int):=of_decide_eq_true (by first|(with_reducible assumption)|assumption);have q198 : (ji29) < (x10_4.length : Int):=of_decide_eq_true (by first|(with_reducible assumption)|assumption);obtain ⟨ad198,e198,hx198_0⟩:=Kd.at_int (Kd.R_reads' HO_10.out).2.2 (ji29) p198 q198
                                        cases e198
                                        replace p198:=eq_true p198;replace q198:=eq_true q198;refine start_ (n:=17) (S:=fun w' => w'.cell? ⟨gb193,0,none⟩ = some (.int .i64 ((rd_T25 l0 x44_2).f0.f0)) ∧ w'.cell? ⟨gb193,1,none⟩ = some (.int .i64 ((rd_T25 l0 x44_2).f0.f1)) ∧ w'.cell? ⟨gb193,2,none⟩ = some (.int .i64 ((rd_T25 l0 x44_2).f1.f0)) ∧ w'.cell? ⟨gb193,3,none⟩ = some (.int .i64 ((rd_T25 l0 x44_2).f1.f1)) ∧ w'.cell? ⟨gb193,4,none⟩ = some (.int .i64 ((rd_T25 l0 x44_2).f2)) ∧ w'.cell? ⟨gb193,5,none⟩ = some (.int .i64 ((rd_T25 l0 x44_2).f3)) ∧ w'.cell? (ad198.add ((ji29)).toNat) = some (.int .i64 (rd x10_4 (ji29)))) (ds:=[]) #[false,false,false,false,false,false,false,false,false,false,false,false,false,false,false,false,false] (by kernel_rfl) rfl rfl ⟨(bc BK193.out 0).trans rfl,(bc BK193.out 1).trans rfl,(bc BK193.out 2).trans rfl,(bc BK193.out 3).trans rfl,(bc BK193.out 4).trans rfl,(bc BK193.out 5).trans rfl,hx198_0⟩ (fun hHeld => ?_);refine with_tabW stroke_Owners.tab17 stroke_Owners.bits17 (fun HT_ HW_ => ?_);generalize wr.drew = w45 at HO_10 BK193 HB hx198_0 hHeld ⊢;refine pure_ (i:=0) (N:=some 91) (v:=?_) (a':=?_) #[true,false,false,false,false,false,false,false,false,false,false,false,false,false,false,false,false] rfl rfl (any_of HT_.out (by kernel_rfl)) (fun _ _ _ h => h) (Or.inl ⟨by rfl,?_⟩) ?_ ?_
                                        rotate_left
                                        · intro w'
                                          go_simp
                                          with_reducible rfl
                                        rotate_left
                                        · simp only [Act.put,q1,q2,q3,i64_w,i32_w]
                                          rfl
                                        refine pure_ (i:=1) (N:=some 92) (v:=?_) (a':=?_) #[true,true,false,false,false,false,false,false,false,false,false,false,false,false,false,false,false] rfl rfl (any_of HT_.out (by kernel_rfl)) (fun _ _ _ h => h) (Or.inl ⟨by rfl,?_⟩) ?_ ?_
                                        rotate_left
                                        · intro w'
                                          go_simp
                                          with_reducible rfl
                                        rotate_left
                                        · simp only [Act.put,q1,q2,q3,i64_w,i32_w]
                                          rfl
                                        refine pure_ (i:=2) (N:=some 93) (v:=?_) (a':=?_) #[true,true,true,false,false,false,false,false,false,false,false,false,false,false,false,false,false] rfl rfl (any_of HT_.out (by kernel_rfl)) (fun _ _ _ h => h) (Or.inl ⟨by rfl,?_⟩) ?_ ?_
                                        rotate_left
                                        · intro w'
                                          go_simp
                                          with_reducible rfl
                                        rotate_left
                                        · simp only [Act.put,q1,q2,q3,i64_w,i32_w]
                                          rfl
                                        refine pure_ (i:=4) (N:=some 95) (v:=?_) (a':=?_) #[true,true,true,false,true,false,false,false,false,false,false,false,false,false,false,false,false] rfl rfl (any_of HT_.out (by kernel_rfl)) (fun _ _ _ h => h) (Or.inl ⟨by rfl,?_⟩) ?_ ?_
                                        rotate_left
                                        · intro w'
                                          go_simp
                                          with_reducible rfl
                                        rotate_left
                                        · simp only [Act.put,q1,q2,q3,i64_w,i32_w]
                                          rfl
                                        refine take_ (i:=3) (N:=some 94) (v:=?_) (a':=?_) #[true,true,true,true,true,false,false,false,false,false,false,false,false,false,false,false,false] rfl rfl (take_ofW HT_.out HW_.out (by kernel_rfl)) (fun _ _ _ h => h) (Or.inl ⟨by rfl,?_⟩) hHeld ?_ ?_
                                        rotate_left
                                        · rintro w' ⟨s0,s1,s2,s3,s4,s5,s6⟩
                                          go_simp
                                          with_reducible rfl
                                        rotate_left
                                        · simp only [Act.put,q1,q2,q3,i64_w,i32_w]
                                          rfl
                                        refine take_ (i:=5) (N:=some 96) (v:=?_) (a':=?_) #[true,true,true,true,true,true,false,false,false,false,false,false,false,false,false,false,false] rfl rfl (take_ofW HT_.out HW_.out (by kernel_rfl)) (fun _ _ _ h => h) (Or.inl ⟨by rfl,?_⟩) hHeld ?_ ?_
                                        rotate_left
                                        · rintro w' ⟨s0,s1,s2,s3,s4,s5,s6⟩
                                          go_simp
                                          with_reducible rfl
                                        rotate_left
                                        · simp only [Act.put,q1,q2,q3,i64_w,i32_w]
                                          rfl
                                        refine pure_ (i:=6) (N:=some 97) (v:=?_) (a':=?_) #[true,true,true,true,true,true,true,false,false,false,false,false,false,false,false,false,false] rfl rfl (any_of HT_.out (by kernel_rfl)) (fun _ _ _ h => h) (Or.inl ⟨by rfl,?_⟩) ?_ ?_
                                        rotate_left
                                        · intro w'
                                          go_simp
                                          with_reducible rfl
                                        rotate_left
                                        · simp only [Act.put,q1,q2,q3,i64_w,i32_w]
                                          rfl
                                        refine pure_ (i:=7) (N:=some 98) (v:=?_) (a':=?_) #[true,true,true,true,true,true,true,true,false,false,false,false,false,false,false,false,false] rfl rfl (any_of HT_.out (by kernel_rfl)) (fun _ _ _ h => h) (Or.inl ⟨by rfl,?_⟩) ?_ ?_
                                        rotate_left
                                        · intro w'
                                          go_simp
                                          with_reducible rfl
                                        rotate_left
                                        · simp only [Act.put,q1,q2,q3,i64_w,i32_w]
                                          rfl
                                        refine pure_ (i:=8) (N:=some 99) (v:=undef) (a':=?_) #[true,true,true,true,true,true,true,true,true,false,false,false,false,false,false,false,false] rfl rfl (any_of HT_.out (by kernel_rfl)) (fun _ _ _ h => h) (Or.inr ⟨by rfl,rfl⟩) ?_ ?_
                                        rotate_left
                                        · simp only [Act.put,q1,q2,q3,i64_w,i32_w]
                                          rfl
                                        refine pure_ (i:=9) (N:=some 100) (v:=undef) (a':=?_) #[true,true,true,true,true,true,true,true,true,true,false,false,false,false,false,false,false] rfl rfl (any_of HT_.out (by kernel_rfl)) (fun _ _ _ h => h) (Or.inr ⟨by rfl,rfl⟩) ?_ ?_
                                        rotate_left
                                        · simp only [Act.put,q1,q2,q3,i64_w,i32_w]
                                          rfl
                                        refine pure_ (i:=10) (N:=some 101) (v:=undef) (a':=?_) #[true,true,true,true,true,true,true,true,true,true,true,false,false,false,false,false,false] rfl rfl (any_of HT_.out (by kernel_rfl)) (fun _ _ _ h => h) (Or.inr ⟨by rfl,rfl⟩) ?_ ?_
                                        rotate_left
                                        · simp only [Act.put,q1,q2,q3,i64_w,i32_w]
                                          rfl
                                        refine pure_ (i:=11) (N:=some 102) (v:=undef) (a':=?_) #[true,true,true,true,true,true,true,true,true,true,true,true,false,false,false,false,false] rfl rfl (any_of HT_.out (by kernel_rfl)) (fun _ _ _ h => h) (Or.inr ⟨by rfl,rfl⟩) ?_ ?_
                                        rotate_left
                                        · simp only [Act.put,q1,q2,q3,i64_w,i32_w]
                                          rfl
                                        refine pure_ (i:=12) (N:=some 103) (v:=undef) (a':=?_) #[true,true,true,true,true,true,true,true,true,true,true,true,true,false,false,false,false] rfl rfl (any_of HT_.out (by kernel_rfl)) (fun _ _ _ h => h) (Or.inr ⟨by rfl,rfl⟩) ?_ ?_
                                        rotate_left
                                        · simp only [Act.put,q1,q2,q3,i64_w,i32_w]
                                          rfl
                                        refine pure_ (i:=13) (N:=some 104) (v:=undef) (a':=?_) #[true,true,true,true,true,true,true,true,true,true,true,true,true,true,false,false,false] rfl rfl (any_of HT_.out (by kernel_rfl)) (fun _ _ _ h => h) (Or.inr ⟨by rfl,rfl⟩) ?_ ?_
                                        rotate_left
                                        · simp only [Act.put,q1,q2,q3,i64_w,i32_w]
                                          rfl
                                        refine pure_ (i:=14) (N:=some 105) (v:=undef) (a':=?_) #[true,true,true,true,true,true,true,true,true,true,true,true,true,true,true,false,false] rfl rfl (any_of HT_.out (by kernel_rfl)) (fun _ _ _ h => h) (Or.inr ⟨by rfl,rfl⟩) ?_ ?_
                                        rotate_left
                                        · simp only [Act.put,q1,q2,q3,i64_w,i32_w]
                                          rfl
                                        refine pure_ (i:=15) (N:=some 106) (v:=undef) (a':=?_) #[true,true,true,true,true,true,true,true,true,true,true,true,true,true,true,true,false] rfl rfl (any_of HT_.out (by kernel_rfl)) (fun _ _ _ h => h) (Or.inr ⟨by rfl,rfl⟩) ?_ ?_
                                        rotate_left
                                        · simp only [Act.put,q1,q2,q3,i64_w,i32_w]
                                          rfl
                                        refine pure_ (i:=16) (N:=some 107) (v:=?_) (a':=?_) #[true,true,true,true,true,true,true,true,true,true,true,true,true,true,true,true,true] rfl rfl (any_of HT_.out (by kernel_rfl)) (fun _ _ _ h => h) (Or.inl ⟨by rfl,?_⟩) ?_ ?_
                                        rotate_left
                                        · intro w'
                                          go_simp
                                          with_reducible rfl
                                        rotate_left
                                        · simp only [Act.put,q1,q2,q3,i64_w,i32_w]
                                          rfl
                                        refine done_ (done_of HT_.out (by kernel_rfl)) ?_
                                        try go_wp2
                                        go_roundg k4
                                        case measure => have:=HJ3.out;have:=HK2.out;have:=HK3.out;have:=HK4.out;omega
                                        case rel => exact ⟨(x10_4),(wrap64 (x18_4 + 1)),(by first|rfl|(simp;done)|(simp [*];done)),H',⟨by have:=HJ3.out;have:=HK2.out;have:=HK3.out;have:=HK4.out;omega⟩,⟨by (with_reducible repeat (first|apply Kd.R_alloc|apply Kd.R_drewN|apply Kd.R_drew));exact HO_10.out⟩,⟨by exact BK193.out⟩,⟨by repeat (first|(with_reducible first|exact HB.out|apply sa|apply sn|apply sd|refine sx ?_ GE193.out)|exact HB.out)⟩⟩
                                    · rw [if_neg c31] at H
                                      exact absurd H (by simp)
                                  · rw [if_neg c30] at H
                                    exact absurd H (by simp)
                                · rw [if_neg c28] at H
                                  have c28b0 : decide (x18_4 < t195) = false:=decide_eq_false c28;clear c28;have H':=am H;clear H
                                  go_wp2
                                  go_roundg k4
                                  case measure => have:=HJ3.out;have:=HK2.out;have:=HK3.out;have:=HK4.out;omega
                                  case rel => exact ⟨(x10_4),(wrap64 (x17_3 + 1)),(by first|rfl|(simp;done)|(simp [*];done)),H',⟨by have:=HJ3.out;have:=HK2.out;have:=HK3.out;have:=HK4.out;omega⟩,⟨by (with_reducible repeat (first|apply Kd.R_alloc|apply Kd.R_drewN|apply Kd.R_drew));exact HO_10.out⟩,⟨by exact BK193.out⟩,⟨by repeat (first|(with_reducible first|exact HB.out|apply sa|apply sn|apply sd|refine sx ?_ GE193.out)|exact HB.out)⟩⟩
                          · rw [if_neg c27] at H
                            have c27b0 : decide (x17_3 < t197) = false:=decide_eq_false c27;clear c27;have H':=am H;clear H
                            go_wp2
                            go_roundg k3
                            case measure => have:=HJ3.out;have:=HK2.out;have:=HK3.out;omega
                            case rel => exact ⟨(x10_3),(wrap64 (x44_2 + 1)),(by first|rfl|(simp;done)|(simp [*];done)),H',⟨by have:=HJ3.out;have:=HK2.out;have:=HK3.out;omega⟩,⟨by (with_reducible repeat (first|apply Kd.R_alloc|apply Kd.R_drewN|apply Kd.R_drew));exact HO_10.out⟩,⟨by repeat (first|(with_reducible first|exact HB.out|apply sa|apply sn|apply sd|refine sx ?_ GE193.out)|exact HB.out)⟩⟩
                    · rw [if_neg c19] at H
                      exact absurd H (by simp)
                  · rw [if_neg c18] at H
                    exact absurd H (by simp)
                · rw [if_neg c17] at H
                  have c17b0 : decide (x44_2 < (l0.length : Int)) = false:=decide_eq_false c17;clear c17;simp only [Option.some.injEq,Prod.mk.injEq] at H;obtain ⟨rfl,rfl⟩:=H
                  go_wp2
                  go_ret2
                  exact ⟨_,by first|rfl|(simp [errW_none,errW_some] <;> rfl)|(simp only [← hji12];first|rfl|(simp [errW_none,errW_some] <;> rfl))|(simp [*,errW_none,errW_some] <;> rfl),by (with_reducible repeat (first|apply Kd.R_alloc|apply Kd.R_drewN|apply Kd.R_drew));exact HO_10.out,by repeat (first|(with_reducible first|exact HB.out|apply sa|apply sn|apply sd)|exact HB.out)⟩
          · rw [if_neg c14] at H
            exact absurd H (by simp)
        · rw [if_neg c13] at H
          exact absurd H (by simp)

end Go.Proofs.Ytnofihkmgedbfaa.P
