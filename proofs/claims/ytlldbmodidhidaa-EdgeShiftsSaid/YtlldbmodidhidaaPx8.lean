/- Printed by printx.py (wip/tool) out of the translation: plain functions that tell what the program answers,and the proofs that the program comes to these answers,for all arguments of their kinds. Lean checks it. -/
import Derived.Test.YtlldbmodidhidaaShort
import Derived.Test.YtlldbmodidhidaaPx0
import Derived.Test.YtlldbmodidhidaaPx7
namespace Go.Proofs.Ytlldbmodidhidaa.P
open Go.RowKit Go.Proofs.YtlldbmodidhidaaW.PrintWords Go.Proofs.YtlldbmodidhidaaW.PrintLast Go.Proofs.YtlldbmodidhidaaW.PrintMore
attribute [local go_sem] max2_int min2_int max_two min_two max_three min_three max_four min_four max_five min_five max_six min_six   -- for this text's walks alone
set_option linter.unusedVariables false
set_option linter.unusedSimpArgs false

attribute [local go_sem high] eqA86
/-! ### celluloidref08_Small: function 17 -/
def celluloidref08_Small.l0 : Nat → List (S65) → List (S79) → Int → Option (Bool)
  | 0,_,_,_ => none
  | k + 1,x0,x1,x5 => if x5 < (x0.length : Int) then (if 0 ≤ x5 then (if (((rd_T65 x0 x5).f4).length : Int) > 20 then (some false) else (celluloidref08_Small.l0 k x0 x1 (wrap64 (x5 + 1)))) else (none)) else (if (x0.length : Int) < 30 then (some (decide ((x1.length : Int) < 30))) else (some false))
def celluloidref08_Small.f (k : Nat) (l0 : List (S65)) (l1 : List (S79)) : Option (Bool):=celluloidref08_Small.l0 k l0 l1 0
theorem celluloidref08_Small.mono_l : ∀ k,(∀ y0 y1 y2,LeO (celluloidref08_Small.l0 k y0 y1 y2) (celluloidref08_Small.l0 (k + 1) y0 y1 y2))
  | 0 => fun _ _ _ r h => by simp [celluloidref08_Small.l0] at h
  | k + 1 => by
    have ih0:=celluloidref08_Small.mono_l k
    · intro y0 y1 y2
      unfold celluloidref08_Small.l0
      repeat' first
      | (with_reducible exact ih0 _ _ _)
      | (with_reducible exact LeO.refl _)
      | (with_reducible exact LeO.none _)
      | (with_reducible refine LeO.ite ?_ ?_)
      | (with_reducible refine LeO.bind ?_ (fun _ => ?_))
      | exact ih0 _ _ _
      | exact LeO.none _
      | refine LeO.ite ?_ ?_
      | refine LeO.bind ?_ (fun _ => ?_)
theorem celluloidref08_Small.mono : ∀ a0 a1 k,LeO (celluloidref08_Small.f k a0 a1) (celluloidref08_Small.f (k + 1) a0 a1):=by
  intro a0 a1 k
  have ih0:=celluloidref08_Small.mono_l k
  unfold celluloidref08_Small.f
  repeat' first
      | (with_reducible exact ih0 _ _ _)
      | (with_reducible exact LeO.refl _)
      | (with_reducible exact LeO.none _)
      | (with_reducible refine LeO.ite ?_ ?_)
      | (with_reducible refine LeO.bind ?_ (fun _ => ?_))
      | exact ih0 _ _ _
      | exact LeO.none _
      | refine LeO.ite ?_ ?_
      | refine LeO.bind ?_ (fun _ => ?_)
set_option maxHeartbeats 8000000 in
set_option maxRecDepth 100000 in
theorem celluloidref08_Small.calls (k : Nat) (A0 : Option Addr) (c0 : Nat) (l0 : List (S65)) (A1 : Option Addr) (c1 : Nat) (l1 : List (S79)) (r : Bool) (w : World) (hr0 : Kd.C k65 w A0 l0.length l0) (hc0 : l0.length ≤ c0) (hr1 : Kd.C k79 w A1 l1.length l1) (hc1 : l1.length ≤ c1) (h : celluloidref08_Small.f k l0 l1 = some r) :
    Calls Try.prog 17 #[.slice A0 l0.length c0,.slice A1 l1.length c1] w fun e w' => e = .returned (.bool r) ∧ Drawn0 w w':=by
  have HR0:=am hr0;have HC0:=am hc0;clear hr0 hc0;have HR1:=am hr1;have HC1:=am hc1;clear hr1 hc1;have H : (celluloidref08_Small.l0 k l0 l1 0) = some r:=h;clear h;have H':=am H;clear H
  go_enter Try.func17,Try.ntmps17
  go_wp2
  go_loopg [5] k (fun kq v5 w' => ∃ (x5_1 : Int),v5 = .int .i64 x5_1 ∧ Aside0 (celluloidref08_Small.l0 kq l0 l1 x5_1 = some r) ∧ Aside0 (kq ≤ k) ∧ Drawn0 w w')
  case atStart => exact ⟨(0),(by first|rfl|(simp;done)|(simp [*];done)),H',⟨Nat.le_refl _⟩,by repeat (first|exact Drawn0.refl _|apply Drawn0.step)⟩
  case round =>
    clear H'
    (try clear c1);(try clear p2)
    obtain ⟨x5_1,rfl,HA,HK1,⟨m1,rfl⟩⟩:=hrel
    cases gk with
    | zero => exact absurd HA.out (by simp [celluloidref08_Small.l0])
    | succ k1 =>
      have H:=HA.out;clear HA;simp only [celluloidref08_Small.l0] at H
      by_cases c3 : x5_1 < (l0.length : Int)
      · rw [if_pos c3] at H
        have c3b0 : decide (x5_1 < (l0.length : Int)) = true:=decide_eq_true c3;clear c3
        by_cases c4 : 0 ≤ x5_1
        · rw [if_pos c4] at H
          have c4b0 : decide (0 ≤ x5_1) = true:=decide_eq_true c4;clear c4
          by_cases c5 : (((rd_T65 l0 x5_1).f4).length : Int) > 20
          · rw [if_pos c5] at H
            have c5b0 : decide (20 < (((rd_T65 l0 x5_1).f4).length : Int)) = true:=decide_eq_true c5;have c5b1 : decide (20 < ((rd_T65 l0 x5_1).f4).length) = true:=decide_eq_true (by omega);clear c5;obtain rfl:=Option.some.inj H;have p101 : 0 ≤ (x5_1 : Int):=of_decide_eq_true (by first|(with_reducible assumption)|assumption);have q101 : x5_1 < (l0.length : Int):=of_decide_eq_true (by first|(with_reducible assumption)|assumption);obtain ⟨ad101,A101_12,c101_12,e101,hx101_0,hx101_1,hx101_2,hx101_3,hx101_4,hx101_5,hx101_6,hx101_7,hx101_8,hx101_9,hx101_10,hx101_11,hx101_12,hx101_13,hl101_12,hi101_12⟩:=at_T65 HR0.out x5_1 p101 q101
            cases e101
            have HR101_12:=am hi101_12;have HC101_12:=am hl101_12;clear hi101_12 hl101_12;replace p101:=eq_true p101;replace q101:=eq_true q101
            go_wp2
            go_ret
            exact ⟨by first|rfl|(simp;done)|(simp [*];done),by repeat (first|exact Drawn0.refl _|apply Drawn0.step)⟩
          · rw [if_neg c5] at H
            have c5b0 : decide (20 < (((rd_T65 l0 x5_1).f4).length : Int)) = false:=decide_eq_false c5;have c5b1 : decide (20 < ((rd_T65 l0 x5_1).f4).length) = false:=decide_eq_false (by omega);clear c5;have H':=am H;clear H;have p101 : 0 ≤ (x5_1 : Int):=of_decide_eq_true (by first|(with_reducible assumption)|assumption);have q101 : x5_1 < (l0.length : Int):=of_decide_eq_true (by first|(with_reducible assumption)|assumption);obtain ⟨ad101,A101_12,c101_12,e101,hx101_0,hx101_1,hx101_2,hx101_3,hx101_4,hx101_5,hx101_6,hx101_7,hx101_8,hx101_9,hx101_10,hx101_11,hx101_12,hx101_13,hl101_12,hi101_12⟩:=at_T65 HR0.out x5_1 p101 q101
            cases e101
            have HR101_12:=am hi101_12;have HC101_12:=am hl101_12;clear hi101_12 hl101_12;replace p101:=eq_true p101;replace q101:=eq_true q101
            go_wp2
            go_roundg k1
            case measure => have:=HK1.out;omega
            case rel => exact ⟨(wrap64 (x5_1 + 1)),(by first|rfl|(simp;done)|(simp [*];done)),H',⟨by have:=HK1.out;omega⟩,by repeat (first|exact Drawn0.refl _|apply Drawn0.step)⟩
        · rw [if_neg c4] at H
          exact absurd H (by simp)
      · rw [if_neg c3] at H
        have c3b0 : decide (x5_1 < (l0.length : Int)) = false:=decide_eq_false c3;clear c3
        by_cases c6 : (l0.length : Int) < 30
        · rw [if_pos c6] at H
          have c6b0 : decide ((l0.length : Int) < 30) = true:=decide_eq_true c6;have c6b1 : decide (l0.length < 30) = true:=decide_eq_true (by omega);clear c6;obtain rfl:=Option.some.inj H
          go_wp2
          go_ret
          exact ⟨by first|rfl|(simp;done)|(simp [*];done),by repeat (first|exact Drawn0.refl _|apply Drawn0.step)⟩
        · rw [if_neg c6] at H
          have c6b0 : decide ((l0.length : Int) < 30) = false:=decide_eq_false c6;have c6b1 : decide (l0.length < 30) = false:=decide_eq_false (by omega);clear c6;obtain rfl:=Option.some.inj H
          go_wp2
          go_ret
          exact ⟨by first|rfl|(simp;done)|(simp [*];done),by repeat (first|exact Drawn0.refl _|apply Drawn0.step)⟩

/-! ### celluloidref09_Small: function 18 -/
mutual
def celluloidref09_Small.l0 : Nat → List (S49) → Int → Int → Option (Bool)
  | 0,_,_,_ => none
  | k + 1,x0,x1,x5 => if x5 < (x0.length : Int) then (celluloidref09_Small.j1 k x0 x1 x5 (decide (x5 < x1))) else (celluloidref09_Small.j1 k x0 x1 x5 false)
def celluloidref09_Small.j1 : Nat → List (S49) → Int → Int → Bool → Option (Bool)
  | 0,_,_,_,_ => none
  | k + 1,x0,x1,x5,x14 => if x14 = true then (if 0 ≤ x5 then (if x5 < (x0.length : Int) then ((celluloidref08_Small.f k ((rd_T49 x0 x5).f8) ((rd_T49 x0 x5).f9)).bind fun t104 => (if t104 = true then (celluloidref09_Small.l0 k x0 x1 (wrap64 (x5 + 1))) else (some false))) else (none)) else (none)) else (some (decide ((x0.length : Int) ≤ x1)))
end
def celluloidref09_Small.f (k : Nat) (l0 : List (S49)) (a1 : Int) : Option (Bool):=celluloidref09_Small.l0 k l0 a1 0
theorem celluloidref09_Small.mono_l : ∀ k,(∀ y0 y1 y2,LeO (celluloidref09_Small.l0 k y0 y1 y2) (celluloidref09_Small.l0 (k + 1) y0 y1 y2)) ∧ (∀ y0 y1 y2 y3,LeO (celluloidref09_Small.j1 k y0 y1 y2 y3) (celluloidref09_Small.j1 (k + 1) y0 y1 y2 y3))
  | 0 => ⟨fun _ _ _ r h => by simp [celluloidref09_Small.l0] at h,fun _ _ _ _ r h => by simp [celluloidref09_Small.j1] at h⟩
  | k + 1 => by
    obtain ⟨ih0,ih1⟩:=celluloidref09_Small.mono_l k;refine ⟨?_,?_⟩
    · intro y0 y1 y2
      unfold celluloidref09_Small.l0
      repeat' first
      | (with_reducible exact ih0 _ _ _)
      | (with_reducible exact ih1 _ _ _ _)
      | (with_reducible exact celluloidref08_Small.mono _ _ _)
      | (with_reducible exact LeO.refl _)
      | (with_reducible exact LeO.none _)
      | (with_reducible refine LeO.ite ?_ ?_)
      | (with_reducible refine LeO.bind ?_ (fun _ => ?_))
      | exact ih0 _ _ _
      | exact ih1 _ _ _ _
      | exact celluloidref08_Small.mono _ _ _
      | exact LeO.none _
      | refine LeO.ite ?_ ?_
      | refine LeO.bind ?_ (fun _ => ?_)
    · intro y0 y1 y2 y3
      unfold celluloidref09_Small.j1
      repeat' first
      | (with_reducible exact ih0 _ _ _)
      | (with_reducible exact ih1 _ _ _ _)
      | (with_reducible exact celluloidref08_Small.mono _ _ _)
      | (with_reducible exact LeO.refl _)
      | (with_reducible exact LeO.none _)
      | (with_reducible refine LeO.ite ?_ ?_)
      | (with_reducible refine LeO.bind ?_ (fun _ => ?_))
      | exact ih0 _ _ _
      | exact ih1 _ _ _ _
      | exact celluloidref08_Small.mono _ _ _
      | exact LeO.none _
      | refine LeO.ite ?_ ?_
      | refine LeO.bind ?_ (fun _ => ?_)
theorem celluloidref09_Small.mono : ∀ a0 a1 k,LeO (celluloidref09_Small.f k a0 a1) (celluloidref09_Small.f (k + 1) a0 a1):=by
  intro a0 a1 k
  obtain ⟨ih0,ih1⟩:=celluloidref09_Small.mono_l k
  unfold celluloidref09_Small.f
  repeat' first
      | (with_reducible exact ih0 _ _ _)
      | (with_reducible exact ih1 _ _ _ _)
      | (with_reducible exact celluloidref08_Small.mono _ _ _)
      | (with_reducible exact LeO.refl _)
      | (with_reducible exact LeO.none _)
      | (with_reducible refine LeO.ite ?_ ?_)
      | (with_reducible refine LeO.bind ?_ (fun _ => ?_))
      | exact ih0 _ _ _
      | exact ih1 _ _ _ _
      | exact celluloidref08_Small.mono _ _ _
      | exact LeO.none _
      | refine LeO.ite ?_ ?_
      | refine LeO.bind ?_ (fun _ => ?_)
set_option maxHeartbeats 8000000 in
set_option maxRecDepth 100000 in
theorem celluloidref09_Small.calls (k : Nat) (A0 : Option Addr) (c0 : Nat) (l0 : List (S49)) (a1 : Int) (r : Bool) (w : World) (hr0 : Kd.C k49 w A0 l0.length l0) (hc0 : l0.length ≤ c0) (h : celluloidref09_Small.f k l0 a1 = some r) :
    Calls Try.prog 18 #[.slice A0 l0.length c0,.int .i64 a1] w fun e w' => e = .returned (.bool r) ∧ Drawn0 w w':=by
  have HR0:=am hr0;have HC0:=am hc0;clear hr0 hc0;have H : (celluloidref09_Small.l0 k l0 a1 0) = some r:=h;clear h;have H':=am H;clear H
  go_enter Try.func18,Try.ntmps18
  go_wp2
  repeat (go_quiet (fail);try go_wp2)
  go_loopg [5] k (fun kq v5 w' => ∃ (x5_1 : Int),v5 = .int .i64 x5_1 ∧ Aside0 (celluloidref09_Small.l0 kq l0 a1 x5_1 = some r) ∧ Aside0 (kq ≤ k) ∧ Drawn0 w w')
  case atStart => exact ⟨(0),(by first|rfl|(simp;done)|(simp [*];done)),H',⟨Nat.le_refl _⟩,by repeat (first|exact Drawn0.refl _|apply Drawn0.step)⟩
  case round =>
    clear H'
    (try clear c1);(try clear p2)
    obtain ⟨x5_1,rfl,HA,HK1,⟨m1,rfl⟩⟩:=hrel
    cases gk with
    | zero => exact absurd HA.out (by simp [celluloidref09_Small.l0])
    | succ k1 =>
      have H:=HA.out;clear HA;simp only [celluloidref09_Small.l0] at H;have HC3:=am H;clear H
      go_upto_region 2 with (fail)
      repeat (go_quiet (fail);go_upto_region 2 with (fail))
      go_cut [14] (fun v14 wc => ∃ (kq : Nat) (x14_2 : Bool),v14 = .bool x14_2 ∧ Aside0 (celluloidref09_Small.j1 kq l0 a1 x5_1 x14_2 = some r) ∧ Aside0 (kq ≤ k1) ∧ Drawn0 w wc)
      case first =>
        have H:=HC3.out;clear HC3
        by_cases c4 : x5_1 < (l0.length : Int)
        · rw [if_pos c4] at H
          have c4b0 : decide (x5_1 < (l0.length : Int)) = true:=decide_eq_true c4;clear c4
          (first|rw [c4b0]|(simp only [i64_w,i32_w];rw [c4b0])|skip)
          have H':=am H;clear H
          go_wp2
          repeat (go_quiet (fail);try go_wp2)
          go_meet
          case rel => exact ⟨_,(decide (x5_1 < a1)),(by first|rfl|(simp;done)|(simp [*];done)),H',⟨by have:=HK1.out;first|omega|exact Nat.le_refl _⟩,by repeat (first|exact Drawn0.refl _|apply Drawn0.step)⟩
        · rw [if_neg c4] at H
          have c4b0 : decide (x5_1 < (l0.length : Int)) = false:=decide_eq_false c4;clear c4
          (first|rw [c4b0]|(simp only [i64_w,i32_w];rw [c4b0])|skip)
          have H':=am H;clear H
          go_wp2
          repeat (go_quiet (fail);try go_wp2)
          go_meet
          case rel => exact ⟨_,(false),(by first|rfl|(simp;done)|(simp [*];done)),H',⟨by have:=HK1.out;first|omega|exact Nat.le_refl _⟩,by repeat (first|exact Drawn0.refl _|apply Drawn0.step)⟩
      case rest =>
        clear HC3
        (try clear c1);(try clear p2 p2);(try clear c4);(try clear c4b0)
        obtain ⟨kq,x14_2,rfl,HA,HJ2,⟨mc2,rfl⟩⟩:=hcut
        cases kq with
        | zero => exact absurd HA.out (by simp [celluloidref09_Small.j1])
        | succ kj2 =>
          have H:=HA.out;clear HA;simp only [celluloidref09_Small.j1] at H
          by_cases c5 : x14_2 = true
          · subst c5
            have H1 : (if 0 ≤ x5_1 then (if x5_1 < (l0.length : Int) then ((celluloidref08_Small.f kj2 ((rd_T49 l0 x5_1).f8) ((rd_T49 l0 x5_1).f9)).bind fun t104 => (if t104 = true then (celluloidref09_Small.l0 kj2 l0 a1 (wrap64 (x5_1 + 1))) else (some false))) else (none)) else (none)) = some r:=by rw [if_pos rfl] at H;exact H
            clear H;have H:=H1;clear H1
            by_cases c6 : 0 ≤ x5_1
            · rw [if_pos c6] at H
              have c6b0 : decide (0 ≤ x5_1) = true:=decide_eq_true c6;clear c6
              by_cases c7 : x5_1 < (l0.length : Int)
              · rw [if_pos c7] at H
                have c7b0 : decide (x5_1 < (l0.length : Int)) = true:=decide_eq_true c7;clear c7;replace H:=Option.bind_eq_some_iff.mp H;obtain ⟨t104,A80,H⟩:=H;replace H : (if t104 = true then (celluloidref09_Small.l0 kj2 l0 a1 (wrap64 (x5_1 + 1))) else (some false)) = some r:=H;have A8:=am A80;clear A80
                by_cases c9 : t104 = true
                · subst c9
                  have H1 : (celluloidref09_Small.l0 kj2 l0 a1 (wrap64 (x5_1 + 1))) = some r:=by rw [if_pos rfl] at H;exact H
                  clear H;have H:=H1;clear H1;have H':=am H;clear H;have p102 : 0 ≤ (x5_1 : Int):=of_decide_eq_true (by first|(with_reducible assumption)|assumption);have q102 : x5_1 < (l0.length : Int):=of_decide_eq_true (by first|(with_reducible assumption)|assumption);obtain ⟨ad102,A102_8,c102_8,A102_9,c102_9,e102,hx102_0,hx102_1,hx102_2,hx102_3,hx102_4,hx102_5,hx102_6,hx102_7,hx102_8,hx102_9,hl102_8,hi102_8,hl102_9,hi102_9⟩:=at_T49 HR0.out x5_1 p102 q102
                  cases e102
                  have HR102_8:=am hi102_8;have HC102_8:=am hl102_8;clear hi102_8 hl102_8;have HR102_9:=am hi102_9;have HC102_9:=am hl102_9;clear hi102_9 hl102_9;replace p102:=eq_true p102;replace q102:=eq_true q102;have p103 : 0 ≤ (x5_1 : Int):=of_decide_eq_true (by first|(with_reducible assumption)|assumption);have q103 : x5_1 < (l0.length : Int):=of_decide_eq_true (by first|(with_reducible assumption)|assumption);obtain ⟨ad103,A103_8,c103_8,A103_9,c103_9,e103,hx103_0,hx103_1,hx103_2,hx103_3,hx103_4,hx103_5,hx103_6,hx103_7,hx103_8,hx103_9,hl103_8,hi103_8,hl103_9,hi103_9⟩:=at_T49 HR0.out x5_1 p103 q103;obtain rfl : ad102 = ad103:=(by injection e103);have HR103_8:=am hi103_8;have HC103_8:=am hl103_8;clear hi103_8 hl103_8;have HR103_9:=am hi103_9;have HC103_9:=am hl103_9;clear hi103_9 hl103_9;replace p103:=eq_true p103;replace q103:=eq_true q103;have ea_:=Option.some.inj (hx102_8.symm.trans hx103_8)
                  injection ea_ with ea_ en_ ec_
                  subst ea_;subst ec_;clear en_;have ea_:=Option.some.inj (hx102_9.symm.trans hx103_9)
                  injection ea_ with ea_ en_ ec_
                  subst ea_;subst ec_;clear en_
                  go_wp2_with (first|(go_at_call 17;(with_reducible refine (celluloidref08_Small.calls kj2 _ _ ((rd_T49 l0 x5_1).f8) _ _ ((rd_T49 l0 x5_1).f9) true _ ?side1 ?side2 ?side3 ?side4 A8.out).mono ?_);(case side1 => repeat (first|exact HR102_8.out|(with_reducible refine Kd.C_alloc ?_ _)|(with_reducible refine Kd.C_drewN ?_ _)|(with_reducible refine Kd.C_drew ?_)));(case side2 => exact HC102_8.out);(case side3 => repeat (first|exact HR103_9.out|(with_reducible refine Kd.C_alloc ?_ _)|(with_reducible refine Kd.C_drewN ?_ _)|(with_reducible refine Kd.C_drew ?_)));(case side4 => exact HC103_9.out);rintro e w' ⟨rfl,⟨nd,rfl⟩⟩;(try first|exact ⟨rfl,_,World.drewN_drewN _ _ _⟩|exact ⟨rfl,_,Eq.trans (World.drewN_drewN _ _ _) (congrArg (World.drewN _) (Nat.add_assoc _ _ _))⟩)))
                  repeat (go_quiet (first|(go_at_call 17;(with_reducible refine (celluloidref08_Small.calls kj2 _ _ ((rd_T49 l0 x5_1).f8) _ _ ((rd_T49 l0 x5_1).f9) true _ ?side1 ?side2 ?side3 ?side4 A8.out).mono ?_);(case side1 => repeat (first|exact HR102_8.out|(with_reducible refine Kd.C_alloc ?_ _)|(with_reducible refine Kd.C_drewN ?_ _)|(with_reducible refine Kd.C_drew ?_)));(case side2 => exact HC102_8.out);(case side3 => repeat (first|exact HR103_9.out|(with_reducible refine Kd.C_alloc ?_ _)|(with_reducible refine Kd.C_drewN ?_ _)|(with_reducible refine Kd.C_drew ?_)));(case side4 => exact HC103_9.out);rintro e w' ⟨rfl,⟨nd,rfl⟩⟩;(try first|exact ⟨rfl,_,World.drewN_drewN _ _ _⟩|exact ⟨rfl,_,Eq.trans (World.drewN_drewN _ _ _) (congrArg (World.drewN _) (Nat.add_assoc _ _ _))⟩)));try go_wp2_with (first|(go_at_call 17;(with_reducible refine (celluloidref08_Small.calls kj2 _ _ ((rd_T49 l0 x5_1).f8) _ _ ((rd_T49 l0 x5_1).f9) true _ ?side1 ?side2 ?side3 ?side4 A8.out).mono ?_);(case side1 => repeat (first|exact HR102_8.out|(with_reducible refine Kd.C_alloc ?_ _)|(with_reducible refine Kd.C_drewN ?_ _)|(with_reducible refine Kd.C_drew ?_)));(case side2 => exact HC102_8.out);(case side3 => repeat (first|exact HR103_9.out|(with_reducible refine Kd.C_alloc ?_ _)|(with_reducible refine Kd.C_drewN ?_ _)|(with_reducible refine Kd.C_drew ?_)));(case side4 => exact HC103_9.out);rintro e w' ⟨rfl,⟨nd,rfl⟩⟩;(try first|exact ⟨rfl,_,World.drewN_drewN _ _ _⟩|exact ⟨rfl,_,Eq.trans (World.drewN_drewN _ _ _) (congrArg (World.drewN _) (Nat.add_assoc _ _ _))⟩))))
                  go_roundg kj2
                  case measure => have:=HK1.out;have:=HJ2.out;omega
                  case rel => exact ⟨(wrap64 (x5_1 + 1)),(by first|rfl|(simp;done)|(simp [*];done)),H',⟨by have:=HK1.out;have:=HJ2.out;omega⟩,by repeat (first|exact Drawn0.refl _|apply Drawn0.step)⟩
                · replace c9:=Bool.eq_false_iff.mpr c9
                  subst c9
                  have H1 : (some false) = some r:=by rw [if_neg (show ¬ (false = true) by decide)] at H;exact H
                  clear H;have H:=H1;clear H1;obtain rfl:=Option.some.inj H;have p102 : 0 ≤ (x5_1 : Int):=of_decide_eq_true (by first|(with_reducible assumption)|assumption);have q102 : x5_1 < (l0.length : Int):=of_decide_eq_true (by first|(with_reducible assumption)|assumption);obtain ⟨ad102,A102_8,c102_8,A102_9,c102_9,e102,hx102_0,hx102_1,hx102_2,hx102_3,hx102_4,hx102_5,hx102_6,hx102_7,hx102_8,hx102_9,hl102_8,hi102_8,hl102_9,hi102_9⟩:=at_T49 HR0.out x5_1 p102 q102
                  cases e102
                  have HR102_8:=am hi102_8;have HC102_8:=am hl102_8;clear hi102_8 hl102_8;have HR102_9:=am hi102_9;have HC102_9:=am hl102_9;clear hi102_9 hl102_9;replace p102:=eq_true p102;replace q102:=eq_true q102;have p103 : 0 ≤ (x5_1 : Int):=of_decide_eq_true (by first|(with_reducible assumption)|assumption);have q103 : x5_1 < (l0.length : Int):=of_decide_eq_true (by first|(with_reducible assumption)|assumption);obtain ⟨ad103,A103_8,c103_8,A103_9,c103_9,e103,hx103_0,hx103_1,hx103_2,hx103_3,hx103_4,hx103_5,hx103_6,hx103_7,hx103_8,hx103_9,hl103_8,hi103_8,hl103_9,hi103_9⟩:=at_T49 HR0.out x5_1 p103 q103;obtain rfl : ad102 = ad103:=(by injection e103);have HR103_8:=am hi103_8;have HC103_8:=am hl103_8;clear hi103_8 hl103_8;have HR103_9:=am hi103_9;have HC103_9:=am hl103_9;clear hi103_9 hl103_9;replace p103:=eq_true p103;replace q103:=eq_true q103;have ea_:=Option.some.inj (hx102_8.symm.trans hx103_8)
                  injection ea_ with ea_ en_ ec_
                  subst ea_;subst ec_;clear en_;have ea_:=Option.some.inj (hx102_9.symm.trans hx103_9)
                  injection ea_ with ea_ en_ ec_
                  subst ea_;subst ec_;clear en_
                  go_wp2_with (first|(go_at_call 17;(with_reducible refine (celluloidref08_Small.calls kj2 _ _ ((rd_T49 l0 x5_1).f8) _ _ ((rd_T49 l0 x5_1).f9) false _ ?side1 ?side2 ?side3 ?side4 A8.out).mono ?_);(case side1 => repeat (first|exact HR102_8.out|(with_reducible refine Kd.C_alloc ?_ _)|(with_reducible refine Kd.C_drewN ?_ _)|(with_reducible refine Kd.C_drew ?_)));(case side2 => exact HC102_8.out);(case side3 => repeat (first|exact HR103_9.out|(with_reducible refine Kd.C_alloc ?_ _)|(with_reducible refine Kd.C_drewN ?_ _)|(with_reducible refine Kd.C_drew ?_)));(case side4 => exact HC103_9.out);rintro e w' ⟨rfl,⟨nd,rfl⟩⟩;(try first|exact ⟨rfl,_,World.drewN_drewN _ _ _⟩|exact ⟨rfl,_,Eq.trans (World.drewN_drewN _ _ _) (congrArg (World.drewN _) (Nat.add_assoc _ _ _))⟩)))
                  repeat (go_quiet (first|(go_at_call 17;(with_reducible refine (celluloidref08_Small.calls kj2 _ _ ((rd_T49 l0 x5_1).f8) _ _ ((rd_T49 l0 x5_1).f9) false _ ?side1 ?side2 ?side3 ?side4 A8.out).mono ?_);(case side1 => repeat (first|exact HR102_8.out|(with_reducible refine Kd.C_alloc ?_ _)|(with_reducible refine Kd.C_drewN ?_ _)|(with_reducible refine Kd.C_drew ?_)));(case side2 => exact HC102_8.out);(case side3 => repeat (first|exact HR103_9.out|(with_reducible refine Kd.C_alloc ?_ _)|(with_reducible refine Kd.C_drewN ?_ _)|(with_reducible refine Kd.C_drew ?_)));(case side4 => exact HC103_9.out);rintro e w' ⟨rfl,⟨nd,rfl⟩⟩;(try first|exact ⟨rfl,_,World.drewN_drewN _ _ _⟩|exact ⟨rfl,_,Eq.trans (World.drewN_drewN _ _ _) (congrArg (World.drewN _) (Nat.add_assoc _ _ _))⟩)));try go_wp2_with (first|(go_at_call 17;(with_reducible refine (celluloidref08_Small.calls kj2 _ _ ((rd_T49 l0 x5_1).f8) _ _ ((rd_T49 l0 x5_1).f9) false _ ?side1 ?side2 ?side3 ?side4 A8.out).mono ?_);(case side1 => repeat (first|exact HR102_8.out|(with_reducible refine Kd.C_alloc ?_ _)|(with_reducible refine Kd.C_drewN ?_ _)|(with_reducible refine Kd.C_drew ?_)));(case side2 => exact HC102_8.out);(case side3 => repeat (first|exact HR103_9.out|(with_reducible refine Kd.C_alloc ?_ _)|(with_reducible refine Kd.C_drewN ?_ _)|(with_reducible refine Kd.C_drew ?_)));(case side4 => exact HC103_9.out);rintro e w' ⟨rfl,⟨nd,rfl⟩⟩;(try first|exact ⟨rfl,_,World.drewN_drewN _ _ _⟩|exact ⟨rfl,_,Eq.trans (World.drewN_drewN _ _ _) (congrArg (World.drewN _) (Nat.add_assoc _ _ _))⟩))))
                  go_ret
                  exact ⟨by first|rfl|(simp;done)|(simp [*];done),by repeat (first|exact Drawn0.refl _|apply Drawn0.step)⟩
              · rw [if_neg c7] at H
                exact absurd H (by simp)
            · rw [if_neg c6] at H
              exact absurd H (by simp)
          · replace c5:=Bool.eq_false_iff.mpr c5
            subst c5
            have H1 : (some (decide ((l0.length : Int) ≤ a1))) = some r:=by rw [if_neg (show ¬ (false = true) by decide)] at H;exact H
            clear H;have H:=H1;clear H1;obtain rfl:=Option.some.inj H
            go_wp2
            repeat (go_quiet (fail);try go_wp2)
            go_ret
            exact ⟨by first|rfl|(simp;done)|(simp [*];done),by repeat (first|exact Drawn0.refl _|apply Drawn0.step)⟩

/-! ### celluloidlaw15_small: function 8 -/
def celluloidlaw15_small.f (k : Nat) (a0_0 : Int) (a0_1 : Int) (a0_2 : Int) (a0_3 : Int) (a0_4 : Int) (l0_5 : List (S65)) (l0_6 : List (S79)) (l0_7 : List (S49)) : Option (Bool):=(celluloidref08_Small.f k l0_5 l0_6).bind fun t106 => (if t106 = true then ((celluloidref09_Small.f k l0_7 600).bind fun t107 => (some t107)) else (some false))
theorem celluloidlaw15_small.mono : ∀ a0 a1 a2 a3 a4 a5 a6 a7 k,LeO (celluloidlaw15_small.f k a0 a1 a2 a3 a4 a5 a6 a7) (celluloidlaw15_small.f (k + 1) a0 a1 a2 a3 a4 a5 a6 a7):=by
  intro a0 a1 a2 a3 a4 a5 a6 a7 k
  unfold celluloidlaw15_small.f
  repeat' first
      | (with_reducible exact celluloidref08_Small.mono _ _ _)
      | (with_reducible exact celluloidref09_Small.mono _ _ _)
      | (with_reducible exact LeO.refl _)
      | (with_reducible exact LeO.none _)
      | (with_reducible refine LeO.ite ?_ ?_)
      | (with_reducible refine LeO.bind ?_ (fun _ => ?_))
      | exact celluloidref08_Small.mono _ _ _
      | exact celluloidref09_Small.mono _ _ _
      | exact LeO.none _
      | refine LeO.ite ?_ ?_
      | refine LeO.bind ?_ (fun _ => ?_)
set_option maxHeartbeats 8000000 in
set_option maxRecDepth 100000 in
theorem celluloidlaw15_small.calls (k : Nat) (a0_0 : Int) (a0_1 : Int) (a0_2 : Int) (a0_3 : Int) (a0_4 : Int) (A0_5 : Option Addr) (c0_5 : Nat) (l0_5 : List (S65)) (A0_6 : Option Addr) (c0_6 : Nat) (l0_6 : List (S79)) (A0_7 : Option Addr) (c0_7 : Nat) (l0_7 : List (S49)) (r : Bool) (w : World) (hr0_5 : Kd.C k65 w A0_5 l0_5.length l0_5) (hc0_5 : l0_5.length ≤ c0_5) (hr0_6 : Kd.C k79 w A0_6 l0_6.length l0_6) (hc0_6 : l0_6.length ≤ c0_6) (hr0_7 : Kd.C k49 w A0_7 l0_7.length l0_7) (hc0_7 : l0_7.length ≤ c0_7) (h : celluloidlaw15_small.f k a0_0 a0_1 a0_2 a0_3 a0_4 l0_5 l0_6 l0_7 = some r) :
    Calls Try.prog 8 #[.agg #[.int .i64 a0_0,.int .i64 a0_1,.int .i64 a0_2,.int .i64 a0_3,.int .i64 a0_4,.slice A0_5 l0_5.length c0_5,.slice A0_6 l0_6.length c0_6,.slice A0_7 l0_7.length c0_7]] w fun e w' => e = .returned (.bool r) ∧ Below w.heap.size w w':=by
  have hu28:=Try.underlying28;have HR0_5:=am hr0_5;have HC0_5:=am hc0_5;clear hr0_5 hc0_5;have HR0_6:=am hr0_6;have HC0_6:=am hc0_6;clear hr0_6 hc0_6;have HR0_7:=am hr0_7;have HC0_7:=am hc0_7;clear hr0_7 hc0_7;have HB:=am (Below.refl w.heap.size w);have H : ((celluloidref08_Small.f k l0_5 l0_6).bind fun t106 => (if t106 = true then ((celluloidref09_Small.f k l0_7 600).bind fun t107 => (some t107)) else (some false))) = some r:=h;clear h;replace H:=Option.bind_eq_some_iff.mp H;obtain ⟨t106,A20,H⟩:=H;replace H : (if t106 = true then ((celluloidref09_Small.f k l0_7 600).bind fun t107 => (some t107)) else (some false)) = some r:=H;have A2:=am A20;clear A20
  by_cases c3 : t106 = true
  · subst c3
    have H1 : ((celluloidref09_Small.f k l0_7 600).bind fun t107 => (some t107)) = some r:=by rw [if_pos rfl] at H;exact H
    clear H;have H:=H1;clear H1;replace H:=Option.bind_eq_some_iff.mp H;obtain ⟨t107,A40,H⟩:=H;replace H : (some t107) = some r:=H;have A4:=am A40;clear A40;obtain rfl:=Option.some.inj H
    go_enter Try.func8,Try.ntmps8
    go_wp2_with (first|((with_reducible refine gate_dst (N:=1) rfl ?_);refine box_event ?hg (N:=1) ?hd (cs:=#[.int .i64 a0_0,.int .i64 a0_1,.int .i64 a0_2,.int .i64 a0_3,.int .i64 a0_4,.slice A0_5 l0_5.length c0_5,.slice A0_6 l0_6.length c0_6,.slice A0_7 l0_7.length c0_7]) (t:=28) ?hr ?_;(case hd => rfl);(case hg => rfl);(case hr => first|(go_simp;done)|(go_simp;rfl));intro gb105 hg w5 hbox hb;have BK105:=am (hbox);have GW105:=am ((by rw [hg];exact (sz (by repeat (first|(with_reducible first|exact HB.out|apply sa|apply sn|apply sd)|exact HB.out))) : w.heap.size ≤ gb105));have GE105:=am ((by rw [hg];exact (sz (by repeat (first|(with_reducible first|exact HB.out|apply sa|apply sn|apply sd)|exact HB.out))) : w.heap.size ≤ gb105));replace HB:=am (ss (by repeat (first|(with_reducible first|exact HB.out|apply sa|apply sn|apply sd)|exact HB.out)) hb);clear hb hbox hg;obtain ⟨hcz6_0,hcz6_1,hcz6_2,hcz6_3,hcz6_4,hcz6_5,hcz6_6,hcz6_7⟩:=cq8 BK105.out;obtain ⟨hfz6_0,hfz6_1,hfz6_2,hfz6_3,hfz6_4,hfz6_5,hfz6_6,hfz6_7⟩:=fq8 BK105.out)|((with_reducible refine gate_callee (f:=17) rfl ?_);refine goesL_ (some 7) rfl rfl Try.func17 (by kernel_rfl) rfl #[.slice A0_5 l0_5.length c0_5,.slice A0_6 l0_6.length c0_6] rfl (by (try simp only [List.map_toArray,List.map_cons,List.map_nil]);first|done|rfl|(simp only [List.length_drop,List.length_take];rfl)) ?_;(with_reducible refine (celluloidref08_Small.calls k _ _ l0_5 _ _ l0_6 true _ ?side1 ?side2 ?side3 ?side4 A2.out).mono ?_);(case side1 => repeat (first|exact (Kd.C_below HR0_5.out HB.out)|(with_reducible refine Kd.C_alloc ?_ _)|(with_reducible refine Kd.C_drewN ?_ _)|(with_reducible refine Kd.C_drew ?_)));(case side2 => exact HC0_5.out);(case side3 => repeat (first|exact (Kd.C_below HR0_6.out HB.out)|(with_reducible refine Kd.C_alloc ?_ _)|(with_reducible refine Kd.C_drewN ?_ _)|(with_reducible refine Kd.C_drew ?_)));(case side4 => exact HC0_6.out);rintro e w' ⟨rfl,⟨nd,rfl⟩⟩;refine ⟨_,rfl,?_⟩)|(go_at_call 18;(with_reducible refine (celluloidref09_Small.calls k _ _ l0_7 600 t107 _ ?side1 ?side2 A4.out).mono ?_);(case side1 => repeat (first|exact (Kd.C_below HR0_7.out (by repeat (first|(with_reducible first|exact HB.out|apply sa|apply sn|apply sd|refine sx ?_ GE105.out)|exact HB.out)))|(with_reducible refine Kd.C_alloc ?_ _)|(with_reducible refine Kd.C_drewN ?_ _)|(with_reducible refine Kd.C_drew ?_)));(case side2 => exact HC0_7.out);rintro e w' ⟨rfl,⟨nd,rfl⟩⟩))
    go_ret
    exact ⟨by first|rfl|(simp [errW_none,errW_some] <;> rfl)|(simp [*,errW_none,errW_some] <;> rfl),by repeat (first|(with_reducible first|exact HB.out|apply sa|apply sn|apply sd|refine sx ?_ GE105.out)|exact HB.out)⟩
  · replace c3:=Bool.eq_false_iff.mpr c3
    subst c3
    have H1 : (some false) = some r:=by rw [if_neg (show ¬ (false = true) by decide)] at H;exact H
    clear H;have H:=H1;clear H1;obtain rfl:=Option.some.inj H
    go_enter Try.func8,Try.ntmps8
    go_wp2_with (first|((with_reducible refine gate_dst (N:=1) rfl ?_);refine box_event ?hg (N:=1) ?hd (cs:=#[.int .i64 a0_0,.int .i64 a0_1,.int .i64 a0_2,.int .i64 a0_3,.int .i64 a0_4,.slice A0_5 l0_5.length c0_5,.slice A0_6 l0_6.length c0_6,.slice A0_7 l0_7.length c0_7]) (t:=28) ?hr ?_;(case hd => rfl);(case hg => rfl);(case hr => first|(go_simp;done)|(go_simp;rfl));intro gb105 hg w7 hbox hb;have BK105:=am (hbox);have GW105:=am ((by rw [hg];exact (sz (by repeat (first|(with_reducible first|exact HB.out|apply sa|apply sn|apply sd)|exact HB.out))) : w.heap.size ≤ gb105));have GE105:=am ((by rw [hg];exact (sz (by repeat (first|(with_reducible first|exact HB.out|apply sa|apply sn|apply sd)|exact HB.out))) : w.heap.size ≤ gb105));replace HB:=am (ss (by repeat (first|(with_reducible first|exact HB.out|apply sa|apply sn|apply sd)|exact HB.out)) hb);clear hb hbox hg;obtain ⟨hcz8_0,hcz8_1,hcz8_2,hcz8_3,hcz8_4,hcz8_5,hcz8_6,hcz8_7⟩:=cq8 BK105.out;obtain ⟨hfz8_0,hfz8_1,hfz8_2,hfz8_3,hfz8_4,hfz8_5,hfz8_6,hfz8_7⟩:=fq8 BK105.out)|((with_reducible refine gate_callee (f:=17) rfl ?_);refine goesL_ (some 7) rfl rfl Try.func17 (by kernel_rfl) rfl #[.slice A0_5 l0_5.length c0_5,.slice A0_6 l0_6.length c0_6] rfl (by (try simp only [List.map_toArray,List.map_cons,List.map_nil]);first|done|rfl|(simp only [List.length_drop,List.length_take];rfl)) ?_;(with_reducible refine (celluloidref08_Small.calls k _ _ l0_5 _ _ l0_6 false _ ?side1 ?side2 ?side3 ?side4 A2.out).mono ?_);(case side1 => repeat (first|exact (Kd.C_below HR0_5.out HB.out)|(with_reducible refine Kd.C_alloc ?_ _)|(with_reducible refine Kd.C_drewN ?_ _)|(with_reducible refine Kd.C_drew ?_)));(case side2 => exact HC0_5.out);(case side3 => repeat (first|exact (Kd.C_below HR0_6.out HB.out)|(with_reducible refine Kd.C_alloc ?_ _)|(with_reducible refine Kd.C_drewN ?_ _)|(with_reducible refine Kd.C_drew ?_)));(case side4 => exact HC0_6.out);rintro e w' ⟨rfl,⟨nd,rfl⟩⟩;refine ⟨_,rfl,?_⟩))
    go_ret
    exact ⟨by first|rfl|(simp [errW_none,errW_some] <;> rfl)|(simp [*,errW_none,errW_some] <;> rfl),by repeat (first|(with_reducible first|exact HB.out|apply sa|apply sn|apply sd|refine sx ?_ GE105.out)|exact HB.out)⟩

/-! ### shape_within: function 29 -/
def shape_within.f (a0 : Int) (a1 : Int) (l2 : List Int) : Option (Bool):=some (decide (∀ x ∈ l2,a0 ≤ x ∧ x ≤ a1))
theorem shape_within.calls (a0 : Int) (a1 : Int) (A2 : Option Addr) (c2 : Nat) (l2 : List Int) (r : Bool) (w : World) (hr2 : Kd.C (Kd.int .i64) w A2 l2.length l2) (hc2 : l2.length ≤ c2) (h : shape_within.f a0 a1 l2 = some r) :
    Calls Try.prog 29 #[.int .i64 a0,.int .i64 a1,.slice A2 l2.length c2] w fun e w' => e = .returned (.bool r) ∧ Below w.heap.size w w':=by
  obtain rfl:=Option.some.inj h
  exact within_walk a0 a1 A2 c2 l2 w hr2 hc2

/-! ### field_within: function 40 -/
def field_within.l0 : Nat → Int → Int → List Int → Int → Int → Option (Bool)
  | 0,_,_,_,_,_ => none
  | k + 1,x0,x1,x9,x10,x11 => if x11 < x10 then (if 0 ≤ x11 then (if x11 < (x9.length : Int) then (if (rd x9 x11) < x0 then (some false) else (if (rd x9 x11) > x1 then (some false) else (field_within.l0 k x0 x1 x9 x10 (wrap64 (x11 + 1))))) else (none)) else (none)) else (some true)
def field_within.f (k : Nat) (a0 : Int) (a1 : Int) (l2 : List Int) : Option (Bool):=field_within.l0 k a0 a1 l2 (l2.length : Int) 0
theorem field_within.mono_l : ∀ k,(∀ y0 y1 y2 y3 y4,LeO (field_within.l0 k y0 y1 y2 y3 y4) (field_within.l0 (k + 1) y0 y1 y2 y3 y4))
  | 0 => fun _ _ _ _ _ r h => by simp [field_within.l0] at h
  | k + 1 => by
    have ih0:=field_within.mono_l k
    · intro y0 y1 y2 y3 y4
      unfold field_within.l0
      repeat' first
      | (with_reducible exact ih0 _ _ _ _ _)
      | (with_reducible exact LeO.refl _)
      | (with_reducible exact LeO.none _)
      | (with_reducible refine LeO.ite ?_ ?_)
      | (with_reducible refine LeO.bind ?_ (fun _ => ?_))
      | exact ih0 _ _ _ _ _
      | exact LeO.none _
      | refine LeO.ite ?_ ?_
      | refine LeO.bind ?_ (fun _ => ?_)
theorem field_within.mono : ∀ a0 a1 a2 k,LeO (field_within.f k a0 a1 a2) (field_within.f (k + 1) a0 a1 a2):=by
  intro a0 a1 a2 k
  have ih0:=field_within.mono_l k
  unfold field_within.f
  repeat' first
      | (with_reducible exact ih0 _ _ _ _ _)
      | (with_reducible exact LeO.refl _)
      | (with_reducible exact LeO.none _)
      | (with_reducible refine LeO.ite ?_ ?_)
      | (with_reducible refine LeO.bind ?_ (fun _ => ?_))
      | exact ih0 _ _ _ _ _
      | exact LeO.none _
      | refine LeO.ite ?_ ?_
      | refine LeO.bind ?_ (fun _ => ?_)
set_option maxHeartbeats 8000000 in
set_option maxRecDepth 100000 in
theorem field_within.calls (k : Nat) (a0 : Int) (a1 : Int) (A2 : Option Addr) (c2 : Nat) (l2 : List Int) (r : Bool) (w : World) (hr2 : Kd.C (Kd.int .i64) w A2 l2.length l2) (hc2 : l2.length ≤ c2) (h : field_within.f k a0 a1 l2 = some r) :
    Calls Try.prog 40 #[.int .i64 a0,.int .i64 a1,.slice A2 l2.length c2] w fun e w' => e = .returned (.bool r) ∧ Drawn0 w w':=by
  have HR2:=am hr2;have HC2:=am hc2;clear hr2 hc2;have H : (field_within.l0 k a0 a1 l2 (l2.length : Int) 0) = some r:=h;clear h;have H':=am H;clear H
  go_enter Try.func40,Try.ntmps40
  go_wp2
  go_loopg [11] k (fun kq v11 w' => ∃ (x11_1 : Int),v11 = .int .i64 x11_1 ∧ Aside0 (field_within.l0 kq a0 a1 l2 (l2.length : Int) x11_1 = some r) ∧ Aside0 (kq ≤ k) ∧ Drawn0 w w')
  case atStart => exact ⟨(0),(by first|rfl|(simp;done)|(simp [*];done)),H',⟨Nat.le_refl _⟩,by repeat (first|exact Drawn0.refl _|apply Drawn0.step)⟩
  case round =>
    clear H'
    (try clear c2);(try clear p2)
    obtain ⟨x11_1,rfl,HA,HK1,⟨m1,rfl⟩⟩:=hrel
    cases gk with
    | zero => exact absurd HA.out (by simp [field_within.l0])
    | succ k1 =>
      have H:=HA.out;clear HA;simp only [field_within.l0] at H
      by_cases c4 : x11_1 < (l2.length : Int)
      · rw [if_pos c4] at H
        have c4b0 : decide (x11_1 < (l2.length : Int)) = true:=decide_eq_true c4;clear c4
        by_cases c5 : 0 ≤ x11_1
        · rw [if_pos c5] at H
          have c5b0 : decide (0 ≤ x11_1) = true:=decide_eq_true c5;clear c5
          by_cases c6 : x11_1 < (l2.length : Int)
          · rw [if_pos c6] at H
            have c6b0 : decide (x11_1 < (l2.length : Int)) = true:=decide_eq_true c6;clear c6
            by_cases c7 : (rd l2 x11_1) < a0
            · rw [if_pos c7] at H
              have c7b0 : decide ((rd l2 x11_1) < a0) = true:=decide_eq_true c7;clear c7;obtain rfl:=Option.some.inj H;have p108 : 0 ≤ (x11_1 : Int):=of_decide_eq_true (by first|(with_reducible assumption)|assumption);have q108 : x11_1 < (l2.length : Int):=of_decide_eq_true (by first|(with_reducible assumption)|assumption);obtain ⟨ad108,e108,hx108_0⟩:=Kd.at_int HR2.out x11_1 p108 q108
              cases e108
              replace p108:=eq_true p108;replace q108:=eq_true q108
              go_wp2
              go_ret
              exact ⟨by first|rfl|(simp;done)|(simp [*];done),by repeat (first|exact Drawn0.refl _|apply Drawn0.step)⟩
            · rw [if_neg c7] at H
              have c7b0 : decide ((rd l2 x11_1) < a0) = false:=decide_eq_false c7;clear c7
              by_cases c8 : (rd l2 x11_1) > a1
              · rw [if_pos c8] at H
                have c8b0 : decide (a1 < (rd l2 x11_1)) = true:=decide_eq_true c8;clear c8;obtain rfl:=Option.some.inj H;have p108 : 0 ≤ (x11_1 : Int):=of_decide_eq_true (by first|(with_reducible assumption)|assumption);have q108 : x11_1 < (l2.length : Int):=of_decide_eq_true (by first|(with_reducible assumption)|assumption);obtain ⟨ad108,e108,hx108_0⟩:=Kd.at_int HR2.out x11_1 p108 q108
                cases e108
                replace p108:=eq_true p108;replace q108:=eq_true q108
                go_wp2
                go_ret
                exact ⟨by first|rfl|(simp;done)|(simp [*];done),by repeat (first|exact Drawn0.refl _|apply Drawn0.step)⟩
              · rw [if_neg c8] at H
                have c8b0 : decide (a1 < (rd l2 x11_1)) = false:=decide_eq_false c8;clear c8;have H':=am H;clear H;have p108 : 0 ≤ (x11_1 : Int):=of_decide_eq_true (by first|(with_reducible assumption)|assumption);have q108 : x11_1 < (l2.length : Int):=of_decide_eq_true (by first|(with_reducible assumption)|assumption);obtain ⟨ad108,e108,hx108_0⟩:=Kd.at_int HR2.out x11_1 p108 q108
                cases e108
                replace p108:=eq_true p108;replace q108:=eq_true q108
                go_wp2
                go_roundg k1
                case measure => have:=HK1.out;omega
                case rel => exact ⟨(wrap64 (x11_1 + 1)),(by first|rfl|(simp;done)|(simp [*];done)),H',⟨by have:=HK1.out;omega⟩,by repeat (first|exact Drawn0.refl _|apply Drawn0.step)⟩
          · rw [if_neg c6] at H
            exact absurd H (by simp)
        · rw [if_neg c5] at H
          exact absurd H (by simp)
      · rw [if_neg c4] at H
        have c4b0 : decide (x11_1 < (l2.length : Int)) = false:=decide_eq_false c4;clear c4;obtain rfl:=Option.some.inj H
        go_wp2
        go_ret
        exact ⟨by first|rfl|(simp;done)|(simp [*];done),by repeat (first|exact Drawn0.refl _|apply Drawn0.step)⟩

/-! ### field_RightRect: function 30 -/
def field_RightRect.f (k : Nat) (a0_0 : Int) (a0_1 : Int) (a0_2 : Int) (a0_3 : Int) : Option (Bool):=(field_within.f k (-1048576) 1048576 (([a0_0,a0_1,a0_2,a0_3] : List Int))).bind fun t113 => (if t113 = true then (if a0_0 ≤ a0_1 then (some (decide (a0_2 ≤ a0_3))) else (some false)) else (some false))
theorem field_RightRect.mono : ∀ a0 a1 a2 a3 k,LeO (field_RightRect.f k a0 a1 a2 a3) (field_RightRect.f (k + 1) a0 a1 a2 a3):=by
  intro a0 a1 a2 a3 k
  unfold field_RightRect.f
  repeat' first
      | (with_reducible exact field_within.mono _ _ _ _)
      | (with_reducible exact LeO.refl _)
      | (with_reducible exact LeO.none _)
      | (with_reducible refine LeO.ite ?_ ?_)
      | (with_reducible refine LeO.bind ?_ (fun _ => ?_))
      | exact field_within.mono _ _ _ _
      | exact LeO.none _
      | refine LeO.ite ?_ ?_
      | refine LeO.bind ?_ (fun _ => ?_)
set_option maxHeartbeats 8000000 in
set_option maxRecDepth 100000 in
theorem field_RightRect.calls (k : Nat) (a0_0 : Int) (a0_1 : Int) (a0_2 : Int) (a0_3 : Int) (r : Bool) (w : World) (h : field_RightRect.f k a0_0 a0_1 a0_2 a0_3 = some r) :
    Calls Try.prog 30 #[.agg #[.int .i64 a0_0,.int .i64 a0_1,.int .i64 a0_2,.int .i64 a0_3]] w fun e w' => e = .returned (.bool r) ∧ Below w.heap.size w w':=by
  have hu23:=Try.underlying23;have HB:=am (Below.refl w.heap.size w);have H : ((field_within.f k (-1048576) 1048576 (([a0_0,a0_1,a0_2,a0_3] : List Int))).bind fun t113 => (if t113 = true then (if a0_0 ≤ a0_1 then (some (decide (a0_2 ≤ a0_3))) else (some false)) else (some false))) = some r:=h;clear h;obtain ⟨y110,hy110⟩ : ∃ y_ : List Int,y_ = (([a0_0,a0_1,a0_2,a0_3] : List Int)):=⟨_,rfl⟩
  replace H : ((field_within.f k (-1048576) 1048576 y110).bind fun t113 => (if t113 = true then (if a0_0 ≤ a0_1 then (some (decide (a0_2 ≤ a0_3))) else (some false)) else (some false))) = some r:=by first|(rw [hy110];with_reducible exact H)|(have H2_:=(Option.bind_some _ _).symm.trans H;rw [hy110];with_reducible exact H2_)|(have H2_:=(Option.bind_some _ _).symm.trans H;with_reducible exact H2_)|with_reducible exact H|(rw [hy110];exact H)|exact H
  have Ny110:=am hy110;clear hy110;replace H:=Option.bind_eq_some_iff.mp H;obtain ⟨t113,A20,H⟩:=H;replace H : (if t113 = true then (if a0_0 ≤ a0_1 then (some (decide (a0_2 ≤ a0_3))) else (some false)) else (some false)) = some r:=H;have A2:=am A20;clear A20
  by_cases c3 : t113 = true
  · subst c3
    have H1 : (if a0_0 ≤ a0_1 then (some (decide (a0_2 ≤ a0_3))) else (some false)) = some r:=by rw [if_pos rfl] at H;exact H
    clear H;have H:=H1;clear H1
    by_cases c4 : a0_0 ≤ a0_1
    · rw [if_pos c4] at H
      have c4b0 : decide (a0_0 ≤ a0_1) = true:=decide_eq_true c4;clear c4;obtain rfl:=Option.some.inj H
      go_enter Try.func30,Try.ntmps30
      go_wp2_with (first|((with_reducible refine gate_dst (N:=1) rfl ?_);refine box_event ?hg (N:=1) ?hd (cs:=#[.int .i64 a0_0,.int .i64 a0_1,.int .i64 a0_2,.int .i64 a0_3]) (t:=23) ?hr ?_;(case hd => rfl);(case hg => rfl);(case hr => first|(go_simp;done)|(go_simp;rfl));intro gb109 hg w5 hbox hb;have BK109:=am (hbox);have GW109:=am ((by rw [hg];exact (sz (by repeat (first|(with_reducible first|exact HB.out|apply sa|apply sn|apply sd)|exact HB.out))) : w.heap.size ≤ gb109));have GE109:=am ((by rw [hg];exact (sz (by repeat (first|(with_reducible first|exact HB.out|apply sa|apply sn|apply sd)|exact HB.out))) : w.heap.size ≤ gb109));replace HB:=am (ss (by repeat (first|(with_reducible first|exact HB.out|apply sa|apply sn|apply sd)|exact HB.out)) hb);clear hb hbox hg;obtain ⟨hcz6_0,hcz6_1,hcz6_2,hcz6_3⟩:=cq4 BK109.out;obtain ⟨hfz6_0,hfz6_1,hfz6_2,hfz6_3⟩:=fq4 BK109.out)|((with_reducible refine gate_dst (N:=11) rfl ?_);refine Kd.R_lit (Kd.int .i64) _ 3 ?hg (N:=11) ?hd (xs:=([a0_0,a0_1,a0_2,a0_3] : List Int)) (inner:=[.int .i64 a0_0,.int .i64 a0_1,.int .i64 a0_2,.int .i64 a0_3]) (ok:=fun _ => True) (okp:=fun _ => True) ?hr ?hp (fun _ hk => hk) trivial (Below.refl _ _) (Nat.le_refl _) (by simp) ?_;(case hd => rfl);(case hg => rfl);(case hr => first|(go_simp;done)|(go_simp;rfl));(case hp => exact (Reps.one (show Kd.M (Kd.int .i64) _ _ _ a0_0 [.int .i64 a0_0] from rfl) (Reps.one (show Kd.M (Kd.int .i64) _ _ _ a0_1 [.int .i64 a0_1] from rfl) (Reps.one (show Kd.M (Kd.int .i64) _ _ _ a0_2 [.int .i64 a0_2] from rfl) (Reps.one (show Kd.M (Kd.int .i64) _ _ _ a0_3 [.int .i64 a0_3] from rfl) (Reps.none _ _))))));intro v111 w7 ho8 hb hg_ hnew_;clear hg_ hnew_;(first|rw [← Ny110.out] at ho8|(simp only [Int.reduceToNat] at ho8;rw [← Ny110.out] at ho8));have HO112:=am (Kd.R_lower ho8 (sz (by repeat (first|(with_reducible first|exact HB.out|apply sa|apply sn|apply sd|refine sx ?_ GE109.out)|exact HB.out))));replace BK109:=am (bw (by exact BK109.out) hb);replace HB:=am (ss (by repeat (first|(with_reducible first|exact HB.out|apply sa|apply sn|apply sd|refine sx ?_ GE109.out)|exact HB.out)) hb);clear hb ho8;obtain ⟨Ao9,co9,eo9⟩:=Kd.R_slice HO112.out;subst eo9)|((with_reducible refine gate_callee (f:=40) rfl ?_);refine goesL_ (some 12) rfl rfl Try.func40 (by kernel_rfl) rfl #[.int .i64 (-1048576),.int .i64 1048576,.slice Ao9 y110.length co9] rfl (by (try simp only [List.map_toArray,List.map_cons,List.map_nil]);first|done|rfl|(simp only [List.length_drop,List.length_take];rfl)) ?_;(with_reducible refine (field_within.calls k (-1048576) 1048576 _ _ y110 true _ ?side1 ?side2 A2.out).mono ?_);(case side1 => repeat (first|exact (Kd.R_reads' HO112.out).2.2|(with_reducible refine Kd.C_alloc ?_ _)|(with_reducible refine Kd.C_drewN ?_ _)|(with_reducible refine Kd.C_drew ?_)));(case side2 => exact (Kd.R_reads' HO112.out).2.1);rintro e w' ⟨rfl,⟨nd,rfl⟩⟩;refine ⟨_,rfl,?_⟩;obtain ⟨hcz10_0,hcz10_1,hcz10_2,hcz10_3⟩:=cq4 BK109.out;obtain ⟨hfz10_0,hfz10_1,hfz10_2,hfz10_3⟩:=fq4 BK109.out))
      go_ret
      exact ⟨by first|rfl|(simp [errW_none,errW_some] <;> rfl)|(simp [*,errW_none,errW_some] <;> rfl),by repeat (first|(with_reducible first|exact HB.out|apply sa|apply sn|apply sd|refine sx ?_ GE109.out)|exact HB.out)⟩
    · rw [if_neg c4] at H
      have c4b0 : decide (a0_0 ≤ a0_1) = false:=decide_eq_false c4;clear c4;obtain rfl:=Option.some.inj H
      go_enter Try.func30,Try.ntmps30
      go_wp2_with (first|((with_reducible refine gate_dst (N:=1) rfl ?_);refine box_event ?hg (N:=1) ?hd (cs:=#[.int .i64 a0_0,.int .i64 a0_1,.int .i64 a0_2,.int .i64 a0_3]) (t:=23) ?hr ?_;(case hd => rfl);(case hg => rfl);(case hr => first|(go_simp;done)|(go_simp;rfl));intro gb109 hg w11 hbox hb;have BK109:=am (hbox);have GW109:=am ((by rw [hg];exact (sz (by repeat (first|(with_reducible first|exact HB.out|apply sa|apply sn|apply sd)|exact HB.out))) : w.heap.size ≤ gb109));have GE109:=am ((by rw [hg];exact (sz (by repeat (first|(with_reducible first|exact HB.out|apply sa|apply sn|apply sd)|exact HB.out))) : w.heap.size ≤ gb109));replace HB:=am (ss (by repeat (first|(with_reducible first|exact HB.out|apply sa|apply sn|apply sd)|exact HB.out)) hb);clear hb hbox hg;obtain ⟨hcz12_0,hcz12_1,hcz12_2,hcz12_3⟩:=cq4 BK109.out;obtain ⟨hfz12_0,hfz12_1,hfz12_2,hfz12_3⟩:=fq4 BK109.out)|((with_reducible refine gate_dst (N:=11) rfl ?_);refine Kd.R_lit (Kd.int .i64) _ 3 ?hg (N:=11) ?hd (xs:=([a0_0,a0_1,a0_2,a0_3] : List Int)) (inner:=[.int .i64 a0_0,.int .i64 a0_1,.int .i64 a0_2,.int .i64 a0_3]) (ok:=fun _ => True) (okp:=fun _ => True) ?hr ?hp (fun _ hk => hk) trivial (Below.refl _ _) (Nat.le_refl _) (by simp) ?_;(case hd => rfl);(case hg => rfl);(case hr => first|(go_simp;done)|(go_simp;rfl));(case hp => exact (Reps.one (show Kd.M (Kd.int .i64) _ _ _ a0_0 [.int .i64 a0_0] from rfl) (Reps.one (show Kd.M (Kd.int .i64) _ _ _ a0_1 [.int .i64 a0_1] from rfl) (Reps.one (show Kd.M (Kd.int .i64) _ _ _ a0_2 [.int .i64 a0_2] from rfl) (Reps.one (show Kd.M (Kd.int .i64) _ _ _ a0_3 [.int .i64 a0_3] from rfl) (Reps.none _ _))))));intro v111 w13 ho14 hb hg_ hnew_;clear hg_ hnew_;(first|rw [← Ny110.out] at ho14|(simp only [Int.reduceToNat] at ho14;rw [← Ny110.out] at ho14));have HO112:=am (Kd.R_lower ho14 (sz (by repeat (first|(with_reducible first|exact HB.out|apply sa|apply sn|apply sd|refine sx ?_ GE109.out)|exact HB.out))));replace BK109:=am (bw (by exact BK109.out) hb);replace HB:=am (ss (by repeat (first|(with_reducible first|exact HB.out|apply sa|apply sn|apply sd|refine sx ?_ GE109.out)|exact HB.out)) hb);clear hb ho14;obtain ⟨Ao15,co15,eo15⟩:=Kd.R_slice HO112.out;subst eo15)|((with_reducible refine gate_callee (f:=40) rfl ?_);refine goesL_ (some 12) rfl rfl Try.func40 (by kernel_rfl) rfl #[.int .i64 (-1048576),.int .i64 1048576,.slice Ao15 y110.length co15] rfl (by (try simp only [List.map_toArray,List.map_cons,List.map_nil]);first|done|rfl|(simp only [List.length_drop,List.length_take];rfl)) ?_;(with_reducible refine (field_within.calls k (-1048576) 1048576 _ _ y110 true _ ?side1 ?side2 A2.out).mono ?_);(case side1 => repeat (first|exact (Kd.R_reads' HO112.out).2.2|(with_reducible refine Kd.C_alloc ?_ _)|(with_reducible refine Kd.C_drewN ?_ _)|(with_reducible refine Kd.C_drew ?_)));(case side2 => exact (Kd.R_reads' HO112.out).2.1);rintro e w' ⟨rfl,⟨nd,rfl⟩⟩;refine ⟨_,rfl,?_⟩;obtain ⟨hcz16_0,hcz16_1,hcz16_2,hcz16_3⟩:=cq4 BK109.out;obtain ⟨hfz16_0,hfz16_1,hfz16_2,hfz16_3⟩:=fq4 BK109.out))
      go_ret
      exact ⟨by first|rfl|(simp [errW_none,errW_some] <;> rfl)|(simp [*,errW_none,errW_some] <;> rfl),by repeat (first|(with_reducible first|exact HB.out|apply sa|apply sn|apply sd|refine sx ?_ GE109.out)|exact HB.out)⟩
  · replace c3:=Bool.eq_false_iff.mpr c3
    subst c3
    have H1 : (some false) = some r:=by rw [if_neg (show ¬ (false = true) by decide)] at H;exact H
    clear H;have H:=H1;clear H1;obtain rfl:=Option.some.inj H
    go_enter Try.func30,Try.ntmps30
    go_wp2_with (first|((with_reducible refine gate_dst (N:=1) rfl ?_);refine box_event ?hg (N:=1) ?hd (cs:=#[.int .i64 a0_0,.int .i64 a0_1,.int .i64 a0_2,.int .i64 a0_3]) (t:=23) ?hr ?_;(case hd => rfl);(case hg => rfl);(case hr => first|(go_simp;done)|(go_simp;rfl));intro gb109 hg w17 hbox hb;have BK109:=am (hbox);have GW109:=am ((by rw [hg];exact (sz (by repeat (first|(with_reducible first|exact HB.out|apply sa|apply sn|apply sd)|exact HB.out))) : w.heap.size ≤ gb109));have GE109:=am ((by rw [hg];exact (sz (by repeat (first|(with_reducible first|exact HB.out|apply sa|apply sn|apply sd)|exact HB.out))) : w.heap.size ≤ gb109));replace HB:=am (ss (by repeat (first|(with_reducible first|exact HB.out|apply sa|apply sn|apply sd)|exact HB.out)) hb);clear hb hbox hg;obtain ⟨hcz18_0,hcz18_1,hcz18_2,hcz18_3⟩:=cq4 BK109.out;obtain ⟨hfz18_0,hfz18_1,hfz18_2,hfz18_3⟩:=fq4 BK109.out)|((with_reducible refine gate_dst (N:=11) rfl ?_);refine Kd.R_lit (Kd.int .i64) _ 3 ?hg (N:=11) ?hd (xs:=([a0_0,a0_1,a0_2,a0_3] : List Int)) (inner:=[.int .i64 a0_0,.int .i64 a0_1,.int .i64 a0_2,.int .i64 a0_3]) (ok:=fun _ => True) (okp:=fun _ => True) ?hr ?hp (fun _ hk => hk) trivial (Below.refl _ _) (Nat.le_refl _) (by simp) ?_;(case hd => rfl);(case hg => rfl);(case hr => first|(go_simp;done)|(go_simp;rfl));(case hp => exact (Reps.one (show Kd.M (Kd.int .i64) _ _ _ a0_0 [.int .i64 a0_0] from rfl) (Reps.one (show Kd.M (Kd.int .i64) _ _ _ a0_1 [.int .i64 a0_1] from rfl) (Reps.one (show Kd.M (Kd.int .i64) _ _ _ a0_2 [.int .i64 a0_2] from rfl) (Reps.one (show Kd.M (Kd.int .i64) _ _ _ a0_3 [.int .i64 a0_3] from rfl) (Reps.none _ _))))));intro v111 w19 ho20 hb hg_ hnew_;clear hg_ hnew_;(first|rw [← Ny110.out] at ho20|(simp only [Int.reduceToNat] at ho20;rw [← Ny110.out] at ho20));have HO112:=am (Kd.R_lower ho20 (sz (by repeat (first|(with_reducible first|exact HB.out|apply sa|apply sn|apply sd|refine sx ?_ GE109.out)|exact HB.out))));replace BK109:=am (bw (by exact BK109.out) hb);replace HB:=am (ss (by repeat (first|(with_reducible first|exact HB.out|apply sa|apply sn|apply sd|refine sx ?_ GE109.out)|exact HB.out)) hb);clear hb ho20;obtain ⟨Ao21,co21,eo21⟩:=Kd.R_slice HO112.out;subst eo21)|((with_reducible refine gate_callee (f:=40) rfl ?_);refine goesL_ (some 12) rfl rfl Try.func40 (by kernel_rfl) rfl #[.int .i64 (-1048576),.int .i64 1048576,.slice Ao21 y110.length co21] rfl (by (try simp only [List.map_toArray,List.map_cons,List.map_nil]);first|done|rfl|(simp only [List.length_drop,List.length_take];rfl)) ?_;(with_reducible refine (field_within.calls k (-1048576) 1048576 _ _ y110 false _ ?side1 ?side2 A2.out).mono ?_);(case side1 => repeat (first|exact (Kd.R_reads' HO112.out).2.2|(with_reducible refine Kd.C_alloc ?_ _)|(with_reducible refine Kd.C_drewN ?_ _)|(with_reducible refine Kd.C_drew ?_)));(case side2 => exact (Kd.R_reads' HO112.out).2.1);rintro e w' ⟨rfl,⟨nd,rfl⟩⟩;refine ⟨_,rfl,?_⟩))
    go_ret
    exact ⟨by first|rfl|(simp [errW_none,errW_some] <;> rfl)|(simp [*,errW_none,errW_some] <;> rfl),by repeat (first|(with_reducible first|exact HB.out|apply sa|apply sn|apply sd|refine sx ?_ GE109.out)|exact HB.out)⟩

/-! ### field_RightRGBA: function 52 -/
def field_RightRGBA.f (k : Nat) (a0_0 : Int) (a0_1 : Int) (a0_2 : Int) (a0_3 : Int) : Option (Bool):=(field_within.f k 0 255 (([a0_0,a0_1,a0_2,a0_3] : List Int))).bind fun t118 => (some t118)
theorem field_RightRGBA.mono : ∀ a0 a1 a2 a3 k,LeO (field_RightRGBA.f k a0 a1 a2 a3) (field_RightRGBA.f (k + 1) a0 a1 a2 a3):=by
  intro a0 a1 a2 a3 k
  unfold field_RightRGBA.f
  repeat' first
      | (with_reducible exact field_within.mono _ _ _ _)
      | (with_reducible exact LeO.refl _)
      | (with_reducible exact LeO.none _)
      | (with_reducible refine LeO.ite ?_ ?_)
      | (with_reducible refine LeO.bind ?_ (fun _ => ?_))
      | exact field_within.mono _ _ _ _
      | exact LeO.none _
      | refine LeO.ite ?_ ?_
      | refine LeO.bind ?_ (fun _ => ?_)
set_option maxHeartbeats 8000000 in
set_option maxRecDepth 100000 in
theorem field_RightRGBA.calls (k : Nat) (a0_0 : Int) (a0_1 : Int) (a0_2 : Int) (a0_3 : Int) (r : Bool) (w : World) (h : field_RightRGBA.f k a0_0 a0_1 a0_2 a0_3 = some r) :
    Calls Try.prog 52 #[.agg #[.int .i64 a0_0,.int .i64 a0_1,.int .i64 a0_2,.int .i64 a0_3]] w fun e w' => e = .returned (.bool r) ∧ Below w.heap.size w w':=by
  have hu60:=Try.underlying60;have HB:=am (Below.refl w.heap.size w);have H : ((field_within.f k 0 255 (([a0_0,a0_1,a0_2,a0_3] : List Int))).bind fun t118 => (some t118)) = some r:=h;clear h;obtain ⟨y115,hy115⟩ : ∃ y_ : List Int,y_ = (([a0_0,a0_1,a0_2,a0_3] : List Int)):=⟨_,rfl⟩
  replace H : ((field_within.f k 0 255 y115).bind fun t118 => (some t118)) = some r:=by first|(rw [hy115];with_reducible exact H)|(have H2_:=(Option.bind_some _ _).symm.trans H;rw [hy115];with_reducible exact H2_)|(have H2_:=(Option.bind_some _ _).symm.trans H;with_reducible exact H2_)|with_reducible exact H|(rw [hy115];exact H)|exact H
  have Ny115:=am hy115;clear hy115;replace H:=Option.bind_eq_some_iff.mp H;obtain ⟨t118,A20,H⟩:=H;replace H : (some t118) = some r:=H;have A2:=am A20;clear A20;obtain rfl:=Option.some.inj H
  go_enter Try.func52,Try.ntmps52
  go_wp2_with (first|((with_reducible refine gate_dst (N:=1) rfl ?_);refine box_event ?hg (N:=1) ?hd (cs:=#[.int .i64 a0_0,.int .i64 a0_1,.int .i64 a0_2,.int .i64 a0_3]) (t:=60) ?hr ?_;(case hd => rfl);(case hg => rfl);(case hr => first|(go_simp;done)|(go_simp;rfl));intro gb114 hg w3 hbox hb;have BK114:=am (hbox);have GW114:=am ((by rw [hg];exact (sz (by repeat (first|(with_reducible first|exact HB.out|apply sa|apply sn|apply sd)|exact HB.out))) : w.heap.size ≤ gb114));have GE114:=am ((by rw [hg];exact (sz (by repeat (first|(with_reducible first|exact HB.out|apply sa|apply sn|apply sd)|exact HB.out))) : w.heap.size ≤ gb114));replace HB:=am (ss (by repeat (first|(with_reducible first|exact HB.out|apply sa|apply sn|apply sd)|exact HB.out)) hb);clear hb hbox hg;obtain ⟨hcz4_0,hcz4_1,hcz4_2,hcz4_3⟩:=cq4 BK114.out;obtain ⟨hfz4_0,hfz4_1,hfz4_2,hfz4_3⟩:=fq4 BK114.out)|((with_reducible refine gate_dst (N:=11) rfl ?_);refine Kd.R_lit (Kd.int .i64) _ 3 ?hg (N:=11) ?hd (xs:=([a0_0,a0_1,a0_2,a0_3] : List Int)) (inner:=[.int .i64 a0_0,.int .i64 a0_1,.int .i64 a0_2,.int .i64 a0_3]) (ok:=fun _ => True) (okp:=fun _ => True) ?hr ?hp (fun _ hk => hk) trivial (Below.refl _ _) (Nat.le_refl _) (by simp) ?_;(case hd => rfl);(case hg => rfl);(case hr => first|(go_simp;done)|(go_simp;rfl));(case hp => exact (Reps.one (show Kd.M (Kd.int .i64) _ _ _ a0_0 [.int .i64 a0_0] from rfl) (Reps.one (show Kd.M (Kd.int .i64) _ _ _ a0_1 [.int .i64 a0_1] from rfl) (Reps.one (show Kd.M (Kd.int .i64) _ _ _ a0_2 [.int .i64 a0_2] from rfl) (Reps.one (show Kd.M (Kd.int .i64) _ _ _ a0_3 [.int .i64 a0_3] from rfl) (Reps.none _ _))))));intro v116 w5 ho6 hb hg_ hnew_;clear hg_ hnew_;(first|rw [← Ny115.out] at ho6|(simp only [Int.reduceToNat] at ho6;rw [← Ny115.out] at ho6));have HO117:=am (Kd.R_lower ho6 (sz (by repeat (first|(with_reducible first|exact HB.out|apply sa|apply sn|apply sd|refine sx ?_ GE114.out)|exact HB.out))));replace BK114:=am (bw (by exact BK114.out) hb);replace HB:=am (ss (by repeat (first|(with_reducible first|exact HB.out|apply sa|apply sn|apply sd|refine sx ?_ GE114.out)|exact HB.out)) hb);clear hb ho6;obtain ⟨Ao7,co7,eo7⟩:=Kd.R_slice HO117.out;subst eo7)|((with_reducible refine gate_callee (f:=40) rfl ?_);refine goesL_ (some 12) rfl rfl Try.func40 (by kernel_rfl) rfl #[.int .i64 0,.int .i64 255,.slice Ao7 y115.length co7] rfl (by (try simp only [List.map_toArray,List.map_cons,List.map_nil]);first|done|rfl|(simp only [List.length_drop,List.length_take];rfl)) ?_;(with_reducible refine (field_within.calls k 0 255 _ _ y115 t118 _ ?side1 ?side2 A2.out).mono ?_);(case side1 => repeat (first|exact (Kd.R_reads' HO117.out).2.2|(with_reducible refine Kd.C_alloc ?_ _)|(with_reducible refine Kd.C_drewN ?_ _)|(with_reducible refine Kd.C_drew ?_)));(case side2 => exact (Kd.R_reads' HO117.out).2.1);rintro e w' ⟨rfl,⟨nd,rfl⟩⟩;refine ⟨_,rfl,?_⟩))
  go_ret
  exact ⟨by first|rfl|(simp [errW_none,errW_some] <;> rfl)|(simp [*,errW_none,errW_some] <;> rfl),by repeat (first|(with_reducible first|exact HB.out|apply sa|apply sn|apply sd|refine sx ?_ GE114.out)|exact HB.out)⟩

/-! ### api_Stop: function 60 -/
def api_Stop.l0 : Nat → List (S86) → List (S86) → Int → Int → Option (Bool)
  | 0,_,_,_,_ => none
  | k + 1,x0,x1,x12,x13 => if x13 < x12 then (if 0 ≤ x13 then (if x13 < (x0.length : Int) then (if x13 < (x1.length : Int) then (if (!(((rd_T86 x0 x13).f0) == ((rd_T86 x1 x13).f0)) || ((!(((rd_T86 x0 x13).f1.f0) == ((rd_T86 x1 x13).f1.f0)) || (!(((rd_T86 x0 x13).f1.f1) == ((rd_T86 x1 x13).f1.f1)) || (!(((rd_T86 x0 x13).f1.f2) == ((rd_T86 x1 x13).f1.f2)) || (!(((rd_T86 x0 x13).f1.f3) == ((rd_T86 x1 x13).f1.f3)))))))) = true then (some false) else (api_Stop.l0 k x0 x1 x12 (wrap64 (x13 + 1)))) else (none)) else (none)) else (none)) else (some true)
def api_Stop.f (k : Nat) (l0 : List (S86)) (l1 : List (S86)) : Option (Bool):=if (l0.length : Int) = (l1.length : Int) then (api_Stop.l0 k l0 l1 (l0.length : Int) 0) else (some false)
theorem api_Stop.mono_l : ∀ k,(∀ y0 y1 y2 y3,LeO (api_Stop.l0 k y0 y1 y2 y3) (api_Stop.l0 (k + 1) y0 y1 y2 y3))
  | 0 => fun _ _ _ _ r h => by simp [api_Stop.l0] at h
  | k + 1 => by
    have ih0:=api_Stop.mono_l k
    · intro y0 y1 y2 y3
      unfold api_Stop.l0
      repeat' first
      | (with_reducible exact ih0 _ _ _ _)
      | (with_reducible exact LeO.refl _)
      | (with_reducible exact LeO.none _)
      | (with_reducible refine LeO.ite ?_ ?_)
      | (with_reducible refine LeO.bind ?_ (fun _ => ?_))
      | exact ih0 _ _ _ _
      | exact LeO.none _
      | refine LeO.ite ?_ ?_
      | refine LeO.bind ?_ (fun _ => ?_)
theorem api_Stop.mono : ∀ a0 a1 k,LeO (api_Stop.f k a0 a1) (api_Stop.f (k + 1) a0 a1):=by
  intro a0 a1 k
  have ih0:=api_Stop.mono_l k
  unfold api_Stop.f
  repeat' first
      | (with_reducible exact ih0 _ _ _ _)
      | (with_reducible exact LeO.refl _)
      | (with_reducible exact LeO.none _)
      | (with_reducible refine LeO.ite ?_ ?_)
      | (with_reducible refine LeO.bind ?_ (fun _ => ?_))
      | exact ih0 _ _ _ _
      | exact LeO.none _
      | refine LeO.ite ?_ ?_
      | refine LeO.bind ?_ (fun _ => ?_)
set_option maxHeartbeats 8000000 in
set_option maxRecDepth 100000 in
theorem api_Stop.calls (k : Nat) (A0 : Option Addr) (c0 : Nat) (l0 : List (S86)) (A1 : Option Addr) (c1 : Nat) (l1 : List (S86)) (r : Bool) (w : World) (hr0 : Kd.C k86 w A0 l0.length l0) (hc0 : l0.length ≤ c0) (hr1 : Kd.C k86 w A1 l1.length l1) (hc1 : l1.length ≤ c1) (h : api_Stop.f k l0 l1 = some r) :
    Calls Try.prog 60 #[.slice A0 l0.length c0,.slice A1 l1.length c1] w fun e w' => e = .returned (.bool r) ∧ Drawn0 w w':=by
  have hu86:=Try.underlying86;have HR0:=am hr0;have HC0:=am hc0;clear hr0 hc0;have HR1:=am hr1;have HC1:=am hc1;clear hr1 hc1;have H : (if (l0.length : Int) = (l1.length : Int) then (api_Stop.l0 k l0 l1 (l0.length : Int) 0) else (some false)) = some r:=h;clear h
  by_cases c3 : (l0.length : Int) = (l1.length : Int)
  · rw [if_pos c3] at H
    have c3b0 : ((l0.length : Int) == (l1.length : Int)) = true:=beq_iff_eq.mpr c3;have c3b1 : ((l0.length : Int) != (l1.length : Int)) = false:=bne_eq_false_iff_eq.mpr c3
    have c3b2 : (l0.length == l1.length) = true:=by first|simpa using c3|(simp at c3 ⊢;omega)
    clear c3;have H':=am H;clear H
    go_enter Try.func60,Try.ntmps60
    go_wp2
    repeat (go_quiet (fail);try go_wp2)
    go_loopg [13] k (fun kq v13 w' => ∃ (x13_1 : Int),v13 = .int .i64 x13_1 ∧ Aside0 (api_Stop.l0 kq l0 l1 (l0.length : Int) x13_1 = some r) ∧ Aside0 (kq ≤ k) ∧ Drawn0 w w')
    case atStart => exact ⟨(0),(by first|rfl|(simp;done)|(simp [*];done)),H',⟨Nat.le_refl _⟩,by repeat (first|exact Drawn0.refl _|apply Drawn0.step)⟩
    case round =>
      clear H'
      (try clear c1);(try clear p2);(try clear c3);(try clear c3b0);(try clear c3b1);(try clear c3b2)
      obtain ⟨x13_1,rfl,HA,HK1,⟨m1,rfl⟩⟩:=hrel
      cases gk with
      | zero => exact absurd HA.out (by simp [api_Stop.l0])
      | succ k1 =>
        have H:=HA.out;clear HA;simp only [api_Stop.l0] at H
        by_cases c4 : x13_1 < (l0.length : Int)
        · rw [if_pos c4] at H
          have c4b0 : decide (x13_1 < (l0.length : Int)) = true:=decide_eq_true c4;clear c4
          by_cases c5 : 0 ≤ x13_1
          · rw [if_pos c5] at H
            have c5b0 : decide (0 ≤ x13_1) = true:=decide_eq_true c5;clear c5
            by_cases c6 : x13_1 < (l0.length : Int)
            · rw [if_pos c6] at H
              have c6b0 : decide (x13_1 < (l0.length : Int)) = true:=decide_eq_true c6;clear c6
              by_cases c7 : x13_1 < (l1.length : Int)
              · rw [if_pos c7] at H
                have c7b0 : decide (x13_1 < (l1.length : Int)) = true:=decide_eq_true c7;clear c7
                by_cases c8 : (!(((rd_T86 l0 x13_1).f0) == ((rd_T86 l1 x13_1).f0)) || ((!(((rd_T86 l0 x13_1).f1.f0) == ((rd_T86 l1 x13_1).f1.f0)) || (!(((rd_T86 l0 x13_1).f1.f1) == ((rd_T86 l1 x13_1).f1.f1)) || (!(((rd_T86 l0 x13_1).f1.f2) == ((rd_T86 l1 x13_1).f1.f2)) || (!(((rd_T86 l0 x13_1).f1.f3) == ((rd_T86 l1 x13_1).f1.f3)))))))) = true
                · rw [if_pos c8] at H
                  have c8b0 : (!(((rd_T86 l0 x13_1).f0) == ((rd_T86 l1 x13_1).f0)) || ((!(((rd_T86 l0 x13_1).f1.f0) == ((rd_T86 l1 x13_1).f1.f0)) || (!(((rd_T86 l0 x13_1).f1.f1) == ((rd_T86 l1 x13_1).f1.f1)) || (!(((rd_T86 l0 x13_1).f1.f2) == ((rd_T86 l1 x13_1).f1.f2)) || (!(((rd_T86 l0 x13_1).f1.f3) == ((rd_T86 l1 x13_1).f1.f3)))))))) = true:=c8;clear c8;obtain rfl:=Option.some.inj H;have p119 : 0 ≤ (x13_1 : Int):=of_decide_eq_true (by first|(with_reducible assumption)|assumption);have q119 : x13_1 < (l0.length : Int):=of_decide_eq_true (by first|(with_reducible assumption)|assumption);obtain ⟨ad119,e119,hx119_0,hx119_1,hx119_2,hx119_3,hx119_4⟩:=at_T86 HR0.out x13_1 p119 q119
                  cases e119
                  replace p119:=eq_true p119;replace q119:=eq_true q119;have p120 : 0 ≤ (x13_1 : Int):=of_decide_eq_true (by first|(with_reducible assumption)|assumption);have q120 : x13_1 < (l1.length : Int):=of_decide_eq_true (by first|(with_reducible assumption)|assumption);obtain ⟨ad120,e120,hx120_0,hx120_1,hx120_2,hx120_3,hx120_4⟩:=at_T86 HR1.out x13_1 p120 q120
                  cases e120
                  replace p120:=eq_true p120;replace q120:=eq_true q120
                  go_wp2
                  repeat (go_quiet (fail);try go_wp2)
                  go_ret
                  exact ⟨by first|rfl|(simp;done)|(simp [*];done),by repeat (first|exact Drawn0.refl _|apply Drawn0.step)⟩
                · rw [if_neg c8] at H
                  have c8b0 : (!(((rd_T86 l0 x13_1).f0) == ((rd_T86 l1 x13_1).f0)) || ((!(((rd_T86 l0 x13_1).f1.f0) == ((rd_T86 l1 x13_1).f1.f0)) || (!(((rd_T86 l0 x13_1).f1.f1) == ((rd_T86 l1 x13_1).f1.f1)) || (!(((rd_T86 l0 x13_1).f1.f2) == ((rd_T86 l1 x13_1).f1.f2)) || (!(((rd_T86 l0 x13_1).f1.f3) == ((rd_T86 l1 x13_1).f1.f3)))))))) = false:=by simpa using c8
                  clear c8;have H':=am H;clear H;have p119 : 0 ≤ (x13_1 : Int):=of_decide_eq_true (by first|(with_reducible assumption)|assumption);have q119 : x13_1 < (l0.length : Int):=of_decide_eq_true (by first|(with_reducible assumption)|assumption);obtain ⟨ad119,e119,hx119_0,hx119_1,hx119_2,hx119_3,hx119_4⟩:=at_T86 HR0.out x13_1 p119 q119
                  cases e119
                  replace p119:=eq_true p119;replace q119:=eq_true q119;have p120 : 0 ≤ (x13_1 : Int):=of_decide_eq_true (by first|(with_reducible assumption)|assumption);have q120 : x13_1 < (l1.length : Int):=of_decide_eq_true (by first|(with_reducible assumption)|assumption);obtain ⟨ad120,e120,hx120_0,hx120_1,hx120_2,hx120_3,hx120_4⟩:=at_T86 HR1.out x13_1 p120 q120
                  cases e120
                  replace p120:=eq_true p120;replace q120:=eq_true q120
                  go_wp2
                  repeat (go_quiet (fail);try go_wp2)
                  go_roundg k1
                  case measure => have:=HK1.out;omega
                  case rel => exact ⟨(wrap64 (x13_1 + 1)),(by first|rfl|(simp;done)|(simp [*];done)),H',⟨by have:=HK1.out;omega⟩,by repeat (first|exact Drawn0.refl _|apply Drawn0.step)⟩
              · rw [if_neg c7] at H
                exact absurd H (by simp)
            · rw [if_neg c6] at H
              exact absurd H (by simp)
          · rw [if_neg c5] at H
            exact absurd H (by simp)
        · rw [if_neg c4] at H
          have c4b0 : decide (x13_1 < (l0.length : Int)) = false:=decide_eq_false c4;clear c4;obtain rfl:=Option.some.inj H
          go_wp2
          repeat (go_quiet (fail);try go_wp2)
          go_ret
          exact ⟨by first|rfl|(simp;done)|(simp [*];done),by repeat (first|exact Drawn0.refl _|apply Drawn0.step)⟩
  · rw [if_neg c3] at H
    have c3b0 : ((l0.length : Int) == (l1.length : Int)) = false:=beq_eq_false_iff_ne.mpr c3;have c3b1 : ((l0.length : Int) != (l1.length : Int)) = true:=bne_iff_ne.mpr c3
    have c3b2 : (l0.length == l1.length) = false:=by first|simpa using c3|(simp at c3 ⊢;omega)
    obtain rfl:=Option.some.inj H
    go_enter Try.func60,Try.ntmps60
    go_wp2
    repeat (go_quiet (fail);try go_wp2)
    go_ret
    exact ⟨by first|rfl|(simp;done)|(simp [*];done),by repeat (first|exact Drawn0.refl _|apply Drawn0.step)⟩

end Go.Proofs.Ytlldbmodidhidaa.P
