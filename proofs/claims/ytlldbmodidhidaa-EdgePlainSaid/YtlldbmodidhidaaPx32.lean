/- Printed by printx.py (wip/tool) out of the translation: plain functions that tell what the program answers, and the proofs that the program comes to these answers, for all arguments of their kinds. Lean checks it. -/
import Derived.Test.YtlldbmodidhidaaShort
import Derived.Test.YtlldbmodidhidaaPx0
import Derived.Test.YtlldbmodidhidaaPx8
import Derived.Test.YtlldbmodidhidaaPx16
import Derived.Test.YtlldbmodidhidaaPx17
namespace Go.Proofs.Ytlldbmodidhidaa.P
open Go.RowKit Go.Proofs.YtlldbmodidhidaaW.PrintWords Go.Proofs.YtlldbmodidhidaaW.PrintLast Go.Proofs.YtlldbmodidhidaaW.PrintMore
attribute [local go_sem] max2_int min2_int max_two min_two max_three min_three max_four min_four max_five min_five max_six min_six   -- for this text's walks alone
set_option linter.unusedVariables false
set_option linter.unusedSimpArgs false
theorem plain_ix0 (a b c : Int) (w : World) : Sem.run Try.prog (Instr.index 54 (.agg #[.int .i64 a,.int .i64 b,.int .i64 c]) (.int .i64 0)) w = .ok (.int .i64 a) w := by rfl
attribute [local go_sem ↓] plain_ix0   -- for this text's walks alone
theorem plain_ix1 (a b c : Int) (w : World) : Sem.run Try.prog (Instr.index 54 (.agg #[.int .i64 a,.int .i64 b,.int .i64 c]) (.int .i64 1)) w = .ok (.int .i64 b) w := by rfl
attribute [local go_sem ↓] plain_ix1   -- for this text's walks alone
theorem plain_ix2 (a b c : Int) (w : World) : Sem.run Try.prog (Instr.index 54 (.agg #[.int .i64 a,.int .i64 b,.int .i64 c]) (.int .i64 2)) w = .ok (.int .i64 c) w := by rfl
attribute [local go_sem ↓] plain_ix2   -- for this text's walks alone

/-! ### celluloidlaw15_EdgePlain: function 6 -/
mutual
def celluloidlaw15_EdgePlain.l0 : Nat → Int → List (S49) → Int → Int → Int → Int → Int → Int → Int → List (S65) → List (S79) → List (S49) → List (S65) → List (S79) → List (S51) → Int → Int → Int → Option (Bool)
  | 0,_,_,_,_,_,_,_,_,_,_,_,_,_,_,_,_,_,_ => none
  | k + 1,x6,x24,x25,x26,x274000,x274001,x274002,x274003,x274004,x274005,x274006,x274007,x287000,x287001,x287002,x289000,x289001,x289002 => if x26 < x25 then (if 0 ≤ x26 then (if x26 < (x24.length : Int) then (if ((rd_T49 x24 x26).f0) = 3 then ((celluloidlaw15_awake.f k).bind fun t292 => (some t292)) else (if ((rd_T49 x24 x26).f0) = 2 then (celluloidlaw15_EdgePlain.l1 k x6 x24 x25 x26 ((rd_T49 x24 x26).f5) ((rd_T49 x24 x26).f6) ((rd_T49 x24 x26).f7) 0 x274000 x274001 x274002 x274003 x274004 x274005 x274006 x274007 x287000 x287001 x287002 x289000 x289001 x289002 ((rd_T49 x24 x26).f0) ((rd_T49 x24 x26).f1) ((rd_T49 x24 x26).f2) ((rd_T49 x24 x26).f3) ((rd_T49 x24 x26).f4) ((rd_T49 x24 x26).f5) ((rd_T49 x24 x26).f6) ((rd_T49 x24 x26).f7) ((rd_T49 x24 x26).f8) ((rd_T49 x24 x26).f9)) else (celluloidlaw15_EdgePlain.j2 k x6 x24 x25 x26 x274000 x274001 x274002 x274003 x274004 x274005 x274006 x274007 x287000 x287001 x287002 x289000 x289001 x289002 ((rd_T49 x24 x26).f0) ((rd_T49 x24 x26).f1) ((rd_T49 x24 x26).f2) ((rd_T49 x24 x26).f3) ((rd_T49 x24 x26).f4) ((rd_T49 x24 x26).f5) ((rd_T49 x24 x26).f6) ((rd_T49 x24 x26).f7) ((rd_T49 x24 x26).f8) ((rd_T49 x24 x26).f9)))) else (none)) else (none)) else (if x6 = (x287002.length : Int) then (if (x287000.length : Int) = (x274005.length : Int) then (if (x287001.length : Int) = (x274006.length : Int) then ((celluloidlaw15_awake.f k).bind fun t289 => (some t289)) else (some false)) else (some false)) else (some false))
def celluloidlaw15_EdgePlain.j2 : Nat → Int → List (S49) → Int → Int → Int → Int → Int → Int → Int → List (S65) → List (S79) → List (S49) → List (S65) → List (S79) → List (S51) → Int → Int → Int → Int → Int → Int → Int → Int → Int → Int → Int → List (S65) → List (S79) → Option (Bool)
  | 0,_,_,_,_,_,_,_,_,_,_,_,_,_,_,_,_,_,_,_,_,_,_,_,_,_,_,_,_ => none
  | k + 1,x6,x24,x25,x26,x274000,x274001,x274002,x274003,x274004,x274005,x274006,x274007,x287000,x287001,x287002,x289000,x289001,x289002,x292000,x292001,x292002,x292003,x292004,x292005,x292006,x292007,x292008,x292009 => if x292000 = 4 then (celluloidlaw15_EdgePlain.j3 k x6 x24 x25 x26 true x274000 x274001 x274002 x274003 x274004 x274005 x274006 x274007 x287000 x287001 x287002 x289000 x289001 x289002) else (celluloidlaw15_EdgePlain.j3 k x6 x24 x25 x26 (x292000 == 5) x274000 x274001 x274002 x274003 x274004 x274005 x274006 x274007 x287000 x287001 x287002 x289000 x289001 x289002)
def celluloidlaw15_EdgePlain.j3 : Nat → Int → List (S49) → Int → Int → Bool → Int → Int → Int → Int → Int → List (S65) → List (S79) → List (S49) → List (S65) → List (S79) → List (S51) → Int → Int → Int → Option (Bool)
  | 0,_,_,_,_,_,_,_,_,_,_,_,_,_,_,_,_,_,_,_ => none
  | k + 1,x6,x24,x25,x26,x61,x274000,x274001,x274002,x274003,x274004,x274005,x274006,x274007,x287000,x287001,x287002,x289000,x289001,x289002 => if x61 = true then (if x6 ≥ (x287002.length : Int) then (some false) else (if 0 ≤ x6 then (if x6 < (x287002.length : Int) then (if ((rd_T51 x287002 x6).f4) = x289000 then (if ((rd_T51 x287002 x6).f5) = x289001 then (if ((rd_T51 x287002 x6).f6) = x289002 then (celluloidlaw15_EdgePlain.l0 k (wrap64 (x6 + 1)) x24 x25 (wrap64 (x26 + 1)) x274000 x274001 x274002 x274003 x274004 x274005 x274006 x274007 x287000 x287001 x287002 x289000 x289001 x289002) else (some false)) else (some false)) else (some false)) else (none)) else (none))) else (celluloidlaw15_EdgePlain.l0 k x6 x24 x25 (wrap64 (x26 + 1)) x274000 x274001 x274002 x274003 x274004 x274005 x274006 x274007 x287000 x287001 x287002 x289000 x289001 x289002)
def celluloidlaw15_EdgePlain.l1 : Nat → Int → List (S49) → Int → Int → Int → Int → Int → Int → Int → Int → Int → Int → Int → List (S65) → List (S79) → List (S49) → List (S65) → List (S79) → List (S51) → Int → Int → Int → Int → Int → Int → Int → Int → Int → Int → Int → List (S65) → List (S79) → Option (Bool)
  | 0,_,_,_,_,_,_,_,_,_,_,_,_,_,_,_,_,_,_,_,_,_,_,_,_,_,_,_,_,_,_,_,_ => none
  | k + 1,x6,x24,x25,x26,x38,x40,x42,x44,x274000,x274001,x274002,x274003,x274004,x274005,x274006,x274007,x287000,x287001,x287002,x289000,x289001,x289002,x292000,x292001,x292002,x292003,x292004,x292005,x292006,x292007,x292008,x292009 => if x44 = 0 then (if x38 ≥ 0 then (celluloidlaw15_EdgePlain.l1 k x6 x24 x25 x26 x38 x40 x42 1 x274000 x274001 x274002 x274003 x274004 x274005 x274006 x274007 x287000 x287001 x287002 x38 x289001 x289002 x292000 x292001 x292002 x292003 x292004 x292005 x292006 x292007 x292008 x292009) else (celluloidlaw15_EdgePlain.l1 k x6 x24 x25 x26 x38 x40 x42 1 x274000 x274001 x274002 x274003 x274004 x274005 x274006 x274007 x287000 x287001 x287002 x289000 x289001 x289002 x292000 x292001 x292002 x292003 x292004 x292005 x292006 x292007 x292008 x292009)) else if x44 = 1 then (if x40 ≥ 0 then (celluloidlaw15_EdgePlain.l1 k x6 x24 x25 x26 x38 x40 x42 2 x274000 x274001 x274002 x274003 x274004 x274005 x274006 x274007 x287000 x287001 x287002 x289000 x40 x289002 x292000 x292001 x292002 x292003 x292004 x292005 x292006 x292007 x292008 x292009) else (celluloidlaw15_EdgePlain.l1 k x6 x24 x25 x26 x38 x40 x42 2 x274000 x274001 x274002 x274003 x274004 x274005 x274006 x274007 x287000 x287001 x287002 x289000 x289001 x289002 x292000 x292001 x292002 x292003 x292004 x292005 x292006 x292007 x292008 x292009)) else if x44 = 2 then (if x42 ≥ 0 then (celluloidlaw15_EdgePlain.l1 k x6 x24 x25 x26 x38 x40 x42 3 x274000 x274001 x274002 x274003 x274004 x274005 x274006 x274007 x287000 x287001 x287002 x289000 x289001 x42 x292000 x292001 x292002 x292003 x292004 x292005 x292006 x292007 x292008 x292009) else (celluloidlaw15_EdgePlain.l1 k x6 x24 x25 x26 x38 x40 x42 3 x274000 x274001 x274002 x274003 x274004 x274005 x274006 x274007 x287000 x287001 x287002 x289000 x289001 x289002 x292000 x292001 x292002 x292003 x292004 x292005 x292006 x292007 x292008 x292009)) else if x44 = 3 then (celluloidlaw15_EdgePlain.j2 k x6 x24 x25 x26 x274000 x274001 x274002 x274003 x274004 x274005 x274006 x274007 x287000 x287001 x287002 x289000 x289001 x289002 x292000 x292001 x292002 x292003 x292004 x292005 x292006 x292007 x292008 x292009) else (none)
end
def celluloidlaw15_EdgePlain.f (k : Nat) (a0_0 : Int) (a0_1 : Int) (a0_2 : Int) (a0_3 : Int) (a0_4 : Int) (l0_5 : List (S65)) (l0_6 : List (S79)) (l0_7 : List (S49)) : Option (Bool):=(celluloidlaw15_small.f k a0_0 a0_1 a0_2 a0_3 a0_4 l0_5 l0_6 l0_7).bind fun t274 => (if t274 = true then ((edge_Of.f k a0_0 a0_1 a0_2 a0_3 a0_4 l0_5 l0_6 l0_7).bind fun bt276 => (if bt276.2.2.2 = 0 then (celluloidlaw15_EdgePlain.l0 k 0 l0_7 (l0_7.length : Int) 0 a0_0 a0_1 a0_2 a0_3 a0_4 l0_5 l0_6 l0_7 bt276.1 bt276.2.1 bt276.2.2.1 0 0 0) else ((celluloidlaw15_awake.f k).bind fun t287 => (some t287)))) else ((celluloidlaw15_awake.f k).bind fun t275 => (some t275)))
theorem celluloidlaw15_EdgePlain.mono_l : ∀ k,(∀ y0 y1 y2 y3 y4 y5 y6 y7 y8 y9 y10 y11 y12 y13 y14 y15 y16 y17,LeO (celluloidlaw15_EdgePlain.l0 k y0 y1 y2 y3 y4 y5 y6 y7 y8 y9 y10 y11 y12 y13 y14 y15 y16 y17) (celluloidlaw15_EdgePlain.l0 (k + 1) y0 y1 y2 y3 y4 y5 y6 y7 y8 y9 y10 y11 y12 y13 y14 y15 y16 y17)) ∧ (∀ y0 y1 y2 y3 y4 y5 y6 y7 y8 y9 y10 y11 y12 y13 y14 y15 y16 y17 y18 y19 y20 y21 y22 y23 y24 y25 y26 y27,LeO (celluloidlaw15_EdgePlain.j2 k y0 y1 y2 y3 y4 y5 y6 y7 y8 y9 y10 y11 y12 y13 y14 y15 y16 y17 y18 y19 y20 y21 y22 y23 y24 y25 y26 y27) (celluloidlaw15_EdgePlain.j2 (k + 1) y0 y1 y2 y3 y4 y5 y6 y7 y8 y9 y10 y11 y12 y13 y14 y15 y16 y17 y18 y19 y20 y21 y22 y23 y24 y25 y26 y27)) ∧ (∀ y0 y1 y2 y3 y4 y5 y6 y7 y8 y9 y10 y11 y12 y13 y14 y15 y16 y17 y18,LeO (celluloidlaw15_EdgePlain.j3 k y0 y1 y2 y3 y4 y5 y6 y7 y8 y9 y10 y11 y12 y13 y14 y15 y16 y17 y18) (celluloidlaw15_EdgePlain.j3 (k + 1) y0 y1 y2 y3 y4 y5 y6 y7 y8 y9 y10 y11 y12 y13 y14 y15 y16 y17 y18)) ∧ (∀ y0 y1 y2 y3 y4 y5 y6 y7 y8 y9 y10 y11 y12 y13 y14 y15 y16 y17 y18 y19 y20 y21 y22 y23 y24 y25 y26 y27 y28 y29 y30 y31,LeO (celluloidlaw15_EdgePlain.l1 k y0 y1 y2 y3 y4 y5 y6 y7 y8 y9 y10 y11 y12 y13 y14 y15 y16 y17 y18 y19 y20 y21 y22 y23 y24 y25 y26 y27 y28 y29 y30 y31) (celluloidlaw15_EdgePlain.l1 (k + 1) y0 y1 y2 y3 y4 y5 y6 y7 y8 y9 y10 y11 y12 y13 y14 y15 y16 y17 y18 y19 y20 y21 y22 y23 y24 y25 y26 y27 y28 y29 y30 y31))
  | 0 => ⟨fun _ _ _ _ _ _ _ _ _ _ _ _ _ _ _ _ _ _ r h => by simp [celluloidlaw15_EdgePlain.l0] at h,fun _ _ _ _ _ _ _ _ _ _ _ _ _ _ _ _ _ _ _ _ _ _ _ _ _ _ _ _ r h => by simp [celluloidlaw15_EdgePlain.j2] at h,fun _ _ _ _ _ _ _ _ _ _ _ _ _ _ _ _ _ _ _ r h => by simp [celluloidlaw15_EdgePlain.j3] at h,fun _ _ _ _ _ _ _ _ _ _ _ _ _ _ _ _ _ _ _ _ _ _ _ _ _ _ _ _ _ _ _ _ r h => by simp [celluloidlaw15_EdgePlain.l1] at h⟩
  | k + 1 => by
    obtain ⟨ih0,ih1,ih2,ih3⟩:=celluloidlaw15_EdgePlain.mono_l k;refine ⟨?_,?_,?_,?_⟩
    · intro y0 y1 y2 y3 y4 y5 y6 y7 y8 y9 y10 y11 y12 y13 y14 y15 y16 y17
      unfold celluloidlaw15_EdgePlain.l0
      repeat' first
      | (with_reducible exact ih0 _ _ _ _ _ _ _ _ _ _ _ _ _ _ _ _ _ _)
      | (with_reducible exact ih1 _ _ _ _ _ _ _ _ _ _ _ _ _ _ _ _ _ _ _ _ _ _ _ _ _ _ _ _)
      | (with_reducible exact ih2 _ _ _ _ _ _ _ _ _ _ _ _ _ _ _ _ _ _ _)
      | (with_reducible exact ih3 _ _ _ _ _ _ _ _ _ _ _ _ _ _ _ _ _ _ _ _ _ _ _ _ _ _ _ _ _ _ _ _)
      | (with_reducible exact celluloidlaw15_awake.mono _)
      | (with_reducible exact celluloidlaw15_small.mono _ _ _ _ _ _ _ _ _)
      | (with_reducible exact edge_Of.mono _ _ _ _ _ _ _ _ _)
      | (with_reducible exact LeO.refl _)
      | (with_reducible exact LeO.none _)
      | (with_reducible refine LeO.ite ?_ ?_)
      | (with_reducible refine LeO.bind ?_ (fun _ => ?_))
      | exact ih0 _ _ _ _ _ _ _ _ _ _ _ _ _ _ _ _ _ _
      | exact ih1 _ _ _ _ _ _ _ _ _ _ _ _ _ _ _ _ _ _ _ _ _ _ _ _ _ _ _ _
      | exact ih2 _ _ _ _ _ _ _ _ _ _ _ _ _ _ _ _ _ _ _
      | exact ih3 _ _ _ _ _ _ _ _ _ _ _ _ _ _ _ _ _ _ _ _ _ _ _ _ _ _ _ _ _ _ _ _
      | exact celluloidlaw15_awake.mono _
      | exact celluloidlaw15_small.mono _ _ _ _ _ _ _ _ _
      | exact edge_Of.mono _ _ _ _ _ _ _ _ _
      | exact LeO.none _
      | refine LeO.ite ?_ ?_
      | refine LeO.bind ?_ (fun _ => ?_)
    · intro y0 y1 y2 y3 y4 y5 y6 y7 y8 y9 y10 y11 y12 y13 y14 y15 y16 y17 y18 y19 y20 y21 y22 y23 y24 y25 y26 y27
      unfold celluloidlaw15_EdgePlain.j2
      repeat' first
      | (with_reducible exact ih0 _ _ _ _ _ _ _ _ _ _ _ _ _ _ _ _ _ _)
      | (with_reducible exact ih1 _ _ _ _ _ _ _ _ _ _ _ _ _ _ _ _ _ _ _ _ _ _ _ _ _ _ _ _)
      | (with_reducible exact ih2 _ _ _ _ _ _ _ _ _ _ _ _ _ _ _ _ _ _ _)
      | (with_reducible exact ih3 _ _ _ _ _ _ _ _ _ _ _ _ _ _ _ _ _ _ _ _ _ _ _ _ _ _ _ _ _ _ _ _)
      | (with_reducible exact celluloidlaw15_awake.mono _)
      | (with_reducible exact celluloidlaw15_small.mono _ _ _ _ _ _ _ _ _)
      | (with_reducible exact edge_Of.mono _ _ _ _ _ _ _ _ _)
      | (with_reducible exact LeO.refl _)
      | (with_reducible exact LeO.none _)
      | (with_reducible refine LeO.ite ?_ ?_)
      | (with_reducible refine LeO.bind ?_ (fun _ => ?_))
      | exact ih0 _ _ _ _ _ _ _ _ _ _ _ _ _ _ _ _ _ _
      | exact ih1 _ _ _ _ _ _ _ _ _ _ _ _ _ _ _ _ _ _ _ _ _ _ _ _ _ _ _ _
      | exact ih2 _ _ _ _ _ _ _ _ _ _ _ _ _ _ _ _ _ _ _
      | exact ih3 _ _ _ _ _ _ _ _ _ _ _ _ _ _ _ _ _ _ _ _ _ _ _ _ _ _ _ _ _ _ _ _
      | exact celluloidlaw15_awake.mono _
      | exact celluloidlaw15_small.mono _ _ _ _ _ _ _ _ _
      | exact edge_Of.mono _ _ _ _ _ _ _ _ _
      | exact LeO.none _
      | refine LeO.ite ?_ ?_
      | refine LeO.bind ?_ (fun _ => ?_)
    · intro y0 y1 y2 y3 y4 y5 y6 y7 y8 y9 y10 y11 y12 y13 y14 y15 y16 y17 y18
      unfold celluloidlaw15_EdgePlain.j3
      repeat' first
      | (with_reducible exact ih0 _ _ _ _ _ _ _ _ _ _ _ _ _ _ _ _ _ _)
      | (with_reducible exact ih1 _ _ _ _ _ _ _ _ _ _ _ _ _ _ _ _ _ _ _ _ _ _ _ _ _ _ _ _)
      | (with_reducible exact ih2 _ _ _ _ _ _ _ _ _ _ _ _ _ _ _ _ _ _ _)
      | (with_reducible exact ih3 _ _ _ _ _ _ _ _ _ _ _ _ _ _ _ _ _ _ _ _ _ _ _ _ _ _ _ _ _ _ _ _)
      | (with_reducible exact celluloidlaw15_awake.mono _)
      | (with_reducible exact celluloidlaw15_small.mono _ _ _ _ _ _ _ _ _)
      | (with_reducible exact edge_Of.mono _ _ _ _ _ _ _ _ _)
      | (with_reducible exact LeO.refl _)
      | (with_reducible exact LeO.none _)
      | (with_reducible refine LeO.ite ?_ ?_)
      | (with_reducible refine LeO.bind ?_ (fun _ => ?_))
      | exact ih0 _ _ _ _ _ _ _ _ _ _ _ _ _ _ _ _ _ _
      | exact ih1 _ _ _ _ _ _ _ _ _ _ _ _ _ _ _ _ _ _ _ _ _ _ _ _ _ _ _ _
      | exact ih2 _ _ _ _ _ _ _ _ _ _ _ _ _ _ _ _ _ _ _
      | exact ih3 _ _ _ _ _ _ _ _ _ _ _ _ _ _ _ _ _ _ _ _ _ _ _ _ _ _ _ _ _ _ _ _
      | exact celluloidlaw15_awake.mono _
      | exact celluloidlaw15_small.mono _ _ _ _ _ _ _ _ _
      | exact edge_Of.mono _ _ _ _ _ _ _ _ _
      | exact LeO.none _
      | refine LeO.ite ?_ ?_
      | refine LeO.bind ?_ (fun _ => ?_)
    · intro y0 y1 y2 y3 y4 y5 y6 y7 y8 y9 y10 y11 y12 y13 y14 y15 y16 y17 y18 y19 y20 y21 y22 y23 y24 y25 y26 y27 y28 y29 y30 y31
      unfold celluloidlaw15_EdgePlain.l1
      repeat' first
      | (with_reducible exact ih0 _ _ _ _ _ _ _ _ _ _ _ _ _ _ _ _ _ _)
      | (with_reducible exact ih1 _ _ _ _ _ _ _ _ _ _ _ _ _ _ _ _ _ _ _ _ _ _ _ _ _ _ _ _)
      | (with_reducible exact ih2 _ _ _ _ _ _ _ _ _ _ _ _ _ _ _ _ _ _ _)
      | (with_reducible exact ih3 _ _ _ _ _ _ _ _ _ _ _ _ _ _ _ _ _ _ _ _ _ _ _ _ _ _ _ _ _ _ _ _)
      | (with_reducible exact celluloidlaw15_awake.mono _)
      | (with_reducible exact celluloidlaw15_small.mono _ _ _ _ _ _ _ _ _)
      | (with_reducible exact edge_Of.mono _ _ _ _ _ _ _ _ _)
      | (with_reducible exact LeO.refl _)
      | (with_reducible exact LeO.none _)
      | (with_reducible refine LeO.ite ?_ ?_)
      | (with_reducible refine LeO.bind ?_ (fun _ => ?_))
      | exact ih0 _ _ _ _ _ _ _ _ _ _ _ _ _ _ _ _ _ _
      | exact ih1 _ _ _ _ _ _ _ _ _ _ _ _ _ _ _ _ _ _ _ _ _ _ _ _ _ _ _ _
      | exact ih2 _ _ _ _ _ _ _ _ _ _ _ _ _ _ _ _ _ _ _
      | exact ih3 _ _ _ _ _ _ _ _ _ _ _ _ _ _ _ _ _ _ _ _ _ _ _ _ _ _ _ _ _ _ _ _
      | exact celluloidlaw15_awake.mono _
      | exact celluloidlaw15_small.mono _ _ _ _ _ _ _ _ _
      | exact edge_Of.mono _ _ _ _ _ _ _ _ _
      | exact LeO.none _
      | refine LeO.ite ?_ ?_
      | refine LeO.bind ?_ (fun _ => ?_)
theorem celluloidlaw15_EdgePlain.mono : ∀ a0 a1 a2 a3 a4 a5 a6 a7 k,LeO (celluloidlaw15_EdgePlain.f k a0 a1 a2 a3 a4 a5 a6 a7) (celluloidlaw15_EdgePlain.f (k + 1) a0 a1 a2 a3 a4 a5 a6 a7):=by
  intro a0 a1 a2 a3 a4 a5 a6 a7 k
  obtain ⟨ih0,ih1,ih2,ih3⟩:=celluloidlaw15_EdgePlain.mono_l k
  unfold celluloidlaw15_EdgePlain.f
  repeat' first
      | (with_reducible exact ih0 _ _ _ _ _ _ _ _ _ _ _ _ _ _ _ _ _ _)
      | (with_reducible exact ih1 _ _ _ _ _ _ _ _ _ _ _ _ _ _ _ _ _ _ _ _ _ _ _ _ _ _ _ _)
      | (with_reducible exact ih2 _ _ _ _ _ _ _ _ _ _ _ _ _ _ _ _ _ _ _)
      | (with_reducible exact ih3 _ _ _ _ _ _ _ _ _ _ _ _ _ _ _ _ _ _ _ _ _ _ _ _ _ _ _ _ _ _ _ _)
      | (with_reducible exact celluloidlaw15_awake.mono _)
      | (with_reducible exact celluloidlaw15_small.mono _ _ _ _ _ _ _ _ _)
      | (with_reducible exact edge_Of.mono _ _ _ _ _ _ _ _ _)
      | (with_reducible exact LeO.refl _)
      | (with_reducible exact LeO.none _)
      | (with_reducible refine LeO.ite ?_ ?_)
      | (with_reducible refine LeO.bind ?_ (fun _ => ?_))
      | exact ih0 _ _ _ _ _ _ _ _ _ _ _ _ _ _ _ _ _ _
      | exact ih1 _ _ _ _ _ _ _ _ _ _ _ _ _ _ _ _ _ _ _ _ _ _ _ _ _ _ _ _
      | exact ih2 _ _ _ _ _ _ _ _ _ _ _ _ _ _ _ _ _ _ _
      | exact ih3 _ _ _ _ _ _ _ _ _ _ _ _ _ _ _ _ _ _ _ _ _ _ _ _ _ _ _ _ _ _ _ _
      | exact celluloidlaw15_awake.mono _
      | exact celluloidlaw15_small.mono _ _ _ _ _ _ _ _ _
      | exact edge_Of.mono _ _ _ _ _ _ _ _ _
      | exact LeO.none _
      | refine LeO.ite ?_ ?_
      | refine LeO.bind ?_ (fun _ => ?_)
set_option maxHeartbeats 8000000 in
set_option maxRecDepth 100000 in
theorem celluloidlaw15_EdgePlain.calls (k : Nat) (a0_0 : Int) (a0_1 : Int) (a0_2 : Int) (a0_3 : Int) (a0_4 : Int) (A0_5 : Option Addr) (c0_5 : Nat) (l0_5 : List (S65)) (A0_6 : Option Addr) (c0_6 : Nat) (l0_6 : List (S79)) (A0_7 : Option Addr) (c0_7 : Nat) (l0_7 : List (S49)) (r : Bool) (w : World) (hr0_5 : Kd.C k65 w A0_5 l0_5.length l0_5) (hc0_5 : l0_5.length ≤ c0_5) (hr0_6 : Kd.C k79 w A0_6 l0_6.length l0_6) (hc0_6 : l0_6.length ≤ c0_6) (hr0_7 : Kd.C k49 w A0_7 l0_7.length l0_7) (hc0_7 : l0_7.length ≤ c0_7) (h : celluloidlaw15_EdgePlain.f k a0_0 a0_1 a0_2 a0_3 a0_4 l0_5 l0_6 l0_7 = some r) :
    Calls Try.prog 6 #[.agg #[.int .i64 a0_0,.int .i64 a0_1,.int .i64 a0_2,.int .i64 a0_3,.int .i64 a0_4,.slice A0_5 l0_5.length c0_5,.slice A0_6 l0_6.length c0_6,.slice A0_7 l0_7.length c0_7]] w fun e w' => e = .returned (.bool r) ∧ Below w.heap.size w w':=by
  have hu28:=Try.underlying28;have hu33:=Try.underlying33;have hu54:=Try.underlying54;have hu49:=Try.underlying49;have HR0_5:=am hr0_5;have HC0_5:=am hc0_5;clear hr0_5 hc0_5;have HR0_6:=am hr0_6;have HC0_6:=am hc0_6;clear hr0_6 hc0_6;have HR0_7:=am hr0_7;have HC0_7:=am hc0_7;clear hr0_7 hc0_7;have HB:=am (Below.refl w.heap.size w);have H : ((celluloidlaw15_small.f k a0_0 a0_1 a0_2 a0_3 a0_4 l0_5 l0_6 l0_7).bind fun t274 => (if t274 = true then ((edge_Of.f k a0_0 a0_1 a0_2 a0_3 a0_4 l0_5 l0_6 l0_7).bind fun bt276 => (if bt276.2.2.2 = 0 then (celluloidlaw15_EdgePlain.l0 k 0 l0_7 (l0_7.length : Int) 0 a0_0 a0_1 a0_2 a0_3 a0_4 l0_5 l0_6 l0_7 bt276.1 bt276.2.1 bt276.2.2.1 0 0 0) else ((celluloidlaw15_awake.f k).bind fun t287 => (some t287)))) else ((celluloidlaw15_awake.f k).bind fun t275 => (some t275)))) = some r:=h;clear h;replace H:=Option.bind_eq_some_iff.mp H;obtain ⟨t274,A20,H⟩:=H;replace H : (if t274 = true then ((edge_Of.f k a0_0 a0_1 a0_2 a0_3 a0_4 l0_5 l0_6 l0_7).bind fun bt276 => (if bt276.2.2.2 = 0 then (celluloidlaw15_EdgePlain.l0 k 0 l0_7 (l0_7.length : Int) 0 a0_0 a0_1 a0_2 a0_3 a0_4 l0_5 l0_6 l0_7 bt276.1 bt276.2.1 bt276.2.2.1 0 0 0) else ((celluloidlaw15_awake.f k).bind fun t287 => (some t287)))) else ((celluloidlaw15_awake.f k).bind fun t275 => (some t275))) = some r:=H;have A2:=am A20;clear A20
  by_cases c3 : t274 = true
  focus
    subst c3
    have H1 : ((edge_Of.f k a0_0 a0_1 a0_2 a0_3 a0_4 l0_5 l0_6 l0_7).bind fun bt276 => (if bt276.2.2.2 = 0 then (celluloidlaw15_EdgePlain.l0 k 0 l0_7 (l0_7.length : Int) 0 a0_0 a0_1 a0_2 a0_3 a0_4 l0_5 l0_6 l0_7 bt276.1 bt276.2.1 bt276.2.2.1 0 0 0) else ((celluloidlaw15_awake.f k).bind fun t287 => (some t287)))) = some r:=by rw [if_pos rfl] at H;exact H
    clear H;have H:=H1;clear H1;replace H:=Option.bind_eq_some_iff.mp H;obtain ⟨⟨t276,t279,t282,t285⟩,A40,H⟩:=H;replace H : (if t285 = 0 then (celluloidlaw15_EdgePlain.l0 k 0 l0_7 (l0_7.length : Int) 0 a0_0 a0_1 a0_2 a0_3 a0_4 l0_5 l0_6 l0_7 t276 t279 t282 0 0 0) else ((celluloidlaw15_awake.f k).bind fun t287 => (some t287))) = some r:=H;have A4:=am A40;clear A40
    by_cases c5 : t285 = 0
    focus
      rw [if_pos c5] at H;have c5b0 : (t285 == 0) = true:=beq_iff_eq.mpr c5;have c5b1 : (t285 != 0) = false:=bne_eq_false_iff_eq.mpr c5;clear c5;have H':=am H;clear H
      go_enter Try.func6,Try.ntmps6
      go_wp2_with (first|((with_reducible refine gate_dst (N:=1) rfl ?_);(try (refine gate_guard (by rfl) ?_;dsimp only));refine box_event ?hg (N:=1) ?hd (cs:=#[.int .i64 a0_0,.int .i64 a0_1,.int .i64 a0_2,.int .i64 a0_3,.int .i64 a0_4,.slice A0_5 l0_5.length c0_5,.slice A0_6 l0_6.length c0_6,.slice A0_7 l0_7.length c0_7]) (t:=28) ?hr ?_;(case hd => rfl);(case hg => rfl);(case hr => first|(go_simp;done)|(go_simp;rfl));intro gb273 hg w6 hbox hb;have BK273:=am (hbox);have GW273:=am ((by rw [hg];exact (sz (by repeat (first|(with_reducible first|exact HB.out|apply sa|apply sn|apply sd)|exact HB.out))) : w.heap.size ≤ gb273));have GE273:=am ((by rw [hg];exact (sz (by repeat (first|(with_reducible first|exact HB.out|apply sa|apply sn|apply sd)|exact HB.out))) : w.heap.size ≤ gb273));replace HB:=am (ss (by repeat (first|(with_reducible first|exact HB.out|apply sa|apply sn|apply sd)|exact HB.out)) hb);clear hb hbox hg;obtain ⟨hcz7_0,hcz7_1,hcz7_2,hcz7_3,hcz7_4,hcz7_5,hcz7_6,hcz7_7⟩:=cq8 BK273.out;obtain ⟨hfz7_0,hfz7_1,hfz7_2,hfz7_3,hfz7_4,hfz7_5,hfz7_6,hfz7_7⟩:=fq8 BK273.out)|(go_at_call 8;(with_reducible refine (celluloidlaw15_small.calls k a0_0 a0_1 a0_2 a0_3 a0_4 _ _ l0_5 _ _ l0_6 _ _ l0_7 true _ ?side1 ?side2 ?side3 ?side4 ?side5 ?side6 A2.out).mono ?_);(case side1 => repeat (first|exact (Kd.C_below HR0_5.out HB.out)|(with_reducible refine Kd.C_alloc ?_ _)|(with_reducible refine Kd.C_drewN ?_ _)|(with_reducible refine Kd.C_drew ?_)));(case side2 => exact HC0_5.out);(case side3 => repeat (first|exact (Kd.C_below HR0_6.out HB.out)|(with_reducible refine Kd.C_alloc ?_ _)|(with_reducible refine Kd.C_drewN ?_ _)|(with_reducible refine Kd.C_drew ?_)));(case side4 => exact HC0_6.out);(case side5 => repeat (first|exact (Kd.C_below HR0_7.out HB.out)|(with_reducible refine Kd.C_alloc ?_ _)|(with_reducible refine Kd.C_drewN ?_ _)|(with_reducible refine Kd.C_drew ?_)));(case side6 => exact HC0_7.out);rintro e w8 ⟨rfl,hb⟩;replace BK273:=am (bw (by exact BK273.out) hb);replace HB:=am (ss (by repeat (first|(with_reducible first|exact HB.out|apply sa|apply sn|apply sd|refine sx ?_ GE273.out)|exact HB.out)) hb);(try clear hb);(try clear hb2);(try clear hk);(try clear hi);obtain ⟨hcz9_0,hcz9_1,hcz9_2,hcz9_3,hcz9_4,hcz9_5,hcz9_6,hcz9_7⟩:=cq8 BK273.out;obtain ⟨hfz9_0,hfz9_1,hfz9_2,hfz9_3,hfz9_4,hfz9_5,hfz9_6,hfz9_7⟩:=fq8 BK273.out)|(go_at_call 10;(with_reducible refine (edge_Of.calls k a0_0 a0_1 a0_2 a0_3 a0_4 (fun k_ => k_ < w.heap.size) _ _ l0_5 _ _ l0_6 (fun k_ => k_ < w.heap.size) _ _ l0_7 t276 t279 t282 t285 _ ?side1 ?side2 ?side3 ?side4 A4.out).mono ?_);(case side1 => exact Kd.V_mk HC0_5.out (Kd.F_below (Kd.C_F k65_heap HR0_5.out) (by repeat (first|(with_reducible first|exact HB.out|apply sa|apply sn|apply sd|refine sx ?_ GE273.out)|exact HB.out))));(case side2 => repeat (first|exact (Kd.C_below HR0_6.out HB.out)|(with_reducible refine Kd.C_alloc ?_ _)|(with_reducible refine Kd.C_drewN ?_ _)|(with_reducible refine Kd.C_drew ?_)));(case side3 => exact HC0_6.out);(case side4 => exact Kd.V_mk HC0_7.out (Kd.F_below (Kd.C_F k49_heap HR0_7.out) (by repeat (first|(with_reducible first|exact HB.out|apply sa|apply sn|apply sd|refine sx ?_ GE273.out)|exact HB.out))));rintro e w10 ⟨v277,v280,v283,rfl,ho0,ho1,ho2,hb⟩;have HO278:=am (Kd.N_lower (Kd.N_mono (ok':=fun k_ => some k_ ≠ (v280 : Value).ownBlock ∧ some k_ ≠ (v283 : Value).ownBlock ∧ k_ ≠ gb273) ho0 (fun k_ hk_ => ⟨hk_.2.1,hk_.2.2,Or.elim hk_.1 (fun hs_ => Or.elim hs_ (fun hs_ => fun e_ => Nat.not_le.2 hs_ (by rw [e_];exact GW273.out)) (fun hs_ => fun e_ => Nat.not_le.2 hs_ (by rw [e_];exact GW273.out))) (fun hn_ => (Kd.freshB (g:=gb273) (o:=.cells #[.int .i64 a0_0,.int .i64 a0_1,.int .i64 a0_2,.int .i64 a0_3,.int .i64 a0_4,.slice A0_5 l0_5.length c0_5,.slice A0_6 l0_6.length c0_6,.slice A0_7 l0_7.length c0_7] 28 (0,0)) (by exact BK273.out) k_ hn_))⟩)) (sz (by repeat (first|(with_reducible first|exact HB.out|apply sa|apply sn|apply sd|refine sx ?_ GE273.out)|exact HB.out))));have HO281:=am (Kd.R_lower (Kd.R_mono (ok':=fun k_ => True) ho1 (fun _ hk_ => trivial)) (sz (by repeat (first|(with_reducible first|exact HB.out|apply sa|apply sn|apply sd|refine sx ?_ GE273.out)|exact HB.out))));have HO284:=am (Kd.R_lower (Kd.R_mono (ok':=fun k_ => True) ho2 (fun _ hk_ => trivial)) (sz (by repeat (first|(with_reducible first|exact HB.out|apply sa|apply sn|apply sd|refine sx ?_ GE273.out)|exact HB.out))));replace BK273:=am (bw (by exact BK273.out) hb);replace HB:=am (ss (by repeat (first|(with_reducible first|exact HB.out|apply sa|apply sn|apply sd|refine sx ?_ GE273.out)|exact HB.out)) hb);(try clear hb);(try clear hb2);(try clear hk);(try clear hi);(try clear ho0);(try clear ho1);(try clear ho2))|((with_reducible refine gate_dst (N:=3) rfl ?_);(try (refine gate_guard (by rfl) ?_;dsimp only));refine box_event ?hg (N:=3) ?hd (cs:=#[.slice none 0 0,.slice none 0 0,.slice none 0 0]) (t:=33) ?hr ?_;(case hd => rfl);(case hg => rfl);(case hr => first|(go_simp;done)|(go_simp;rfl));intro gb286 hg w11 hbox hb;replace HO278:=am (nE (by (with_reducible repeat (first|apply Kd.N_alloc|apply Kd.N_drewN|apply Kd.N_drew));exact HO278.out) hg hb);replace HO281:=am (Kd.R_below (by (with_reducible repeat (first|apply Kd.R_alloc|apply Kd.R_drewN|apply Kd.R_drew));exact HO281.out) hb);replace HO284:=am (Kd.R_below (by (with_reducible repeat (first|apply Kd.R_alloc|apply Kd.R_drewN|apply Kd.R_drew));exact HO284.out) hb);have BK286:=am (hbox);obtain ⟨h1_,GW286⟩:=sg (by repeat (first|(with_reducible first|exact HB.out|apply sa|apply sn|apply sd|refine sx ?_ GE273.out)|exact HB.out)) hb hg;replace HB:=h1_;clear h1_;have GE286:=GW286;have NB273_286:=nb (by exact BK273.out) hg;have NB286_273:=ng (by exact BK273.out) hg;replace BK273:=am (bw (by exact BK273.out) hb);clear hb hbox hg;obtain ⟨Ao12,co12,eo12⟩:=Kd.N_slice HO278.out;subst eo12;have hnb13:=NB286_273.out;have hnc13:=NB273_286.out;obtain ⟨hcz14_0,hcz14_1,hcz14_2⟩:=cq3 BK286.out;obtain ⟨hfz14_0,hfz14_1,hfz14_2⟩:=fq3 BK286.out;obtain ⟨Ao15,co15,eo15⟩:=Kd.R_slice HO281.out;subst eo15;obtain ⟨Ao16,co16,eo16⟩:=Kd.R_slice HO284.out;subst eo16)|((with_reducible refine gate_dst (N:=5) rfl ?_);(try (refine gate_guard (by rfl) ?_;dsimp only));refine box_event ?hg (N:=5) ?hd (cs:=#[.int .i64 0,.int .i64 0,.int .i64 0]) (t:=54) ?hr ?_;(case hd => rfl);(case hg => rfl);(case hr => first|(go_simp;done)|(go_simp;rfl));intro gb288 hg w17 hbox hb;replace HO278:=am (nE (by (with_reducible repeat (first|apply Kd.N_alloc|apply Kd.N_drewN|apply Kd.N_drew));exact (nm (nf (nf (nf (np HO278.out)))))) hg hb);replace HO281:=am (Kd.R_below (by (with_reducible repeat (first|apply Kd.R_alloc|apply Kd.R_drewN|apply Kd.R_drew));exact (rm (rf (rf (rf (Kd.R_types HO281.out BK286.out (by decide))))))) hb);replace HO284:=am (Kd.R_below (by (with_reducible repeat (first|apply Kd.R_alloc|apply Kd.R_drewN|apply Kd.R_drew));exact (rm (rf (rf (rf (Kd.R_types HO284.out BK286.out (by decide))))))) hb);have BK288:=am (hbox);obtain ⟨h1_,GW288⟩:=sg (by repeat (first|(with_reducible first|exact HB.out|apply sa|apply sn|apply sd|refine sy ?_ (by assumption))|exact HB.out)) hb hg;replace HB:=h1_;clear h1_;have GE288:=GW288;have NB273_288:=am (by have:=blk_lt BK273.out;rw [hg];(try simp only [ks,kd,ke,ka]);omega : gb273 ≠ gb288);have NB288_273:=am (by have:=blk_lt BK273.out;rw [hg];(try simp only [ks,kd,ke,ka]);omega : gb288 ≠ gb273);replace BK273:=am (wz BK273.out (by (with_reducible repeat (first|refine bn ?_ _|refine bd ?_|refine ba ?_ _|refine bf ?_ NB273_286.out _));exact BK273.out) hb);have NB286_288:=am (by have:=blk_lt BK286.out;rw [hg];(try simp only [ks,kd,ke,ka]);omega : gb286 ≠ gb288);have NB288_286:=am (by have:=blk_lt BK286.out;rw [hg];(try simp only [ks,kd,ke,ka]);omega : gb288 ≠ gb286);replace BK286:=am (bw (g:=gb286) (o:=.cells #[.slice Ao12 t276.length co12,.slice Ao15 t279.length co15,.slice Ao16 t282.length co16] 33 (0,0)) (bp (bp (bp BK286.out 0 _ rfl) 1 _ rfl) 2 _ rfl) hb);clear hb hbox hg;have hnb18:=NB273_288.out;have hnc18:=NB288_273.out;obtain ⟨hcz19_0,hcz19_1,hcz19_2,hcz19_3,hcz19_4,hcz19_5,hcz19_6,hcz19_7⟩:=cq8 BK273.out;obtain ⟨hfz19_0,hfz19_1,hfz19_2,hfz19_3,hfz19_4,hfz19_5,hfz19_6,hfz19_7⟩:=fq8 BK273.out))
      repeat (go_quiet (first|((with_reducible refine gate_dst (N:=1) rfl ?_);(try (refine gate_guard (by rfl) ?_;dsimp only));refine box_event ?hg (N:=1) ?hd (cs:=#[.int .i64 a0_0,.int .i64 a0_1,.int .i64 a0_2,.int .i64 a0_3,.int .i64 a0_4,.slice A0_5 l0_5.length c0_5,.slice A0_6 l0_6.length c0_6,.slice A0_7 l0_7.length c0_7]) (t:=28) ?hr ?_;(case hd => rfl);(case hg => rfl);(case hr => first|(go_simp;done)|(go_simp;rfl));intro gb273 hg w6 hbox hb;have n0_:=am (ss (by repeat (first|(with_reducible first|exact HB.out|apply sa|apply sn|apply sd)|exact HB.out)) hb);have n1_:=am (hbox);have n2_:=am ((by rw [hg];exact (sz (by repeat (first|(with_reducible first|exact HB.out|apply sa|apply sn|apply sd)|exact HB.out))) : w.heap.size ≤ gb273));have n3_:=am ((by rw [hg];exact (sz (by repeat (first|(with_reducible first|exact HB.out|apply sa|apply sn|apply sd)|exact HB.out))) : w.heap.size ≤ gb273));clear HB;have HB:=n0_;have BK273:=n1_;have GW273:=n2_;have GE273:=n3_;clear n0_ n1_ n2_ n3_;clear hb hbox hg;obtain ⟨hcz7_0,hcz7_1,hcz7_2,hcz7_3,hcz7_4,hcz7_5,hcz7_6,hcz7_7⟩:=cq8 BK273.out;obtain ⟨hfz7_0,hfz7_1,hfz7_2,hfz7_3,hfz7_4,hfz7_5,hfz7_6,hfz7_7⟩:=fq8 BK273.out)|(go_at_call 8;(with_reducible refine (celluloidlaw15_small.calls k a0_0 a0_1 a0_2 a0_3 a0_4 _ _ l0_5 _ _ l0_6 _ _ l0_7 true _ ?side1 ?side2 ?side3 ?side4 ?side5 ?side6 A2.out).mono ?_);(case side1 => repeat (first|exact (Kd.C_below HR0_5.out HB.out)|(with_reducible refine Kd.C_alloc ?_ _)|(with_reducible refine Kd.C_drewN ?_ _)|(with_reducible refine Kd.C_drew ?_)));(case side2 => exact HC0_5.out);(case side3 => repeat (first|exact (Kd.C_below HR0_6.out HB.out)|(with_reducible refine Kd.C_alloc ?_ _)|(with_reducible refine Kd.C_drewN ?_ _)|(with_reducible refine Kd.C_drew ?_)));(case side4 => exact HC0_6.out);(case side5 => repeat (first|exact (Kd.C_below HR0_7.out HB.out)|(with_reducible refine Kd.C_alloc ?_ _)|(with_reducible refine Kd.C_drewN ?_ _)|(with_reducible refine Kd.C_drew ?_)));(case side6 => exact HC0_7.out);rintro e w8 ⟨rfl,hb⟩;have n0_:=am (bw (by exact BK273.out) hb);have n1_:=am (ss (by repeat (first|(with_reducible first|exact HB.out|apply sa|apply sn|apply sd|refine sx ?_ GE273.out)|exact HB.out)) hb);clear BK273;clear HB;have BK273:=n0_;have HB:=n1_;clear n0_ n1_;(try clear hb);(try clear hb2);(try clear hk);(try clear hi);obtain ⟨hcz9_0,hcz9_1,hcz9_2,hcz9_3,hcz9_4,hcz9_5,hcz9_6,hcz9_7⟩:=cq8 BK273.out;obtain ⟨hfz9_0,hfz9_1,hfz9_2,hfz9_3,hfz9_4,hfz9_5,hfz9_6,hfz9_7⟩:=fq8 BK273.out)|(go_at_call 10;(with_reducible refine (edge_Of.calls k a0_0 a0_1 a0_2 a0_3 a0_4 (fun k_ => k_ < w.heap.size) _ _ l0_5 _ _ l0_6 (fun k_ => k_ < w.heap.size) _ _ l0_7 t276 t279 t282 t285 _ ?side1 ?side2 ?side3 ?side4 A4.out).mono ?_);(case side1 => exact Kd.V_mk HC0_5.out (Kd.F_below (Kd.C_F k65_heap HR0_5.out) (by repeat (first|(with_reducible first|exact HB.out|apply sa|apply sn|apply sd|refine sx ?_ GE273.out)|exact HB.out))));(case side2 => repeat (first|exact (Kd.C_below HR0_6.out HB.out)|(with_reducible refine Kd.C_alloc ?_ _)|(with_reducible refine Kd.C_drewN ?_ _)|(with_reducible refine Kd.C_drew ?_)));(case side3 => exact HC0_6.out);(case side4 => exact Kd.V_mk HC0_7.out (Kd.F_below (Kd.C_F k49_heap HR0_7.out) (by repeat (first|(with_reducible first|exact HB.out|apply sa|apply sn|apply sd|refine sx ?_ GE273.out)|exact HB.out))));rintro e w10 ⟨v277,v280,v283,rfl,ho0,ho1,ho2,hb⟩;have n0_:=am (Kd.N_lower (Kd.N_mono (ok':=fun k_ => some k_ ≠ (v280 : Value).ownBlock ∧ some k_ ≠ (v283 : Value).ownBlock ∧ k_ ≠ gb273) ho0 (fun k_ hk_ => ⟨hk_.2.1,hk_.2.2,Or.elim hk_.1 (fun hs_ => Or.elim hs_ (fun hs_ => fun e_ => Nat.not_le.2 hs_ (by rw [e_];exact GW273.out)) (fun hs_ => fun e_ => Nat.not_le.2 hs_ (by rw [e_];exact GW273.out))) (fun hn_ => (Kd.freshB (g:=gb273) (o:=.cells #[.int .i64 a0_0,.int .i64 a0_1,.int .i64 a0_2,.int .i64 a0_3,.int .i64 a0_4,.slice A0_5 l0_5.length c0_5,.slice A0_6 l0_6.length c0_6,.slice A0_7 l0_7.length c0_7] 28 (0,0)) (by exact BK273.out) k_ hn_))⟩)) (sz (by repeat (first|(with_reducible first|exact HB.out|apply sa|apply sn|apply sd|refine sx ?_ GE273.out)|exact HB.out))));have n1_:=am (Kd.R_lower (Kd.R_mono (ok':=fun k_ => True) ho1 (fun _ hk_ => trivial)) (sz (by repeat (first|(with_reducible first|exact HB.out|apply sa|apply sn|apply sd|refine sx ?_ GE273.out)|exact HB.out))));have n2_:=am (Kd.R_lower (Kd.R_mono (ok':=fun k_ => True) ho2 (fun _ hk_ => trivial)) (sz (by repeat (first|(with_reducible first|exact HB.out|apply sa|apply sn|apply sd|refine sx ?_ GE273.out)|exact HB.out))));have n3_:=am (bw (by exact BK273.out) hb);have n4_:=am (ss (by repeat (first|(with_reducible first|exact HB.out|apply sa|apply sn|apply sd|refine sx ?_ GE273.out)|exact HB.out)) hb);clear BK273;clear HB;have HO278:=n0_;have HO281:=n1_;have HO284:=n2_;have BK273:=n3_;have HB:=n4_;clear n0_ n1_ n2_ n3_ n4_;(try clear hb);(try clear hb2);(try clear hk);(try clear hi);(try clear ho0);(try clear ho1);(try clear ho2))|((with_reducible refine gate_dst (N:=3) rfl ?_);(try (refine gate_guard (by rfl) ?_;dsimp only));refine box_event ?hg (N:=3) ?hd (cs:=#[.slice none 0 0,.slice none 0 0,.slice none 0 0]) (t:=33) ?hr ?_;(case hd => rfl);(case hg => rfl);(case hr => first|(go_simp;done)|(go_simp;rfl));intro gb286 hg w11 hbox hb;have n0_:=am (nE (by (with_reducible repeat (first|apply Kd.N_alloc|apply Kd.N_drewN|apply Kd.N_drew));exact HO278.out) hg hb);have n1_:=am (Kd.R_below (by (with_reducible repeat (first|apply Kd.R_alloc|apply Kd.R_drewN|apply Kd.R_drew));exact HO281.out) hb);have n2_:=am (Kd.R_below (by (with_reducible repeat (first|apply Kd.R_alloc|apply Kd.R_drewN|apply Kd.R_drew));exact HO284.out) hb);have n3_:=am (bw (by exact BK273.out) hb);have n4_:=am (ss (by repeat (first|(with_reducible first|exact HB.out|apply sa|apply sn|apply sd|refine sx ?_ GE273.out)|exact HB.out)) hb);have n5_:=am (hbox);have n6_:=am ((by rw [hg];exact (sz (by repeat (first|(with_reducible first|exact HB.out|apply sa|apply sn|apply sd|refine sx ?_ GE273.out)|exact HB.out))) : w.heap.size ≤ gb286));have n7_:=n6_;have n8_:=nb (by exact BK273.out) hg;have n9_:=ng (by exact BK273.out) hg;clear HO278;clear HO281;clear HO284;clear BK273;clear HB;have HO278:=n0_;have HO281:=n1_;have HO284:=n2_;have BK273:=n3_;have HB:=n4_;have BK286:=n5_;have GW286:=n6_;have GE286:=n7_;have NB273_286:=n8_;have NB286_273:=n9_;clear n0_ n1_ n2_ n3_ n4_ n5_ n6_ n7_ n8_ n9_;clear hb hbox hg;obtain ⟨Ao12,co12,eo12⟩:=Kd.N_slice HO278.out;subst eo12;have hnb13:=NB286_273.out;have hnc13:=NB273_286.out;obtain ⟨hcz14_0,hcz14_1,hcz14_2⟩:=cq3 BK286.out;obtain ⟨hfz14_0,hfz14_1,hfz14_2⟩:=fq3 BK286.out;obtain ⟨Ao15,co15,eo15⟩:=Kd.R_slice HO281.out;subst eo15;obtain ⟨Ao16,co16,eo16⟩:=Kd.R_slice HO284.out;subst eo16)|((with_reducible refine gate_dst (N:=5) rfl ?_);(try (refine gate_guard (by rfl) ?_;dsimp only));refine box_event ?hg (N:=5) ?hd (cs:=#[.int .i64 0,.int .i64 0,.int .i64 0]) (t:=54) ?hr ?_;(case hd => rfl);(case hg => rfl);(case hr => first|(go_simp;done)|(go_simp;rfl));intro gb288 hg w17 hbox hb;have n0_:=am (nE (by (with_reducible repeat (first|apply Kd.N_alloc|apply Kd.N_drewN|apply Kd.N_drew));exact (nm (nf (nf (nf (np HO278.out)))))) hg hb);have n1_:=am (Kd.R_below (by (with_reducible repeat (first|apply Kd.R_alloc|apply Kd.R_drewN|apply Kd.R_drew));exact (rm (rf (rf (rf (Kd.R_types HO281.out BK286.out (by decide))))))) hb);have n2_:=am (Kd.R_below (by (with_reducible repeat (first|apply Kd.R_alloc|apply Kd.R_drewN|apply Kd.R_drew));exact (rm (rf (rf (rf (Kd.R_types HO284.out BK286.out (by decide))))))) hb);have n3_:=am (wz BK273.out (by (with_reducible repeat (first|refine bn ?_ _|refine bd ?_|refine ba ?_ _|refine bf ?_ NB273_286.out _));exact BK273.out) hb);have n4_:=am (bw (g:=gb286) (o:=.cells #[.slice Ao12 t276.length co12,.slice Ao15 t279.length co15,.slice Ao16 t282.length co16] 33 (0,0)) (bp (bp (bp BK286.out 0 _ rfl) 1 _ rfl) 2 _ rfl) hb);have n5_:=am (ss (by repeat (first|(with_reducible first|exact HB.out|apply sa|apply sn|apply sd|refine sy ?_ (by assumption))|exact HB.out)) hb);have n6_:=am (hbox);have n7_:=am ((by rw [hg];exact (sz (by repeat (first|(with_reducible first|exact HB.out|apply sa|apply sn|apply sd|refine sy ?_ (by assumption))|exact HB.out))) : w.heap.size ≤ gb288));have n8_:=n7_;have n9_:=am (by have:=blk_lt BK273.out;rw [hg];(try simp only [ks,kd,ke,ka]);omega : gb273 ≠ gb288);have n10_:=am (by have:=blk_lt BK273.out;rw [hg];(try simp only [ks,kd,ke,ka]);omega : gb288 ≠ gb273);have n11_:=am (by have:=blk_lt BK286.out;rw [hg];(try simp only [ks,kd,ke,ka]);omega : gb286 ≠ gb288);have n12_:=am (by have:=blk_lt BK286.out;rw [hg];(try simp only [ks,kd,ke,ka]);omega : gb288 ≠ gb286);clear HO278;clear HO281;clear HO284;clear BK273;clear BK286;clear HB;have HO278:=n0_;have HO281:=n1_;have HO284:=n2_;have BK273:=n3_;have BK286:=n4_;have HB:=n5_;have BK288:=n6_;have GW288:=n7_;have GE288:=n8_;have NB273_288:=n9_;have NB288_273:=n10_;have NB286_288:=n11_;have NB288_286:=n12_;clear n0_ n1_ n2_ n3_ n4_ n5_ n6_ n7_ n8_ n9_ n10_ n11_ n12_;clear hb hbox hg;have hnb18:=NB273_288.out;have hnc18:=NB288_273.out;obtain ⟨hcz19_0,hcz19_1,hcz19_2,hcz19_3,hcz19_4,hcz19_5,hcz19_6,hcz19_7⟩:=cq8 BK273.out;obtain ⟨hfz19_0,hfz19_1,hfz19_2,hfz19_3,hfz19_4,hfz19_5,hfz19_6,hfz19_7⟩:=fq8 BK273.out));try go_wp2_with (first|((with_reducible refine gate_dst (N:=1) rfl ?_);(try (refine gate_guard (by rfl) ?_;dsimp only));refine box_event ?hg (N:=1) ?hd (cs:=#[.int .i64 a0_0,.int .i64 a0_1,.int .i64 a0_2,.int .i64 a0_3,.int .i64 a0_4,.slice A0_5 l0_5.length c0_5,.slice A0_6 l0_6.length c0_6,.slice A0_7 l0_7.length c0_7]) (t:=28) ?hr ?_;(case hd => rfl);(case hg => rfl);(case hr => first|(go_simp;done)|(go_simp;rfl));intro gb273 hg w6 hbox hb;have n0_:=am (ss (by repeat (first|(with_reducible first|exact HB.out|apply sa|apply sn|apply sd)|exact HB.out)) hb);have n1_:=am (hbox);have n2_:=am ((by rw [hg];exact (sz (by repeat (first|(with_reducible first|exact HB.out|apply sa|apply sn|apply sd)|exact HB.out))) : w.heap.size ≤ gb273));have n3_:=am ((by rw [hg];exact (sz (by repeat (first|(with_reducible first|exact HB.out|apply sa|apply sn|apply sd)|exact HB.out))) : w.heap.size ≤ gb273));clear HB;have HB:=n0_;have BK273:=n1_;have GW273:=n2_;have GE273:=n3_;clear n0_ n1_ n2_ n3_;clear hb hbox hg;obtain ⟨hcz7_0,hcz7_1,hcz7_2,hcz7_3,hcz7_4,hcz7_5,hcz7_6,hcz7_7⟩:=cq8 BK273.out;obtain ⟨hfz7_0,hfz7_1,hfz7_2,hfz7_3,hfz7_4,hfz7_5,hfz7_6,hfz7_7⟩:=fq8 BK273.out)|(go_at_call 8;(with_reducible refine (celluloidlaw15_small.calls k a0_0 a0_1 a0_2 a0_3 a0_4 _ _ l0_5 _ _ l0_6 _ _ l0_7 true _ ?side1 ?side2 ?side3 ?side4 ?side5 ?side6 A2.out).mono ?_);(case side1 => repeat (first|exact (Kd.C_below HR0_5.out HB.out)|(with_reducible refine Kd.C_alloc ?_ _)|(with_reducible refine Kd.C_drewN ?_ _)|(with_reducible refine Kd.C_drew ?_)));(case side2 => exact HC0_5.out);(case side3 => repeat (first|exact (Kd.C_below HR0_6.out HB.out)|(with_reducible refine Kd.C_alloc ?_ _)|(with_reducible refine Kd.C_drewN ?_ _)|(with_reducible refine Kd.C_drew ?_)));(case side4 => exact HC0_6.out);(case side5 => repeat (first|exact (Kd.C_below HR0_7.out HB.out)|(with_reducible refine Kd.C_alloc ?_ _)|(with_reducible refine Kd.C_drewN ?_ _)|(with_reducible refine Kd.C_drew ?_)));(case side6 => exact HC0_7.out);rintro e w8 ⟨rfl,hb⟩;have n0_:=am (bw (by exact BK273.out) hb);have n1_:=am (ss (by repeat (first|(with_reducible first|exact HB.out|apply sa|apply sn|apply sd|refine sx ?_ GE273.out)|exact HB.out)) hb);clear BK273;clear HB;have BK273:=n0_;have HB:=n1_;clear n0_ n1_;(try clear hb);(try clear hb2);(try clear hk);(try clear hi);obtain ⟨hcz9_0,hcz9_1,hcz9_2,hcz9_3,hcz9_4,hcz9_5,hcz9_6,hcz9_7⟩:=cq8 BK273.out;obtain ⟨hfz9_0,hfz9_1,hfz9_2,hfz9_3,hfz9_4,hfz9_5,hfz9_6,hfz9_7⟩:=fq8 BK273.out)|(go_at_call 10;(with_reducible refine (edge_Of.calls k a0_0 a0_1 a0_2 a0_3 a0_4 (fun k_ => k_ < w.heap.size) _ _ l0_5 _ _ l0_6 (fun k_ => k_ < w.heap.size) _ _ l0_7 t276 t279 t282 t285 _ ?side1 ?side2 ?side3 ?side4 A4.out).mono ?_);(case side1 => exact Kd.V_mk HC0_5.out (Kd.F_below (Kd.C_F k65_heap HR0_5.out) (by repeat (first|(with_reducible first|exact HB.out|apply sa|apply sn|apply sd|refine sx ?_ GE273.out)|exact HB.out))));(case side2 => repeat (first|exact (Kd.C_below HR0_6.out HB.out)|(with_reducible refine Kd.C_alloc ?_ _)|(with_reducible refine Kd.C_drewN ?_ _)|(with_reducible refine Kd.C_drew ?_)));(case side3 => exact HC0_6.out);(case side4 => exact Kd.V_mk HC0_7.out (Kd.F_below (Kd.C_F k49_heap HR0_7.out) (by repeat (first|(with_reducible first|exact HB.out|apply sa|apply sn|apply sd|refine sx ?_ GE273.out)|exact HB.out))));rintro e w10 ⟨v277,v280,v283,rfl,ho0,ho1,ho2,hb⟩;have n0_:=am (Kd.N_lower (Kd.N_mono (ok':=fun k_ => some k_ ≠ (v280 : Value).ownBlock ∧ some k_ ≠ (v283 : Value).ownBlock ∧ k_ ≠ gb273) ho0 (fun k_ hk_ => ⟨hk_.2.1,hk_.2.2,Or.elim hk_.1 (fun hs_ => Or.elim hs_ (fun hs_ => fun e_ => Nat.not_le.2 hs_ (by rw [e_];exact GW273.out)) (fun hs_ => fun e_ => Nat.not_le.2 hs_ (by rw [e_];exact GW273.out))) (fun hn_ => (Kd.freshB (g:=gb273) (o:=.cells #[.int .i64 a0_0,.int .i64 a0_1,.int .i64 a0_2,.int .i64 a0_3,.int .i64 a0_4,.slice A0_5 l0_5.length c0_5,.slice A0_6 l0_6.length c0_6,.slice A0_7 l0_7.length c0_7] 28 (0,0)) (by exact BK273.out) k_ hn_))⟩)) (sz (by repeat (first|(with_reducible first|exact HB.out|apply sa|apply sn|apply sd|refine sx ?_ GE273.out)|exact HB.out))));have n1_:=am (Kd.R_lower (Kd.R_mono (ok':=fun k_ => True) ho1 (fun _ hk_ => trivial)) (sz (by repeat (first|(with_reducible first|exact HB.out|apply sa|apply sn|apply sd|refine sx ?_ GE273.out)|exact HB.out))));have n2_:=am (Kd.R_lower (Kd.R_mono (ok':=fun k_ => True) ho2 (fun _ hk_ => trivial)) (sz (by repeat (first|(with_reducible first|exact HB.out|apply sa|apply sn|apply sd|refine sx ?_ GE273.out)|exact HB.out))));have n3_:=am (bw (by exact BK273.out) hb);have n4_:=am (ss (by repeat (first|(with_reducible first|exact HB.out|apply sa|apply sn|apply sd|refine sx ?_ GE273.out)|exact HB.out)) hb);clear BK273;clear HB;have HO278:=n0_;have HO281:=n1_;have HO284:=n2_;have BK273:=n3_;have HB:=n4_;clear n0_ n1_ n2_ n3_ n4_;(try clear hb);(try clear hb2);(try clear hk);(try clear hi);(try clear ho0);(try clear ho1);(try clear ho2))|((with_reducible refine gate_dst (N:=3) rfl ?_);(try (refine gate_guard (by rfl) ?_;dsimp only));refine box_event ?hg (N:=3) ?hd (cs:=#[.slice none 0 0,.slice none 0 0,.slice none 0 0]) (t:=33) ?hr ?_;(case hd => rfl);(case hg => rfl);(case hr => first|(go_simp;done)|(go_simp;rfl));intro gb286 hg w11 hbox hb;have n0_:=am (nE (by (with_reducible repeat (first|apply Kd.N_alloc|apply Kd.N_drewN|apply Kd.N_drew));exact HO278.out) hg hb);have n1_:=am (Kd.R_below (by (with_reducible repeat (first|apply Kd.R_alloc|apply Kd.R_drewN|apply Kd.R_drew));exact HO281.out) hb);have n2_:=am (Kd.R_below (by (with_reducible repeat (first|apply Kd.R_alloc|apply Kd.R_drewN|apply Kd.R_drew));exact HO284.out) hb);have n3_:=am (bw (by exact BK273.out) hb);have n4_:=am (ss (by repeat (first|(with_reducible first|exact HB.out|apply sa|apply sn|apply sd|refine sx ?_ GE273.out)|exact HB.out)) hb);have n5_:=am (hbox);have n6_:=am ((by rw [hg];exact (sz (by repeat (first|(with_reducible first|exact HB.out|apply sa|apply sn|apply sd|refine sx ?_ GE273.out)|exact HB.out))) : w.heap.size ≤ gb286));have n7_:=n6_;have n8_:=nb (by exact BK273.out) hg;have n9_:=ng (by exact BK273.out) hg;clear HO278;clear HO281;clear HO284;clear BK273;clear HB;have HO278:=n0_;have HO281:=n1_;have HO284:=n2_;have BK273:=n3_;have HB:=n4_;have BK286:=n5_;have GW286:=n6_;have GE286:=n7_;have NB273_286:=n8_;have NB286_273:=n9_;clear n0_ n1_ n2_ n3_ n4_ n5_ n6_ n7_ n8_ n9_;clear hb hbox hg;obtain ⟨Ao12,co12,eo12⟩:=Kd.N_slice HO278.out;subst eo12;have hnb13:=NB286_273.out;have hnc13:=NB273_286.out;obtain ⟨hcz14_0,hcz14_1,hcz14_2⟩:=cq3 BK286.out;obtain ⟨hfz14_0,hfz14_1,hfz14_2⟩:=fq3 BK286.out;obtain ⟨Ao15,co15,eo15⟩:=Kd.R_slice HO281.out;subst eo15;obtain ⟨Ao16,co16,eo16⟩:=Kd.R_slice HO284.out;subst eo16)|((with_reducible refine gate_dst (N:=5) rfl ?_);(try (refine gate_guard (by rfl) ?_;dsimp only));refine box_event ?hg (N:=5) ?hd (cs:=#[.int .i64 0,.int .i64 0,.int .i64 0]) (t:=54) ?hr ?_;(case hd => rfl);(case hg => rfl);(case hr => first|(go_simp;done)|(go_simp;rfl));intro gb288 hg w17 hbox hb;have n0_:=am (nE (by (with_reducible repeat (first|apply Kd.N_alloc|apply Kd.N_drewN|apply Kd.N_drew));exact (nm (nf (nf (nf (np HO278.out)))))) hg hb);have n1_:=am (Kd.R_below (by (with_reducible repeat (first|apply Kd.R_alloc|apply Kd.R_drewN|apply Kd.R_drew));exact (rm (rf (rf (rf (Kd.R_types HO281.out BK286.out (by decide))))))) hb);have n2_:=am (Kd.R_below (by (with_reducible repeat (first|apply Kd.R_alloc|apply Kd.R_drewN|apply Kd.R_drew));exact (rm (rf (rf (rf (Kd.R_types HO284.out BK286.out (by decide))))))) hb);have n3_:=am (wz BK273.out (by (with_reducible repeat (first|refine bn ?_ _|refine bd ?_|refine ba ?_ _|refine bf ?_ NB273_286.out _));exact BK273.out) hb);have n4_:=am (bw (g:=gb286) (o:=.cells #[.slice Ao12 t276.length co12,.slice Ao15 t279.length co15,.slice Ao16 t282.length co16] 33 (0,0)) (bp (bp (bp BK286.out 0 _ rfl) 1 _ rfl) 2 _ rfl) hb);have n5_:=am (ss (by repeat (first|(with_reducible first|exact HB.out|apply sa|apply sn|apply sd|refine sy ?_ (by assumption))|exact HB.out)) hb);have n6_:=am (hbox);have n7_:=am ((by rw [hg];exact (sz (by repeat (first|(with_reducible first|exact HB.out|apply sa|apply sn|apply sd|refine sy ?_ (by assumption))|exact HB.out))) : w.heap.size ≤ gb288));have n8_:=n7_;have n9_:=am (by have:=blk_lt BK273.out;rw [hg];(try simp only [ks,kd,ke,ka]);omega : gb273 ≠ gb288);have n10_:=am (by have:=blk_lt BK273.out;rw [hg];(try simp only [ks,kd,ke,ka]);omega : gb288 ≠ gb273);have n11_:=am (by have:=blk_lt BK286.out;rw [hg];(try simp only [ks,kd,ke,ka]);omega : gb286 ≠ gb288);have n12_:=am (by have:=blk_lt BK286.out;rw [hg];(try simp only [ks,kd,ke,ka]);omega : gb288 ≠ gb286);clear HO278;clear HO281;clear HO284;clear BK273;clear BK286;clear HB;have HO278:=n0_;have HO281:=n1_;have HO284:=n2_;have BK273:=n3_;have BK286:=n4_;have HB:=n5_;have BK288:=n6_;have GW288:=n7_;have GE288:=n8_;have NB273_288:=n9_;have NB288_273:=n10_;have NB286_288:=n11_;have NB288_286:=n12_;clear n0_ n1_ n2_ n3_ n4_ n5_ n6_ n7_ n8_ n9_ n10_ n11_ n12_;clear hb hbox hg;have hnb18:=NB273_288.out;have hnc18:=NB288_273.out;obtain ⟨hcz19_0,hcz19_1,hcz19_2,hcz19_3,hcz19_4,hcz19_5,hcz19_6,hcz19_7⟩:=cq8 BK273.out;obtain ⟨hfz19_0,hfz19_1,hfz19_2,hfz19_3,hfz19_4,hfz19_5,hfz19_6,hfz19_7⟩:=fq8 BK273.out)))
      go_loopg [6,26] k (fun kq v6 v26 w' => ∃ (x6_1 : Int) (x26_1 : Int) (x289000_1 : Int) (x289001_1 : Int) (x289002_1 : Int),v6 = .int .i64 x6_1 ∧ v26 = .int .i64 x26_1 ∧ Aside0 (celluloidlaw15_EdgePlain.l0 kq x6_1 l0_7 (l0_7.length : Int) x26_1 a0_0 a0_1 a0_2 a0_3 a0_4 l0_5 l0_6 l0_7 t276 t279 t282 x289000_1 x289001_1 x289002_1 = some r) ∧ Aside0 (kq ≤ k) ∧ Aside0 (Kd.N k65 65 w' w.heap.size (fun k_ => some k_ ≠ ((.slice Ao15 t279.length co15) : Value).ownBlock ∧ some k_ ≠ ((.slice Ao16 t282.length co16) : Value).ownBlock ∧ k_ ≠ gb273 ∧ k_ ≠ gb286 ∧ k_ ≠ gb288) (.slice Ao12 t276.length co12) t276) ∧ Aside0 (Kd.R k79 79 w' w.heap.size (fun _ => True) (.slice Ao15 t279.length co15) t279) ∧ Aside0 (Kd.R k51 51 w' w.heap.size (fun _ => True) (.slice Ao16 t282.length co16) t282) ∧ Aside0 (w'.heap[gb273]? = some (.cells #[.int .i64 a0_0,.int .i64 a0_1,.int .i64 a0_2,.int .i64 a0_3,.int .i64 a0_4,(.slice A0_5 l0_5.length c0_5),(.slice A0_6 l0_6.length c0_6),(.slice A0_7 l0_7.length c0_7)] 28 (0,0))) ∧ Aside0 (w'.heap[gb286]? = some (.cells #[(.slice Ao12 t276.length co12),(.slice Ao15 t279.length co15),(.slice Ao16 t282.length co16)] 33 (0,0))) ∧ Aside0 (w'.heap[gb288]? = some (.cells #[.int .i64 x289000_1,.int .i64 x289001_1,.int .i64 x289002_1] 54 (0,0))) ∧ Aside0 (Below w.heap.size w w'))
      case atStart => exact ⟨(0),(0),(0),(0),(0),(by first|rfl|(simp;done)|(simp [*];done)),(by first|rfl|(simp;done)|(simp [*];done)),H',⟨Nat.le_refl _⟩,⟨by (with_reducible repeat (first|apply Kd.N_alloc|apply Kd.N_drewN|apply Kd.N_drew));exact Kd.N_mono HO278.out (fun _ hk => ⟨hk.1.1.1,⟨hk.1.1.2.1,⟨hk.1.1.2.2,⟨hk.1.2,hk.2⟩⟩⟩⟩)⟩,⟨by (with_reducible repeat (first|apply Kd.R_alloc|apply Kd.R_drewN|apply Kd.R_drew));exact HO281.out⟩,⟨by (with_reducible repeat (first|apply Kd.R_alloc|apply Kd.R_drewN|apply Kd.R_drew));exact HO284.out⟩,⟨by exact BK273.out⟩,⟨by exact BK286.out⟩,⟨by exact BK288.out⟩,⟨by repeat (first|(with_reducible first|exact HB.out|apply sa|apply sn|apply sd|refine sy ?_ (by assumption))|exact HB.out)⟩⟩
      case round =>
        clear H'
        try clear c1
        try clear p2
        try clear c3
        try clear c5
        try clear c5b0
        try clear c5b1
        try clear c6
        try clear c13
        try clear c18
        try clear hcz14_0
        try clear hcz14_1
        try clear hcz14_2
        try clear hcz19_0
        try clear hcz19_1
        try clear hcz19_2
        try clear hcz19_3
        try clear hcz19_4
        try clear hcz19_5
        try clear hcz19_6
        try clear hcz19_7
        try clear hcz7_0
        try clear hcz7_1
        try clear hcz7_2
        try clear hcz7_3
        try clear hcz7_4
        try clear hcz7_5
        try clear hcz7_6
        try clear hcz7_7
        try clear hcz9_0
        try clear hcz9_1
        try clear hcz9_2
        try clear hcz9_3
        try clear hcz9_4
        try clear hcz9_5
        try clear hcz9_6
        try clear hcz9_7
        try clear hfz14_0
        try clear hfz14_1
        try clear hfz14_2
        try clear hfz19_0
        try clear hfz19_1
        try clear hfz19_2
        try clear hfz19_3
        try clear hfz19_4
        try clear hfz19_5
        try clear hfz19_6
        try clear hfz19_7
        try clear hfz7_0
        try clear hfz7_1
        try clear hfz7_2
        try clear hfz7_3
        try clear hfz7_4
        try clear hfz7_5
        try clear hfz7_6
        try clear hfz7_7
        try clear hfz9_0
        try clear hfz9_1
        try clear hfz9_2
        try clear hfz9_3
        try clear hfz9_4
        try clear hfz9_5
        try clear hfz9_6
        try clear hfz9_7
        obtain ⟨x6_1,x26_1,x289000_1,x289001_1,x289002_1,rfl,rfl,HA,HK1,HO_287000,HO_287001,HO_287002,BK273,BK286,BK288,HB⟩:=hrel
        cases gk with
        | zero => exact absurd HA.out (by simp [celluloidlaw15_EdgePlain.l0])
        | succ k1 =>
          have H:=HA.out;clear HA;simp only [celluloidlaw15_EdgePlain.l0] at H
          by_cases c20 : x26_1 < (l0_7.length : Int)
          · rw [if_pos c20] at H
            have c20b0 : decide (x26_1 < (l0_7.length : Int)) = true:=decide_eq_true c20;clear c20
            by_cases c21 : 0 ≤ x26_1
            · rw [if_pos c21] at H
              have c21b0 : decide (0 ≤ x26_1) = true:=decide_eq_true c21;clear c21
              by_cases c22 : x26_1 < (l0_7.length : Int)
              · rw [if_pos c22] at H
                have c22b0 : decide (x26_1 < (l0_7.length : Int)) = true:=decide_eq_true c22;clear c22
                by_cases c23 : ((rd_T49 l0_7 x26_1).f0) = 3
                · rw [if_pos c23] at H
                  have c23b0 : (((rd_T49 l0_7 x26_1).f0) == 3) = true:=beq_iff_eq.mpr c23;have c23b1 : (((rd_T49 l0_7 x26_1).f0) != 3) = false:=bne_eq_false_iff_eq.mpr c23;clear c23;replace H:=Option.bind_eq_some_iff.mp H;obtain ⟨t292,A240,H⟩:=H;replace H : (some t292) = some r:=H;have A24:=am A240;clear A240;obtain rfl:=Option.some.inj H;have p290 : 0 ≤ (x26_1 : Int):=of_decide_eq_true (by first|(with_reducible assumption)|assumption);have q290 : x26_1 < (l0_7.length : Int):=of_decide_eq_true (by first|(with_reducible assumption)|assumption);obtain ⟨ad290,A290_8,c290_8,A290_9,c290_9,e290,hx290_0,hx290_1,hx290_2,hx290_3,hx290_4,hx290_5,hx290_6,hx290_7,hx290_8,hx290_9,hl290_8,hi290_8,hl290_9,hi290_9⟩:=at_T49 HR0_7.out x26_1 p290 q290
                  cases e290
                  replace hx290_0:=(HB.out.cell (World.block_lt_of_cell? w _ hx290_0)).trans hx290_0;replace hx290_1:=(HB.out.cell (World.block_lt_of_cell? w _ hx290_1)).trans hx290_1;replace hx290_2:=(HB.out.cell (World.block_lt_of_cell? w _ hx290_2)).trans hx290_2;replace hx290_3:=(HB.out.cell (World.block_lt_of_cell? w _ hx290_3)).trans hx290_3;replace hx290_4:=(HB.out.cell (World.block_lt_of_cell? w _ hx290_4)).trans hx290_4;replace hx290_5:=(HB.out.cell (World.block_lt_of_cell? w _ hx290_5)).trans hx290_5;replace hx290_6:=(HB.out.cell (World.block_lt_of_cell? w _ hx290_6)).trans hx290_6;replace hx290_7:=(HB.out.cell (World.block_lt_of_cell? w _ hx290_7)).trans hx290_7;replace hx290_8:=(HB.out.cell (World.block_lt_of_cell? w _ hx290_8)).trans hx290_8;replace hx290_9:=(HB.out.cell (World.block_lt_of_cell? w _ hx290_9)).trans hx290_9;have HR290_8:=am hi290_8;have HC290_8:=am hl290_8;clear hi290_8 hl290_8;have HR290_9:=am hi290_9;have HC290_9:=am hl290_9;clear hi290_9 hl290_9;replace p290:=eq_true p290;replace q290:=eq_true q290
                  go_wp2_with (first|((with_reducible refine gate_dst (N:=8) rfl ?_);(try (refine gate_guard (by rfl) ?_;dsimp only));refine box_event ?hg (N:=8) ?hd (cs:=#[.int .i64 0,.int .i64 0,.int .i64 0,.int .i64 0,.int .i64 0,.int .i64 0,.int .i64 0,.int .i64 0,.slice none 0 0,.slice none 0 0]) (t:=49) ?hr ?_;(case hd => rfl);(case hg => rfl);(case hr => first|(go_simp;done)|(go_simp;rfl));intro gb291 hg w25 hbox hb;replace HO_287000:=am (nE (by (with_reducible repeat (first|apply Kd.N_alloc|apply Kd.N_drewN|apply Kd.N_drew));exact HO_287000.out) hg hb);replace HO_287001:=am (Kd.R_below (by (with_reducible repeat (first|apply Kd.R_alloc|apply Kd.R_drewN|apply Kd.R_drew));exact HO_287001.out) hb);replace HO_287002:=am (Kd.R_below (by (with_reducible repeat (first|apply Kd.R_alloc|apply Kd.R_drewN|apply Kd.R_drew));exact HO_287002.out) hb);have BK291:=am (hbox);obtain ⟨h1_,GW291⟩:=sg (by repeat (first|(with_reducible first|exact HB.out|apply sa|apply sn|apply sd|refine sy ?_ (by assumption))|exact HB.out)) hb hg;replace HB:=h1_;clear h1_;have GE291:=GW291;have NB273_291:=nb (by exact BK273.out) hg;replace BK273:=am (bw (by exact BK273.out) hb);have NB291_273:=am (Ne.symm NB273_291.out);have NB286_291:=nb (by exact BK286.out) hg;replace BK286:=am (bw (by exact BK286.out) hb);have NB291_286:=am (Ne.symm NB286_291.out);have NB288_291:=nb (by exact BK288.out) hg;have NB291_288:=ng (by exact BK288.out) hg;replace BK288:=am (bw (by exact BK288.out) hb);clear hb hbox hg;have hnb26:=NB291_273.out;have hnc26:=NB273_291.out;have hnb27:=NB291_286.out;have hnc27:=NB286_291.out;have hnb28:=NB291_288.out;have hnc28:=NB288_291.out;obtain ⟨hcz29_0,hcz29_1,hcz29_2,hcz29_3,hcz29_4,hcz29_5,hcz29_6,hcz29_7,hcz29_8,hcz29_9⟩:=cq10 BK291.out;obtain ⟨hfz29_0,hfz29_1,hfz29_2,hfz29_3,hfz29_4,hfz29_5,hfz29_6,hfz29_7,hfz29_8,hfz29_9⟩:=fq10 BK291.out)|(go_at_call 9;(with_reducible refine (celluloidlaw15_awake.calls k1  t292 _ A24.out).mono ?_);rintro e w30 ⟨rfl,hb⟩;replace HO_287000:=am (Kd.N_below (by (with_reducible repeat (first|apply Kd.N_alloc|apply Kd.N_drewN|apply Kd.N_drew));exact (nm (nf (nf (nf (nf (nf (nf (nf (nf (nf (nf (np HO_287000.out))))))))))))) hb);replace HO_287001:=am (Kd.R_below (by (with_reducible repeat (first|apply Kd.R_alloc|apply Kd.R_drewN|apply Kd.R_drew));exact (rm (rf (rf (rf (rf (rf (rf (rf (rf (rf (rf (Kd.R_types HO_287001.out BK291.out (by decide)))))))))))))) hb);replace HO_287002:=am (Kd.R_below (by (with_reducible repeat (first|apply Kd.R_alloc|apply Kd.R_drewN|apply Kd.R_drew));exact (rm (rf (rf (rf (rf (rf (rf (rf (rf (rf (rf (Kd.R_types HO_287002.out BK291.out (by decide)))))))))))))) hb);replace BK273:=am (wz BK273.out (by (with_reducible repeat (first|refine bn ?_ _|refine bd ?_|refine ba ?_ _|refine bf ?_ NB273_291.out _));exact BK273.out) hb);replace BK286:=am (wz BK286.out (by (with_reducible repeat (first|refine bn ?_ _|refine bd ?_|refine ba ?_ _|refine bf ?_ NB286_291.out _));exact BK286.out) hb);replace BK288:=am (wz BK288.out (by (with_reducible repeat (first|refine bn ?_ _|refine bd ?_|refine ba ?_ _|refine bf ?_ NB288_291.out _));exact BK288.out) hb);replace BK291:=am (bw (g:=gb291) (o:=.cells #[.int .i64 ((rd_T49 l0_7 x26_1).f0),.int .i64 ((rd_T49 l0_7 x26_1).f1),.int .i64 ((rd_T49 l0_7 x26_1).f2),.int .i64 ((rd_T49 l0_7 x26_1).f3),.int .i64 ((rd_T49 l0_7 x26_1).f4),.int .i64 ((rd_T49 l0_7 x26_1).f5),.int .i64 ((rd_T49 l0_7 x26_1).f6),.int .i64 ((rd_T49 l0_7 x26_1).f7),.slice A290_8 ((rd_T49 l0_7 x26_1).f8).length c290_8,.slice A290_9 ((rd_T49 l0_7 x26_1).f9).length c290_9] 49 (0,0)) (bp10 BK291.out) hb);replace HB:=am (ss (by repeat (first|(with_reducible first|exact HB.out|apply sa|apply sn|apply sd|refine sy ?_ (by assumption))|exact HB.out)) hb);(try clear hb);(try clear hb2);(try clear hk);(try clear hi)))
                  repeat (go_quiet (first|((with_reducible refine gate_dst (N:=8) rfl ?_);(try (refine gate_guard (by rfl) ?_;dsimp only));refine box_event ?hg (N:=8) ?hd (cs:=#[.int .i64 0,.int .i64 0,.int .i64 0,.int .i64 0,.int .i64 0,.int .i64 0,.int .i64 0,.int .i64 0,.slice none 0 0,.slice none 0 0]) (t:=49) ?hr ?_;(case hd => rfl);(case hg => rfl);(case hr => first|(go_simp;done)|(go_simp;rfl));intro gb291 hg w25 hbox hb;have n0_:=am (nE (by (with_reducible repeat (first|apply Kd.N_alloc|apply Kd.N_drewN|apply Kd.N_drew));exact HO_287000.out) hg hb);have n1_:=am (Kd.R_below (by (with_reducible repeat (first|apply Kd.R_alloc|apply Kd.R_drewN|apply Kd.R_drew));exact HO_287001.out) hb);have n2_:=am (Kd.R_below (by (with_reducible repeat (first|apply Kd.R_alloc|apply Kd.R_drewN|apply Kd.R_drew));exact HO_287002.out) hb);have n3_:=am (bw (by exact BK273.out) hb);have n4_:=am (bw (by exact BK286.out) hb);have n5_:=am (bw (by exact BK288.out) hb);have n6_:=am (ss (by repeat (first|(with_reducible first|exact HB.out|apply sa|apply sn|apply sd|refine sy ?_ (by assumption))|exact HB.out)) hb);have n7_:=am (hbox);have n8_:=am ((by rw [hg];exact (sz (by repeat (first|(with_reducible first|exact HB.out|apply sa|apply sn|apply sd|refine sy ?_ (by assumption))|exact HB.out))) : w.heap.size ≤ gb291));have n9_:=n8_;have n10_:=nb (by exact BK273.out) hg;have n11_:=am (Ne.symm n10_.out);have n12_:=nb (by exact BK286.out) hg;have n13_:=am (Ne.symm n12_.out);have n14_:=nb (by exact BK288.out) hg;have n15_:=ng (by exact BK288.out) hg;clear HO_287000;clear HO_287001;clear HO_287002;clear BK273;clear BK286;clear BK288;clear HB;have HO_287000:=n0_;have HO_287001:=n1_;have HO_287002:=n2_;have BK273:=n3_;have BK286:=n4_;have BK288:=n5_;have HB:=n6_;have BK291:=n7_;have GW291:=n8_;have GE291:=n9_;have NB273_291:=n10_;have NB291_273:=n11_;have NB286_291:=n12_;have NB291_286:=n13_;have NB288_291:=n14_;have NB291_288:=n15_;clear n0_ n1_ n2_ n3_ n4_ n5_ n6_ n7_ n8_ n9_ n10_ n11_ n12_ n13_ n14_ n15_;clear hb hbox hg;have hnb26:=NB291_273.out;have hnc26:=NB273_291.out;have hnb27:=NB291_286.out;have hnc27:=NB286_291.out;have hnb28:=NB291_288.out;have hnc28:=NB288_291.out;obtain ⟨hcz29_0,hcz29_1,hcz29_2,hcz29_3,hcz29_4,hcz29_5,hcz29_6,hcz29_7,hcz29_8,hcz29_9⟩:=cq10 BK291.out;obtain ⟨hfz29_0,hfz29_1,hfz29_2,hfz29_3,hfz29_4,hfz29_5,hfz29_6,hfz29_7,hfz29_8,hfz29_9⟩:=fq10 BK291.out)|(go_at_call 9;(with_reducible refine (celluloidlaw15_awake.calls k1  t292 _ A24.out).mono ?_);rintro e w30 ⟨rfl,hb⟩;have n0_:=am (Kd.N_below (by (with_reducible repeat (first|apply Kd.N_alloc|apply Kd.N_drewN|apply Kd.N_drew));exact (nm (nf (nf (nf (nf (nf (nf (nf (nf (nf (nf (np HO_287000.out))))))))))))) hb);have n1_:=am (Kd.R_below (by (with_reducible repeat (first|apply Kd.R_alloc|apply Kd.R_drewN|apply Kd.R_drew));exact (rm (rf (rf (rf (rf (rf (rf (rf (rf (rf (rf (Kd.R_types HO_287001.out BK291.out (by decide)))))))))))))) hb);have n2_:=am (Kd.R_below (by (with_reducible repeat (first|apply Kd.R_alloc|apply Kd.R_drewN|apply Kd.R_drew));exact (rm (rf (rf (rf (rf (rf (rf (rf (rf (rf (rf (Kd.R_types HO_287002.out BK291.out (by decide)))))))))))))) hb);have n3_:=am (wz BK273.out (by (with_reducible repeat (first|refine bn ?_ _|refine bd ?_|refine ba ?_ _|refine bf ?_ NB273_291.out _));exact BK273.out) hb);have n4_:=am (wz BK286.out (by (with_reducible repeat (first|refine bn ?_ _|refine bd ?_|refine ba ?_ _|refine bf ?_ NB286_291.out _));exact BK286.out) hb);have n5_:=am (wz BK288.out (by (with_reducible repeat (first|refine bn ?_ _|refine bd ?_|refine ba ?_ _|refine bf ?_ NB288_291.out _));exact BK288.out) hb);have n6_:=am (bw (g:=gb291) (o:=.cells #[.int .i64 ((rd_T49 l0_7 x26_1).f0),.int .i64 ((rd_T49 l0_7 x26_1).f1),.int .i64 ((rd_T49 l0_7 x26_1).f2),.int .i64 ((rd_T49 l0_7 x26_1).f3),.int .i64 ((rd_T49 l0_7 x26_1).f4),.int .i64 ((rd_T49 l0_7 x26_1).f5),.int .i64 ((rd_T49 l0_7 x26_1).f6),.int .i64 ((rd_T49 l0_7 x26_1).f7),.slice A290_8 ((rd_T49 l0_7 x26_1).f8).length c290_8,.slice A290_9 ((rd_T49 l0_7 x26_1).f9).length c290_9] 49 (0,0)) (bp10 BK291.out) hb);have n7_:=am (ss (by repeat (first|(with_reducible first|exact HB.out|apply sa|apply sn|apply sd|refine sy ?_ (by assumption))|exact HB.out)) hb);clear HO_287000;clear HO_287001;clear HO_287002;clear BK273;clear BK286;clear BK288;clear BK291;clear HB;have HO_287000:=n0_;have HO_287001:=n1_;have HO_287002:=n2_;have BK273:=n3_;have BK286:=n4_;have BK288:=n5_;have BK291:=n6_;have HB:=n7_;clear n0_ n1_ n2_ n3_ n4_ n5_ n6_ n7_;(try clear hb);(try clear hb2);(try clear hk);(try clear hi)));try go_wp2_with (first|((with_reducible refine gate_dst (N:=8) rfl ?_);(try (refine gate_guard (by rfl) ?_;dsimp only));refine box_event ?hg (N:=8) ?hd (cs:=#[.int .i64 0,.int .i64 0,.int .i64 0,.int .i64 0,.int .i64 0,.int .i64 0,.int .i64 0,.int .i64 0,.slice none 0 0,.slice none 0 0]) (t:=49) ?hr ?_;(case hd => rfl);(case hg => rfl);(case hr => first|(go_simp;done)|(go_simp;rfl));intro gb291 hg w25 hbox hb;have n0_:=am (nE (by (with_reducible repeat (first|apply Kd.N_alloc|apply Kd.N_drewN|apply Kd.N_drew));exact HO_287000.out) hg hb);have n1_:=am (Kd.R_below (by (with_reducible repeat (first|apply Kd.R_alloc|apply Kd.R_drewN|apply Kd.R_drew));exact HO_287001.out) hb);have n2_:=am (Kd.R_below (by (with_reducible repeat (first|apply Kd.R_alloc|apply Kd.R_drewN|apply Kd.R_drew));exact HO_287002.out) hb);have n3_:=am (bw (by exact BK273.out) hb);have n4_:=am (bw (by exact BK286.out) hb);have n5_:=am (bw (by exact BK288.out) hb);have n6_:=am (ss (by repeat (first|(with_reducible first|exact HB.out|apply sa|apply sn|apply sd|refine sy ?_ (by assumption))|exact HB.out)) hb);have n7_:=am (hbox);have n8_:=am ((by rw [hg];exact (sz (by repeat (first|(with_reducible first|exact HB.out|apply sa|apply sn|apply sd|refine sy ?_ (by assumption))|exact HB.out))) : w.heap.size ≤ gb291));have n9_:=n8_;have n10_:=nb (by exact BK273.out) hg;have n11_:=am (Ne.symm n10_.out);have n12_:=nb (by exact BK286.out) hg;have n13_:=am (Ne.symm n12_.out);have n14_:=nb (by exact BK288.out) hg;have n15_:=ng (by exact BK288.out) hg;clear HO_287000;clear HO_287001;clear HO_287002;clear BK273;clear BK286;clear BK288;clear HB;have HO_287000:=n0_;have HO_287001:=n1_;have HO_287002:=n2_;have BK273:=n3_;have BK286:=n4_;have BK288:=n5_;have HB:=n6_;have BK291:=n7_;have GW291:=n8_;have GE291:=n9_;have NB273_291:=n10_;have NB291_273:=n11_;have NB286_291:=n12_;have NB291_286:=n13_;have NB288_291:=n14_;have NB291_288:=n15_;clear n0_ n1_ n2_ n3_ n4_ n5_ n6_ n7_ n8_ n9_ n10_ n11_ n12_ n13_ n14_ n15_;clear hb hbox hg;have hnb26:=NB291_273.out;have hnc26:=NB273_291.out;have hnb27:=NB291_286.out;have hnc27:=NB286_291.out;have hnb28:=NB291_288.out;have hnc28:=NB288_291.out;obtain ⟨hcz29_0,hcz29_1,hcz29_2,hcz29_3,hcz29_4,hcz29_5,hcz29_6,hcz29_7,hcz29_8,hcz29_9⟩:=cq10 BK291.out;obtain ⟨hfz29_0,hfz29_1,hfz29_2,hfz29_3,hfz29_4,hfz29_5,hfz29_6,hfz29_7,hfz29_8,hfz29_9⟩:=fq10 BK291.out)|(go_at_call 9;(with_reducible refine (celluloidlaw15_awake.calls k1  t292 _ A24.out).mono ?_);rintro e w30 ⟨rfl,hb⟩;have n0_:=am (Kd.N_below (by (with_reducible repeat (first|apply Kd.N_alloc|apply Kd.N_drewN|apply Kd.N_drew));exact (nm (nf (nf (nf (nf (nf (nf (nf (nf (nf (nf (np HO_287000.out))))))))))))) hb);have n1_:=am (Kd.R_below (by (with_reducible repeat (first|apply Kd.R_alloc|apply Kd.R_drewN|apply Kd.R_drew));exact (rm (rf (rf (rf (rf (rf (rf (rf (rf (rf (rf (Kd.R_types HO_287001.out BK291.out (by decide)))))))))))))) hb);have n2_:=am (Kd.R_below (by (with_reducible repeat (first|apply Kd.R_alloc|apply Kd.R_drewN|apply Kd.R_drew));exact (rm (rf (rf (rf (rf (rf (rf (rf (rf (rf (rf (Kd.R_types HO_287002.out BK291.out (by decide)))))))))))))) hb);have n3_:=am (wz BK273.out (by (with_reducible repeat (first|refine bn ?_ _|refine bd ?_|refine ba ?_ _|refine bf ?_ NB273_291.out _));exact BK273.out) hb);have n4_:=am (wz BK286.out (by (with_reducible repeat (first|refine bn ?_ _|refine bd ?_|refine ba ?_ _|refine bf ?_ NB286_291.out _));exact BK286.out) hb);have n5_:=am (wz BK288.out (by (with_reducible repeat (first|refine bn ?_ _|refine bd ?_|refine ba ?_ _|refine bf ?_ NB288_291.out _));exact BK288.out) hb);have n6_:=am (bw (g:=gb291) (o:=.cells #[.int .i64 ((rd_T49 l0_7 x26_1).f0),.int .i64 ((rd_T49 l0_7 x26_1).f1),.int .i64 ((rd_T49 l0_7 x26_1).f2),.int .i64 ((rd_T49 l0_7 x26_1).f3),.int .i64 ((rd_T49 l0_7 x26_1).f4),.int .i64 ((rd_T49 l0_7 x26_1).f5),.int .i64 ((rd_T49 l0_7 x26_1).f6),.int .i64 ((rd_T49 l0_7 x26_1).f7),.slice A290_8 ((rd_T49 l0_7 x26_1).f8).length c290_8,.slice A290_9 ((rd_T49 l0_7 x26_1).f9).length c290_9] 49 (0,0)) (bp10 BK291.out) hb);have n7_:=am (ss (by repeat (first|(with_reducible first|exact HB.out|apply sa|apply sn|apply sd|refine sy ?_ (by assumption))|exact HB.out)) hb);clear HO_287000;clear HO_287001;clear HO_287002;clear BK273;clear BK286;clear BK288;clear BK291;clear HB;have HO_287000:=n0_;have HO_287001:=n1_;have HO_287002:=n2_;have BK273:=n3_;have BK286:=n4_;have BK288:=n5_;have BK291:=n6_;have HB:=n7_;clear n0_ n1_ n2_ n3_ n4_ n5_ n6_ n7_;(try clear hb);(try clear hb2);(try clear hk);(try clear hi))))
                  go_ret
                  exact ⟨by first|rfl|(simp [errW_none,errW_some] <;> rfl)|(simp [*,errW_none,errW_some] <;> rfl),by repeat (first|(with_reducible first|exact HB.out|apply sa|apply sn|apply sd|refine sy ?_ (by assumption))|exact HB.out)⟩
                · rw [if_neg c23] at H
                  have c23b0 : (((rd_T49 l0_7 x26_1).f0) == 3) = false:=beq_eq_false_iff_ne.mpr c23;have c23b1 : (((rd_T49 l0_7 x26_1).f0) != 3) = true:=bne_iff_ne.mpr c23;have HC31:=am H;clear H;have p290 : 0 ≤ (x26_1 : Int):=of_decide_eq_true (by first|(with_reducible assumption)|assumption);have q290 : x26_1 < (l0_7.length : Int):=of_decide_eq_true (by first|(with_reducible assumption)|assumption);obtain ⟨ad290,A290_8,c290_8,A290_9,c290_9,e290,hx290_0,hx290_1,hx290_2,hx290_3,hx290_4,hx290_5,hx290_6,hx290_7,hx290_8,hx290_9,hl290_8,hi290_8,hl290_9,hi290_9⟩:=at_T49 HR0_7.out x26_1 p290 q290
                  cases e290
                  replace hx290_0:=(HB.out.cell (World.block_lt_of_cell? w _ hx290_0)).trans hx290_0;replace hx290_1:=(HB.out.cell (World.block_lt_of_cell? w _ hx290_1)).trans hx290_1;replace hx290_2:=(HB.out.cell (World.block_lt_of_cell? w _ hx290_2)).trans hx290_2;replace hx290_3:=(HB.out.cell (World.block_lt_of_cell? w _ hx290_3)).trans hx290_3;replace hx290_4:=(HB.out.cell (World.block_lt_of_cell? w _ hx290_4)).trans hx290_4;replace hx290_5:=(HB.out.cell (World.block_lt_of_cell? w _ hx290_5)).trans hx290_5;replace hx290_6:=(HB.out.cell (World.block_lt_of_cell? w _ hx290_6)).trans hx290_6;replace hx290_7:=(HB.out.cell (World.block_lt_of_cell? w _ hx290_7)).trans hx290_7;replace hx290_8:=(HB.out.cell (World.block_lt_of_cell? w _ hx290_8)).trans hx290_8;replace hx290_9:=(HB.out.cell (World.block_lt_of_cell? w _ hx290_9)).trans hx290_9;have HR290_8:=am hi290_8;have HC290_8:=am hl290_8;clear hi290_8 hl290_8;have HR290_9:=am hi290_9;have HC290_9:=am hl290_9;clear hi290_9 hl290_9;replace p290:=eq_true p290;replace q290:=eq_true q290
                  go_upto_if 36 with (first|((with_reducible refine gate_dst (N:=8) rfl ?_);(try (refine gate_guard (by rfl) ?_;dsimp only));refine box_event ?hg (N:=8) ?hd (cs:=#[.int .i64 0,.int .i64 0,.int .i64 0,.int .i64 0,.int .i64 0,.int .i64 0,.int .i64 0,.int .i64 0,.slice none 0 0,.slice none 0 0]) (t:=49) ?hr ?_;(case hd => rfl);(case hg => rfl);(case hr => first|(go_simp;done)|(go_simp;rfl));intro gb291 hg w32 hbox hb;have n0_:=am (nE (by (with_reducible repeat (first|apply Kd.N_alloc|apply Kd.N_drewN|apply Kd.N_drew));exact HO_287000.out) hg hb);have n1_:=am (Kd.R_below (by (with_reducible repeat (first|apply Kd.R_alloc|apply Kd.R_drewN|apply Kd.R_drew));exact HO_287001.out) hb);have n2_:=am (Kd.R_below (by (with_reducible repeat (first|apply Kd.R_alloc|apply Kd.R_drewN|apply Kd.R_drew));exact HO_287002.out) hb);have n3_:=am (bw (by exact BK273.out) hb);have n4_:=am (bw (by exact BK286.out) hb);have n5_:=am (bw (by exact BK288.out) hb);have n6_:=am (ss (by repeat (first|(with_reducible first|exact HB.out|apply sa|apply sn|apply sd|refine sy ?_ (by assumption))|exact HB.out)) hb);have n7_:=am (hbox);have n8_:=am ((by rw [hg];exact (sz (by repeat (first|(with_reducible first|exact HB.out|apply sa|apply sn|apply sd|refine sy ?_ (by assumption))|exact HB.out))) : w.heap.size ≤ gb291));have n9_:=n8_;have n10_:=nb (by exact BK273.out) hg;have n11_:=am (Ne.symm n10_.out);have n12_:=nb (by exact BK286.out) hg;have n13_:=am (Ne.symm n12_.out);have n14_:=nb (by exact BK288.out) hg;have n15_:=ng (by exact BK288.out) hg;clear HO_287000;clear HO_287001;clear HO_287002;clear BK273;clear BK286;clear BK288;clear HB;have HO_287000:=n0_;have HO_287001:=n1_;have HO_287002:=n2_;have BK273:=n3_;have BK286:=n4_;have BK288:=n5_;have HB:=n6_;have BK291:=n7_;have GW291:=n8_;have GE291:=n9_;have NB273_291:=n10_;have NB291_273:=n11_;have NB286_291:=n12_;have NB291_286:=n13_;have NB288_291:=n14_;have NB291_288:=n15_;clear n0_ n1_ n2_ n3_ n4_ n5_ n6_ n7_ n8_ n9_ n10_ n11_ n12_ n13_ n14_ n15_;clear hb hbox hg;have hnb33:=NB291_273.out;have hnc33:=NB273_291.out;have hnb34:=NB291_286.out;have hnc34:=NB286_291.out;have hnb35:=NB291_288.out;have hnc35:=NB288_291.out;obtain ⟨hcz36_0,hcz36_1,hcz36_2,hcz36_3,hcz36_4,hcz36_5,hcz36_6,hcz36_7,hcz36_8,hcz36_9⟩:=cq10 BK291.out;obtain ⟨hfz36_0,hfz36_1,hfz36_2,hfz36_3,hfz36_4,hfz36_5,hfz36_6,hfz36_7,hfz36_8,hfz36_9⟩:=fq10 BK291.out))
                  repeat (go_quiet (first|((with_reducible refine gate_dst (N:=8) rfl ?_);(try (refine gate_guard (by rfl) ?_;dsimp only));refine box_event ?hg (N:=8) ?hd (cs:=#[.int .i64 0,.int .i64 0,.int .i64 0,.int .i64 0,.int .i64 0,.int .i64 0,.int .i64 0,.int .i64 0,.slice none 0 0,.slice none 0 0]) (t:=49) ?hr ?_;(case hd => rfl);(case hg => rfl);(case hr => first|(go_simp;done)|(go_simp;rfl));intro gb291 hg w32 hbox hb;have n0_:=am (nE (by (with_reducible repeat (first|apply Kd.N_alloc|apply Kd.N_drewN|apply Kd.N_drew));exact HO_287000.out) hg hb);have n1_:=am (Kd.R_below (by (with_reducible repeat (first|apply Kd.R_alloc|apply Kd.R_drewN|apply Kd.R_drew));exact HO_287001.out) hb);have n2_:=am (Kd.R_below (by (with_reducible repeat (first|apply Kd.R_alloc|apply Kd.R_drewN|apply Kd.R_drew));exact HO_287002.out) hb);have n3_:=am (bw (by exact BK273.out) hb);have n4_:=am (bw (by exact BK286.out) hb);have n5_:=am (bw (by exact BK288.out) hb);have n6_:=am (ss (by repeat (first|(with_reducible first|exact HB.out|apply sa|apply sn|apply sd|refine sy ?_ (by assumption))|exact HB.out)) hb);have n7_:=am (hbox);have n8_:=am ((by rw [hg];exact (sz (by repeat (first|(with_reducible first|exact HB.out|apply sa|apply sn|apply sd|refine sy ?_ (by assumption))|exact HB.out))) : w.heap.size ≤ gb291));have n9_:=n8_;have n10_:=nb (by exact BK273.out) hg;have n11_:=am (Ne.symm n10_.out);have n12_:=nb (by exact BK286.out) hg;have n13_:=am (Ne.symm n12_.out);have n14_:=nb (by exact BK288.out) hg;have n15_:=ng (by exact BK288.out) hg;clear HO_287000;clear HO_287001;clear HO_287002;clear BK273;clear BK286;clear BK288;clear HB;have HO_287000:=n0_;have HO_287001:=n1_;have HO_287002:=n2_;have BK273:=n3_;have BK286:=n4_;have BK288:=n5_;have HB:=n6_;have BK291:=n7_;have GW291:=n8_;have GE291:=n9_;have NB273_291:=n10_;have NB291_273:=n11_;have NB286_291:=n12_;have NB291_286:=n13_;have NB288_291:=n14_;have NB291_288:=n15_;clear n0_ n1_ n2_ n3_ n4_ n5_ n6_ n7_ n8_ n9_ n10_ n11_ n12_ n13_ n14_ n15_;clear hb hbox hg;have hnb33:=NB291_273.out;have hnc33:=NB273_291.out;have hnb34:=NB291_286.out;have hnc34:=NB286_291.out;have hnb35:=NB291_288.out;have hnc35:=NB288_291.out;obtain ⟨hcz36_0,hcz36_1,hcz36_2,hcz36_3,hcz36_4,hcz36_5,hcz36_6,hcz36_7,hcz36_8,hcz36_9⟩:=cq10 BK291.out;obtain ⟨hfz36_0,hfz36_1,hfz36_2,hfz36_3,hfz36_4,hfz36_5,hfz36_6,hfz36_7,hfz36_8,hfz36_9⟩:=fq10 BK291.out));go_upto_if 36 with (first|((with_reducible refine gate_dst (N:=8) rfl ?_);(try (refine gate_guard (by rfl) ?_;dsimp only));refine box_event ?hg (N:=8) ?hd (cs:=#[.int .i64 0,.int .i64 0,.int .i64 0,.int .i64 0,.int .i64 0,.int .i64 0,.int .i64 0,.int .i64 0,.slice none 0 0,.slice none 0 0]) (t:=49) ?hr ?_;(case hd => rfl);(case hg => rfl);(case hr => first|(go_simp;done)|(go_simp;rfl));intro gb291 hg w32 hbox hb;have n0_:=am (nE (by (with_reducible repeat (first|apply Kd.N_alloc|apply Kd.N_drewN|apply Kd.N_drew));exact HO_287000.out) hg hb);have n1_:=am (Kd.R_below (by (with_reducible repeat (first|apply Kd.R_alloc|apply Kd.R_drewN|apply Kd.R_drew));exact HO_287001.out) hb);have n2_:=am (Kd.R_below (by (with_reducible repeat (first|apply Kd.R_alloc|apply Kd.R_drewN|apply Kd.R_drew));exact HO_287002.out) hb);have n3_:=am (bw (by exact BK273.out) hb);have n4_:=am (bw (by exact BK286.out) hb);have n5_:=am (bw (by exact BK288.out) hb);have n6_:=am (ss (by repeat (first|(with_reducible first|exact HB.out|apply sa|apply sn|apply sd|refine sy ?_ (by assumption))|exact HB.out)) hb);have n7_:=am (hbox);have n8_:=am ((by rw [hg];exact (sz (by repeat (first|(with_reducible first|exact HB.out|apply sa|apply sn|apply sd|refine sy ?_ (by assumption))|exact HB.out))) : w.heap.size ≤ gb291));have n9_:=n8_;have n10_:=nb (by exact BK273.out) hg;have n11_:=am (Ne.symm n10_.out);have n12_:=nb (by exact BK286.out) hg;have n13_:=am (Ne.symm n12_.out);have n14_:=nb (by exact BK288.out) hg;have n15_:=ng (by exact BK288.out) hg;clear HO_287000;clear HO_287001;clear HO_287002;clear BK273;clear BK286;clear BK288;clear HB;have HO_287000:=n0_;have HO_287001:=n1_;have HO_287002:=n2_;have BK273:=n3_;have BK286:=n4_;have BK288:=n5_;have HB:=n6_;have BK291:=n7_;have GW291:=n8_;have GE291:=n9_;have NB273_291:=n10_;have NB291_273:=n11_;have NB286_291:=n12_;have NB291_286:=n13_;have NB288_291:=n14_;have NB291_288:=n15_;clear n0_ n1_ n2_ n3_ n4_ n5_ n6_ n7_ n8_ n9_ n10_ n11_ n12_ n13_ n14_ n15_;clear hb hbox hg;have hnb33:=NB291_273.out;have hnc33:=NB273_291.out;have hnb34:=NB291_286.out;have hnc34:=NB286_291.out;have hnb35:=NB291_288.out;have hnc35:=NB288_291.out;obtain ⟨hcz36_0,hcz36_1,hcz36_2,hcz36_3,hcz36_4,hcz36_5,hcz36_6,hcz36_7,hcz36_8,hcz36_9⟩:=cq10 BK291.out;obtain ⟨hfz36_0,hfz36_1,hfz36_2,hfz36_3,hfz36_4,hfz36_5,hfz36_6,hfz36_7,hfz36_8,hfz36_9⟩:=fq10 BK291.out)))
                  (try simp only [Act.put,q1,q2,q3])
                  go_cut [] (fun wc => ∃ (kq : Nat) (x289000_30 : Int) (x289001_30 : Int) (x289002_30 : Int),Aside0 (celluloidlaw15_EdgePlain.j2 kq x6_1 l0_7 (l0_7.length : Int) x26_1 a0_0 a0_1 a0_2 a0_3 a0_4 l0_5 l0_6 l0_7 t276 t279 t282 x289000_30 x289001_30 x289002_30 ((rd_T49 l0_7 x26_1).f0) ((rd_T49 l0_7 x26_1).f1) ((rd_T49 l0_7 x26_1).f2) ((rd_T49 l0_7 x26_1).f3) ((rd_T49 l0_7 x26_1).f4) ((rd_T49 l0_7 x26_1).f5) ((rd_T49 l0_7 x26_1).f6) ((rd_T49 l0_7 x26_1).f7) ((rd_T49 l0_7 x26_1).f8) ((rd_T49 l0_7 x26_1).f9) = some r) ∧ Aside0 (kq ≤ k1) ∧ Aside0 (Kd.N k65 65 wc w.heap.size (fun k_ => some k_ ≠ ((.slice Ao15 t279.length co15) : Value).ownBlock ∧ some k_ ≠ ((.slice Ao16 t282.length co16) : Value).ownBlock ∧ k_ ≠ gb273 ∧ k_ ≠ gb286 ∧ k_ ≠ gb288 ∧ k_ ≠ gb291) (.slice Ao12 t276.length co12) t276) ∧ Aside0 (Kd.R k79 79 wc w.heap.size (fun _ => True) (.slice Ao15 t279.length co15) t279) ∧ Aside0 (Kd.R k51 51 wc w.heap.size (fun _ => True) (.slice Ao16 t282.length co16) t282) ∧ Aside0 (wc.heap[gb273]? = some (.cells #[.int .i64 a0_0,.int .i64 a0_1,.int .i64 a0_2,.int .i64 a0_3,.int .i64 a0_4,(.slice A0_5 l0_5.length c0_5),(.slice A0_6 l0_6.length c0_6),(.slice (some ad290) l0_7.length c0_7)] 28 (0,0))) ∧ Aside0 (wc.heap[gb286]? = some (.cells #[(.slice Ao12 t276.length co12),(.slice Ao15 t279.length co15),(.slice Ao16 t282.length co16)] 33 (0,0))) ∧ Aside0 (wc.heap[gb288]? = some (.cells #[.int .i64 x289000_30,.int .i64 x289001_30,.int .i64 x289002_30] 54 (0,0))) ∧ Aside0 (wc.heap[gb291]? = some (.cells #[.int .i64 ((rd_T49 l0_7 x26_1).f0),.int .i64 ((rd_T49 l0_7 x26_1).f1),.int .i64 ((rd_T49 l0_7 x26_1).f2),.int .i64 ((rd_T49 l0_7 x26_1).f3),.int .i64 ((rd_T49 l0_7 x26_1).f4),.int .i64 ((rd_T49 l0_7 x26_1).f5),.int .i64 ((rd_T49 l0_7 x26_1).f6),.int .i64 ((rd_T49 l0_7 x26_1).f7),(.slice A290_8 ((rd_T49 l0_7 x26_1).f8).length c290_8),(.slice A290_9 ((rd_T49 l0_7 x26_1).f9).length c290_9)] 49 (0,0))) ∧ Aside0 (Below w.heap.size w wc))
                  case first =>
                    have H:=HC31.out;clear HC31
                    by_cases c37 : ((rd_T49 l0_7 x26_1).f0) = 2
                    · rw [if_pos c37] at H
                      have c37b0 : (((rd_T49 l0_7 x26_1).f0) == 2) = true:=beq_iff_eq.mpr c37;have c37b1 : (((rd_T49 l0_7 x26_1).f0) != 2) = false:=bne_eq_false_iff_eq.mpr c37;clear c37
                      (first|rw [c37b0]|(simp only [i64_w,i32_w];rw [c37b0])|skip)
                      have H':=am H;clear H;have hnb38:=NB291_273.out;have hnc38:=NB273_291.out;have hnb39:=NB291_286.out;have hnc39:=NB286_291.out;have hnb40:=NB291_288.out;have hnc40:=NB288_291.out;have hcz41_0 : w32.cell? ⟨gb291,0,none⟩ = some (.int .i64 0):=(bc BK291.out 0).trans rfl;have hcz41_1 : w32.cell? ⟨gb291,1,none⟩ = some (.int .i64 0):=(bc BK291.out 1).trans rfl;have hcz41_2 : w32.cell? ⟨gb291,2,none⟩ = some (.int .i64 0):=(bc BK291.out 2).trans rfl;have hcz41_3 : w32.cell? ⟨gb291,3,none⟩ = some (.int .i64 0):=(bc BK291.out 3).trans rfl;have hcz41_4 : w32.cell? ⟨gb291,4,none⟩ = some (.int .i64 0):=(bc BK291.out 4).trans rfl;have hcz41_5 : w32.cell? ⟨gb291,5,none⟩ = some (.int .i64 0):=(bc BK291.out 5).trans rfl;have hcz41_6 : w32.cell? ⟨gb291,6,none⟩ = some (.int .i64 0):=(bc BK291.out 6).trans rfl;have hcz41_7 : w32.cell? ⟨gb291,7,none⟩ = some (.int .i64 0):=(bc BK291.out 7).trans rfl;have hcz41_8 : w32.cell? ⟨gb291,8,none⟩ = some (.slice none 0 0):=(bc BK291.out 8).trans rfl;have hcz41_9 : w32.cell? ⟨gb291,9,none⟩ = some (.slice none 0 0):=(bc BK291.out 9).trans rfl;have hfz41_0:=bz BK291.out 0;have hfz41_1:=bz BK291.out 1;have hfz41_2:=bz BK291.out 2;have hfz41_3:=bz BK291.out 3;have hfz41_4:=bz BK291.out 4;have hfz41_5:=bz BK291.out 5;have hfz41_6:=bz BK291.out 6;have hfz41_7:=bz BK291.out 7;have hfz41_8:=bz BK291.out 8;have hfz41_9:=bz BK291.out 9
                      go_wp2
                      repeat (go_quiet (fail);try go_wp2)
                      go_loopg [44] k1 (fun kq v44 w' => ∃ (x44_2 : Int) (x289000_2 : Int) (x289001_2 : Int) (x289002_2 : Int),v44 = .int .i64 x44_2 ∧ Aside0 (celluloidlaw15_EdgePlain.l1 kq x6_1 l0_7 (l0_7.length : Int) x26_1 ((rd_T49 l0_7 x26_1).f5) ((rd_T49 l0_7 x26_1).f6) ((rd_T49 l0_7 x26_1).f7) x44_2 a0_0 a0_1 a0_2 a0_3 a0_4 l0_5 l0_6 l0_7 t276 t279 t282 x289000_2 x289001_2 x289002_2 ((rd_T49 l0_7 x26_1).f0) ((rd_T49 l0_7 x26_1).f1) ((rd_T49 l0_7 x26_1).f2) ((rd_T49 l0_7 x26_1).f3) ((rd_T49 l0_7 x26_1).f4) ((rd_T49 l0_7 x26_1).f5) ((rd_T49 l0_7 x26_1).f6) ((rd_T49 l0_7 x26_1).f7) ((rd_T49 l0_7 x26_1).f8) ((rd_T49 l0_7 x26_1).f9) = some r) ∧ Aside0 (kq ≤ k1) ∧ Aside0 (Kd.N k65 65 w' w.heap.size (fun k_ => some k_ ≠ ((.slice Ao15 t279.length co15) : Value).ownBlock ∧ some k_ ≠ ((.slice Ao16 t282.length co16) : Value).ownBlock ∧ k_ ≠ gb273 ∧ k_ ≠ gb286 ∧ k_ ≠ gb288 ∧ k_ ≠ gb291) (.slice Ao12 t276.length co12) t276) ∧ Aside0 (Kd.R k79 79 w' w.heap.size (fun _ => True) (.slice Ao15 t279.length co15) t279) ∧ Aside0 (Kd.R k51 51 w' w.heap.size (fun _ => True) (.slice Ao16 t282.length co16) t282) ∧ Aside0 (w'.heap[gb273]? = some (.cells #[.int .i64 a0_0,.int .i64 a0_1,.int .i64 a0_2,.int .i64 a0_3,.int .i64 a0_4,(.slice A0_5 l0_5.length c0_5),(.slice A0_6 l0_6.length c0_6),(.slice (some ad290) l0_7.length c0_7)] 28 (0,0))) ∧ Aside0 (w'.heap[gb286]? = some (.cells #[(.slice Ao12 t276.length co12),(.slice Ao15 t279.length co15),(.slice Ao16 t282.length co16)] 33 (0,0))) ∧ Aside0 (w'.heap[gb288]? = some (.cells #[.int .i64 x289000_2,.int .i64 x289001_2,.int .i64 x289002_2] 54 (0,0))) ∧ Aside0 (w'.heap[gb291]? = some (.cells #[.int .i64 ((rd_T49 l0_7 x26_1).f0),.int .i64 ((rd_T49 l0_7 x26_1).f1),.int .i64 ((rd_T49 l0_7 x26_1).f2),.int .i64 ((rd_T49 l0_7 x26_1).f3),.int .i64 ((rd_T49 l0_7 x26_1).f4),.int .i64 ((rd_T49 l0_7 x26_1).f5),.int .i64 ((rd_T49 l0_7 x26_1).f6),.int .i64 ((rd_T49 l0_7 x26_1).f7),(.slice A290_8 ((rd_T49 l0_7 x26_1).f8).length c290_8),(.slice A290_9 ((rd_T49 l0_7 x26_1).f9).length c290_9)] 49 (0,0))) ∧ Aside0 (Below w.heap.size w w'))
                      case atStart => exact ⟨(0),(x289000_1),(x289001_1),(x289002_1),(by first|rfl|(simp;done)|(simp [*];done)),H',⟨Nat.le_refl _⟩,⟨by (with_reducible repeat (first|apply Kd.N_alloc|apply Kd.N_drewN|apply Kd.N_drew));exact Kd.N_mono (nf (nf (nf (nf (nf (nf (nf (nf (nf (nf (np HO_287000.out))))))))))) (fun _ hk => ⟨hk.1.1.1,⟨hk.1.1.2.1,⟨hk.1.1.2.2.1,⟨hk.1.1.2.2.2.1,⟨hk.1.1.2.2.2.2,hk.1.2⟩⟩⟩⟩⟩)⟩,⟨by (with_reducible repeat (first|apply Kd.R_alloc|apply Kd.R_drewN|apply Kd.R_drew));exact Kd.R_mono (rf (rf (rf (rf (rf (rf (rf (rf (rf (rf (Kd.R_types HO_287001.out BK291.out (by decide)))))))))))) (fun _ hk => trivial)⟩,⟨by (with_reducible repeat (first|apply Kd.R_alloc|apply Kd.R_drewN|apply Kd.R_drew));exact Kd.R_mono (rf (rf (rf (rf (rf (rf (rf (rf (rf (rf (Kd.R_types HO_287002.out BK291.out (by decide)))))))))))) (fun _ hk => trivial)⟩,⟨by (with_reducible repeat (first|refine bn ?_ _|refine bd ?_|refine ba ?_ _|refine bf ?_ NB273_291.out _));exact BK273.out⟩,⟨by (with_reducible repeat (first|refine bn ?_ _|refine bd ?_|refine ba ?_ _|refine bf ?_ NB286_291.out _));exact BK286.out⟩,⟨by (with_reducible repeat (first|refine bn ?_ _|refine bd ?_|refine ba ?_ _|refine bf ?_ NB288_291.out _));exact BK288.out⟩,⟨(bp10 BK291.out)⟩,⟨by repeat (first|(with_reducible first|exact HB.out|apply sa|apply sn|apply sd|refine sy ?_ (by assumption))|exact HB.out)⟩⟩
                      case round =>
                        clear H'
                        try clear c1
                        try clear c2
                        try clear p2
                        try clear q2
                        try clear hx2
                        try clear c3
                        try clear c4
                        try clear c5
                        try clear c5b0
                        try clear c5b1
                        try clear c6
                        try clear c13
                        try clear c18
                        try clear c20
                        try clear c20b0
                        try clear c21
                        try clear c21b0
                        try clear c22
                        try clear c22b0
                        try clear c23
                        try clear c23b0
                        try clear c23b1
                        try clear c26
                        try clear c27
                        try clear c28
                        try clear c29
                        try clear p29
                        try clear q29
                        try clear hx29
                        try clear c33
                        try clear c34
                        try clear c35
                        try clear c37
                        try clear c37b0
                        try clear c37b1
                        try clear c38
                        try clear c39
                        try clear c40
                        try clear hcz14_0
                        try clear hcz14_1
                        try clear hcz14_2
                        try clear hcz19_0
                        try clear hcz19_1
                        try clear hcz19_2
                        try clear hcz19_3
                        try clear hcz19_4
                        try clear hcz19_5
                        try clear hcz19_6
                        try clear hcz19_7
                        try clear hcz29_0
                        try clear hcz29_1
                        try clear hcz29_2
                        try clear hcz29_3
                        try clear hcz29_4
                        try clear hcz29_5
                        try clear hcz29_6
                        try clear hcz29_7
                        try clear hcz29_8
                        try clear hcz29_9
                        try clear hcz36_0
                        try clear hcz36_1
                        try clear hcz36_2
                        try clear hcz36_3
                        try clear hcz36_4
                        try clear hcz36_5
                        try clear hcz36_6
                        try clear hcz36_7
                        try clear hcz36_8
                        try clear hcz36_9
                        try clear hcz41_0
                        try clear hcz41_1
                        try clear hcz41_2
                        try clear hcz41_3
                        try clear hcz41_4
                        try clear hcz41_5
                        try clear hcz41_6
                        try clear hcz41_7
                        try clear hcz41_8
                        try clear hcz41_9
                        try clear hcz7_0
                        try clear hcz7_1
                        try clear hcz7_2
                        try clear hcz7_3
                        try clear hcz7_4
                        try clear hcz7_5
                        try clear hcz7_6
                        try clear hcz7_7
                        try clear hcz9_0
                        try clear hcz9_1
                        try clear hcz9_2
                        try clear hcz9_3
                        try clear hcz9_4
                        try clear hcz9_5
                        try clear hcz9_6
                        try clear hcz9_7
                        try clear hfz14_0
                        try clear hfz14_1
                        try clear hfz14_2
                        try clear hfz19_0
                        try clear hfz19_1
                        try clear hfz19_2
                        try clear hfz19_3
                        try clear hfz19_4
                        try clear hfz19_5
                        try clear hfz19_6
                        try clear hfz19_7
                        try clear hfz29_0
                        try clear hfz29_1
                        try clear hfz29_2
                        try clear hfz29_3
                        try clear hfz29_4
                        try clear hfz29_5
                        try clear hfz29_6
                        try clear hfz29_7
                        try clear hfz29_8
                        try clear hfz29_9
                        try clear hfz36_0
                        try clear hfz36_1
                        try clear hfz36_2
                        try clear hfz36_3
                        try clear hfz36_4
                        try clear hfz36_5
                        try clear hfz36_6
                        try clear hfz36_7
                        try clear hfz36_8
                        try clear hfz36_9
                        try clear hfz41_0
                        try clear hfz41_1
                        try clear hfz41_2
                        try clear hfz41_3
                        try clear hfz41_4
                        try clear hfz41_5
                        try clear hfz41_6
                        try clear hfz41_7
                        try clear hfz41_8
                        try clear hfz41_9
                        try clear hfz7_0
                        try clear hfz7_1
                        try clear hfz7_2
                        try clear hfz7_3
                        try clear hfz7_4
                        try clear hfz7_5
                        try clear hfz7_6
                        try clear hfz7_7
                        try clear hfz9_0
                        try clear hfz9_1
                        try clear hfz9_2
                        try clear hfz9_3
                        try clear hfz9_4
                        try clear hfz9_5
                        try clear hfz9_6
                        try clear hfz9_7
                        try clear hx290_0
                        try clear hx290_1
                        try clear hx290_2
                        try clear hx290_3
                        try clear hx290_4
                        try clear hx290_5
                        try clear hx290_6
                        try clear hx290_7
                        try clear hx290_8
                        try clear hx290_9
                        try clear p2
                        try clear p290
                        try clear q290
                        obtain ⟨x44_2,x289000_2,x289001_2,x289002_2,rfl,HA,HK2,HO_287000,HO_287001,HO_287002,BK273,BK286,BK288,BK291,HB⟩:=hrel
                        cases gk with
                        | zero => exact absurd HA.out (by simp [celluloidlaw15_EdgePlain.l1])
                        | succ k2 =>
                          have H:=HA.out;clear HA;simp only [celluloidlaw15_EdgePlain.l1] at H
                          by_cases c42 : x44_2 = 0
                          · rw [if_pos c42] at H
                            subst c42
                            by_cases c43 : ((rd_T49 l0_7 x26_1).f5) ≥ 0
                            · rw [if_pos c43] at H
                              have c43b0 : decide (0 ≤ ((rd_T49 l0_7 x26_1).f5)) = true:=decide_eq_true c43;clear c43;have H':=am H;clear H;have hnb44:=NB288_273.out;have hnc44:=NB273_288.out;have hnb45:=NB288_286.out;have hnc45:=NB286_288.out;have hnb46:=NB288_291.out;have hnc46:=NB291_288.out;have hcz47_0 : wr.cell? ⟨gb288,0,none⟩ = some (.int .i64 x289000_2):=(bc BK288.out 0).trans rfl;have hcz47_1 : wr.cell? ⟨gb288,1,none⟩ = some (.int .i64 x289001_2):=(bc BK288.out 1).trans rfl;have hcz47_2 : wr.cell? ⟨gb288,2,none⟩ = some (.int .i64 x289002_2):=(bc BK288.out 2).trans rfl;have hfz47_0:=bz BK288.out 0;have hfz47_1:=bz BK288.out 1;have hfz47_2:=bz BK288.out 2
                              go_wp2
                              repeat (go_quiet (fail);try go_wp2)
                              go_roundg k2
                              case measure => have:=HK1.out;have:=HK2.out;omega
                              case rel => exact ⟨(1),(((rd_T49 l0_7 x26_1).f5)),(x289001_2),(x289002_2),(by first|rfl|(simp;done)|(simp [*];done)),H',⟨by have:=HK1.out;have:=HK2.out;omega⟩,⟨by (with_reducible repeat (first|apply Kd.N_alloc|apply Kd.N_drewN|apply Kd.N_drew));exact Kd.N_mono (nf (Kd.N_mono HO_287000.out (fun k_ hk => (⟨hk,hk.2.2.2.2.1⟩ : _ ∧ k_ ≠ gb288)))) (fun _ hk => ⟨hk.1.1,⟨hk.1.2.1,⟨hk.1.2.2.1,⟨hk.1.2.2.2.1,⟨hk.1.2.2.2.2.1,hk.1.2.2.2.2.2⟩⟩⟩⟩⟩)⟩,⟨by (with_reducible repeat (first|apply Kd.R_alloc|apply Kd.R_drewN|apply Kd.R_drew));exact Kd.R_mono (rf (Kd.R_types HO_287001.out BK288.out (by decide))) (fun _ hk => trivial)⟩,⟨by (with_reducible repeat (first|apply Kd.R_alloc|apply Kd.R_drewN|apply Kd.R_drew));exact Kd.R_mono (rf (Kd.R_types HO_287002.out BK288.out (by decide))) (fun _ hk => trivial)⟩,⟨by (with_reducible repeat (first|refine bn ?_ _|refine bd ?_|refine ba ?_ _|refine bf ?_ NB273_288.out _));exact BK273.out⟩,⟨by (with_reducible repeat (first|refine bn ?_ _|refine bd ?_|refine ba ?_ _|refine bf ?_ NB286_288.out _));exact BK286.out⟩,⟨(bp BK288.out 0 _ rfl)⟩,⟨by (with_reducible repeat (first|refine bn ?_ _|refine bd ?_|refine ba ?_ _|refine bf ?_ NB291_288.out _));exact BK291.out⟩,⟨by repeat (first|(with_reducible first|exact HB.out|apply sa|apply sn|apply sd|refine sy ?_ (by assumption))|exact HB.out)⟩⟩
                            · rw [if_neg c43] at H
                              have c43b0 : decide (0 ≤ ((rd_T49 l0_7 x26_1).f5)) = false:=decide_eq_false c43;clear c43;have H':=am H;clear H
                              go_wp2
                              repeat (go_quiet (fail);try go_wp2)
                              go_roundg k2
                              case measure => have:=HK1.out;have:=HK2.out;omega
                              case rel => exact ⟨(1),(x289000_2),(x289001_2),(x289002_2),(by first|rfl|(simp;done)|(simp [*];done)),H',⟨by have:=HK1.out;have:=HK2.out;omega⟩,⟨by (with_reducible repeat (first|apply Kd.N_alloc|apply Kd.N_drewN|apply Kd.N_drew));exact HO_287000.out⟩,⟨by (with_reducible repeat (first|apply Kd.R_alloc|apply Kd.R_drewN|apply Kd.R_drew));exact HO_287001.out⟩,⟨by (with_reducible repeat (first|apply Kd.R_alloc|apply Kd.R_drewN|apply Kd.R_drew));exact HO_287002.out⟩,⟨by exact BK273.out⟩,⟨by exact BK286.out⟩,⟨by exact BK288.out⟩,⟨by exact BK291.out⟩,⟨by repeat (first|(with_reducible first|exact HB.out|apply sa|apply sn|apply sd|refine sy ?_ (by assumption))|exact HB.out)⟩⟩
                          · rw [if_neg c42] at H
                            by_cases c42 : x44_2 = 1
                            · rw [if_pos c42] at H
                              subst c42
                              by_cases c43 : ((rd_T49 l0_7 x26_1).f6) ≥ 0
                              · rw [if_pos c43] at H
                                have c43b0 : decide (0 ≤ ((rd_T49 l0_7 x26_1).f6)) = true:=decide_eq_true c43;clear c43;have H':=am H;clear H;have hnb44:=NB288_273.out;have hnc44:=NB273_288.out;have hnb45:=NB288_286.out;have hnc45:=NB286_288.out;have hnb46:=NB288_291.out;have hnc46:=NB291_288.out;have hcz47_0 : wr.cell? ⟨gb288,0,none⟩ = some (.int .i64 x289000_2):=(bc BK288.out 0).trans rfl;have hcz47_1 : wr.cell? ⟨gb288,1,none⟩ = some (.int .i64 x289001_2):=(bc BK288.out 1).trans rfl;have hcz47_2 : wr.cell? ⟨gb288,2,none⟩ = some (.int .i64 x289002_2):=(bc BK288.out 2).trans rfl;have hfz47_0:=bz BK288.out 0;have hfz47_1:=bz BK288.out 1;have hfz47_2:=bz BK288.out 2
                                go_wp2
                                repeat (go_quiet (fail);try go_wp2)
                                go_roundg k2
                                case measure => have:=HK1.out;have:=HK2.out;omega
                                case rel => exact ⟨(2),(x289000_2),(((rd_T49 l0_7 x26_1).f6)),(x289002_2),(by first|rfl|(simp;done)|(simp [*];done)),H',⟨by have:=HK1.out;have:=HK2.out;omega⟩,⟨by (with_reducible repeat (first|apply Kd.N_alloc|apply Kd.N_drewN|apply Kd.N_drew));exact Kd.N_mono (nf (Kd.N_mono HO_287000.out (fun k_ hk => (⟨hk,hk.2.2.2.2.1⟩ : _ ∧ k_ ≠ gb288)))) (fun _ hk => ⟨hk.1.1,⟨hk.1.2.1,⟨hk.1.2.2.1,⟨hk.1.2.2.2.1,⟨hk.1.2.2.2.2.1,hk.1.2.2.2.2.2⟩⟩⟩⟩⟩)⟩,⟨by (with_reducible repeat (first|apply Kd.R_alloc|apply Kd.R_drewN|apply Kd.R_drew));exact Kd.R_mono (rf (Kd.R_types HO_287001.out BK288.out (by decide))) (fun _ hk => trivial)⟩,⟨by (with_reducible repeat (first|apply Kd.R_alloc|apply Kd.R_drewN|apply Kd.R_drew));exact Kd.R_mono (rf (Kd.R_types HO_287002.out BK288.out (by decide))) (fun _ hk => trivial)⟩,⟨by (with_reducible repeat (first|refine bn ?_ _|refine bd ?_|refine ba ?_ _|refine bf ?_ NB273_288.out _));exact BK273.out⟩,⟨by (with_reducible repeat (first|refine bn ?_ _|refine bd ?_|refine ba ?_ _|refine bf ?_ NB286_288.out _));exact BK286.out⟩,⟨(bp BK288.out 1 _ rfl)⟩,⟨by (with_reducible repeat (first|refine bn ?_ _|refine bd ?_|refine ba ?_ _|refine bf ?_ NB291_288.out _));exact BK291.out⟩,⟨by repeat (first|(with_reducible first|exact HB.out|apply sa|apply sn|apply sd|refine sy ?_ (by assumption))|exact HB.out)⟩⟩
                              · rw [if_neg c43] at H
                                have c43b0 : decide (0 ≤ ((rd_T49 l0_7 x26_1).f6)) = false:=decide_eq_false c43;clear c43;have H':=am H;clear H
                                go_wp2
                                repeat (go_quiet (fail);try go_wp2)
                                go_roundg k2
                                case measure => have:=HK1.out;have:=HK2.out;omega
                                case rel => exact ⟨(2),(x289000_2),(x289001_2),(x289002_2),(by first|rfl|(simp;done)|(simp [*];done)),H',⟨by have:=HK1.out;have:=HK2.out;omega⟩,⟨by (with_reducible repeat (first|apply Kd.N_alloc|apply Kd.N_drewN|apply Kd.N_drew));exact HO_287000.out⟩,⟨by (with_reducible repeat (first|apply Kd.R_alloc|apply Kd.R_drewN|apply Kd.R_drew));exact HO_287001.out⟩,⟨by (with_reducible repeat (first|apply Kd.R_alloc|apply Kd.R_drewN|apply Kd.R_drew));exact HO_287002.out⟩,⟨by exact BK273.out⟩,⟨by exact BK286.out⟩,⟨by exact BK288.out⟩,⟨by exact BK291.out⟩,⟨by repeat (first|(with_reducible first|exact HB.out|apply sa|apply sn|apply sd|refine sy ?_ (by assumption))|exact HB.out)⟩⟩
                            · rw [if_neg c42] at H
                              by_cases c42 : x44_2 = 2
                              · rw [if_pos c42] at H
                                subst c42
                                by_cases c43 : ((rd_T49 l0_7 x26_1).f7) ≥ 0
                                · rw [if_pos c43] at H
                                  have c43b0 : decide (0 ≤ ((rd_T49 l0_7 x26_1).f7)) = true:=decide_eq_true c43;clear c43;have H':=am H;clear H;have hnb44:=NB288_273.out;have hnc44:=NB273_288.out;have hnb45:=NB288_286.out;have hnc45:=NB286_288.out;have hnb46:=NB288_291.out;have hnc46:=NB291_288.out;have hcz47_0 : wr.cell? ⟨gb288,0,none⟩ = some (.int .i64 x289000_2):=(bc BK288.out 0).trans rfl;have hcz47_1 : wr.cell? ⟨gb288,1,none⟩ = some (.int .i64 x289001_2):=(bc BK288.out 1).trans rfl;have hcz47_2 : wr.cell? ⟨gb288,2,none⟩ = some (.int .i64 x289002_2):=(bc BK288.out 2).trans rfl;have hfz47_0:=bz BK288.out 0;have hfz47_1:=bz BK288.out 1;have hfz47_2:=bz BK288.out 2
                                  go_wp2
                                  repeat (go_quiet (fail);try go_wp2)
                                  go_roundg k2
                                  case measure => have:=HK1.out;have:=HK2.out;omega
                                  case rel => exact ⟨(3),(x289000_2),(x289001_2),(((rd_T49 l0_7 x26_1).f7)),(by first|rfl|(simp;done)|(simp [*];done)),H',⟨by have:=HK1.out;have:=HK2.out;omega⟩,⟨by (with_reducible repeat (first|apply Kd.N_alloc|apply Kd.N_drewN|apply Kd.N_drew));exact Kd.N_mono (nf (Kd.N_mono HO_287000.out (fun k_ hk => (⟨hk,hk.2.2.2.2.1⟩ : _ ∧ k_ ≠ gb288)))) (fun _ hk => ⟨hk.1.1,⟨hk.1.2.1,⟨hk.1.2.2.1,⟨hk.1.2.2.2.1,⟨hk.1.2.2.2.2.1,hk.1.2.2.2.2.2⟩⟩⟩⟩⟩)⟩,⟨by (with_reducible repeat (first|apply Kd.R_alloc|apply Kd.R_drewN|apply Kd.R_drew));exact Kd.R_mono (rf (Kd.R_types HO_287001.out BK288.out (by decide))) (fun _ hk => trivial)⟩,⟨by (with_reducible repeat (first|apply Kd.R_alloc|apply Kd.R_drewN|apply Kd.R_drew));exact Kd.R_mono (rf (Kd.R_types HO_287002.out BK288.out (by decide))) (fun _ hk => trivial)⟩,⟨by (with_reducible repeat (first|refine bn ?_ _|refine bd ?_|refine ba ?_ _|refine bf ?_ NB273_288.out _));exact BK273.out⟩,⟨by (with_reducible repeat (first|refine bn ?_ _|refine bd ?_|refine ba ?_ _|refine bf ?_ NB286_288.out _));exact BK286.out⟩,⟨(bp BK288.out 2 _ rfl)⟩,⟨by (with_reducible repeat (first|refine bn ?_ _|refine bd ?_|refine ba ?_ _|refine bf ?_ NB291_288.out _));exact BK291.out⟩,⟨by repeat (first|(with_reducible first|exact HB.out|apply sa|apply sn|apply sd|refine sy ?_ (by assumption))|exact HB.out)⟩⟩
                                · rw [if_neg c43] at H
                                  have c43b0 : decide (0 ≤ ((rd_T49 l0_7 x26_1).f7)) = false:=decide_eq_false c43;clear c43;have H':=am H;clear H
                                  go_wp2
                                  repeat (go_quiet (fail);try go_wp2)
                                  go_roundg k2
                                  case measure => have:=HK1.out;have:=HK2.out;omega
                                  case rel => exact ⟨(3),(x289000_2),(x289001_2),(x289002_2),(by first|rfl|(simp;done)|(simp [*];done)),H',⟨by have:=HK1.out;have:=HK2.out;omega⟩,⟨by (with_reducible repeat (first|apply Kd.N_alloc|apply Kd.N_drewN|apply Kd.N_drew));exact HO_287000.out⟩,⟨by (with_reducible repeat (first|apply Kd.R_alloc|apply Kd.R_drewN|apply Kd.R_drew));exact HO_287001.out⟩,⟨by (with_reducible repeat (first|apply Kd.R_alloc|apply Kd.R_drewN|apply Kd.R_drew));exact HO_287002.out⟩,⟨by exact BK273.out⟩,⟨by exact BK286.out⟩,⟨by exact BK288.out⟩,⟨by exact BK291.out⟩,⟨by repeat (first|(with_reducible first|exact HB.out|apply sa|apply sn|apply sd|refine sy ?_ (by assumption))|exact HB.out)⟩⟩
                              · rw [if_neg c42] at H
                                by_cases c423 : x44_2 = 3
                                · rw [if_pos c423] at H
                                  subst c423
                                  have H':=am H;clear H
                                  go_wp2
                                  repeat (go_quiet (fail);try go_wp2)
                                  go_meet
                                  case rel => exact ⟨_,(x289000_2),(x289001_2),(x289002_2),H',⟨by have:=HK1.out;have:=HK2.out;first|omega|exact Nat.le_refl _⟩,⟨by (with_reducible repeat (first|apply Kd.N_alloc|apply Kd.N_drewN|apply Kd.N_drew));exact HO_287000.out⟩,⟨by (with_reducible repeat (first|apply Kd.R_alloc|apply Kd.R_drewN|apply Kd.R_drew));exact HO_287001.out⟩,⟨by (with_reducible repeat (first|apply Kd.R_alloc|apply Kd.R_drewN|apply Kd.R_drew));exact HO_287002.out⟩,⟨by exact BK273.out⟩,⟨by exact BK286.out⟩,⟨by exact BK288.out⟩,⟨by exact BK291.out⟩,⟨by repeat (first|(with_reducible first|exact HB.out|apply sa|apply sn|apply sd|refine sy ?_ (by assumption))|exact HB.out)⟩⟩
                                · rw [if_neg c423] at H;exact absurd H (by simp)
                    · rw [if_neg c37] at H
                      have c37b0 : (((rd_T49 l0_7 x26_1).f0) == 2) = false:=beq_eq_false_iff_ne.mpr c37;have c37b1 : (((rd_T49 l0_7 x26_1).f0) != 2) = true:=bne_iff_ne.mpr c37
                      (first|rw [c37b0]|(simp only [i64_w,i32_w];rw [c37b0])|skip)
                      have H':=am H;clear H
                      go_wp2
                      repeat (go_quiet (fail);try go_wp2)
                      go_meet
                      case rel => exact ⟨_,(x289000_1),(x289001_1),(x289002_1),H',⟨by have:=HK1.out;first|omega|exact Nat.le_refl _⟩,⟨by (with_reducible repeat (first|apply Kd.N_alloc|apply Kd.N_drewN|apply Kd.N_drew));exact Kd.N_mono (nf (nf (nf (nf (nf (nf (nf (nf (nf (nf (np HO_287000.out))))))))))) (fun _ hk => ⟨hk.1.1.1,⟨hk.1.1.2.1,⟨hk.1.1.2.2.1,⟨hk.1.1.2.2.2.1,⟨hk.1.1.2.2.2.2,hk.1.2⟩⟩⟩⟩⟩)⟩,⟨by (with_reducible repeat (first|apply Kd.R_alloc|apply Kd.R_drewN|apply Kd.R_drew));exact Kd.R_mono (rf (rf (rf (rf (rf (rf (rf (rf (rf (rf (Kd.R_types HO_287001.out BK291.out (by decide)))))))))))) (fun _ hk => trivial)⟩,⟨by (with_reducible repeat (first|apply Kd.R_alloc|apply Kd.R_drewN|apply Kd.R_drew));exact Kd.R_mono (rf (rf (rf (rf (rf (rf (rf (rf (rf (rf (Kd.R_types HO_287002.out BK291.out (by decide)))))))))))) (fun _ hk => trivial)⟩,⟨by (with_reducible repeat (first|refine bn ?_ _|refine bd ?_|refine ba ?_ _|refine bf ?_ NB273_291.out _));exact BK273.out⟩,⟨by (with_reducible repeat (first|refine bn ?_ _|refine bd ?_|refine ba ?_ _|refine bf ?_ NB286_291.out _));exact BK286.out⟩,⟨by (with_reducible repeat (first|refine bn ?_ _|refine bd ?_|refine ba ?_ _|refine bf ?_ NB288_291.out _));exact BK288.out⟩,⟨(bp10 BK291.out)⟩,⟨by repeat (first|(with_reducible first|exact HB.out|apply sa|apply sn|apply sd|refine sy ?_ (by assumption))|exact HB.out)⟩⟩
                  case rest =>
                    clear HC31
                    try clear c1
                    try clear c2
                    try clear p2
                    try clear q2
                    try clear hx2
                    try clear c3
                    try clear c4
                    try clear c5
                    try clear c5b0
                    try clear c5b1
                    try clear c6
                    try clear p6
                    try clear c13
                    try clear c18
                    try clear c20
                    try clear c20b0
                    try clear c21
                    try clear c21b0
                    try clear c22
                    try clear c22b0
                    try clear c23
                    try clear c23b0
                    try clear c23b1
                    try clear c26
                    try clear c27
                    try clear c28
                    try clear c29
                    try clear p29
                    try clear q29
                    try clear hx29
                    try clear c33
                    try clear c34
                    try clear c35
                    try clear c37
                    try clear c37b0
                    try clear c37b1
                    try clear c38
                    try clear c39
                    try clear c40
                    try clear c42
                    try clear c42b0
                    try clear c43
                    try clear c43b0
                    try clear c44
                    try clear c45
                    try clear c46
                    try clear hcz14_0
                    try clear hcz14_1
                    try clear hcz14_2
                    try clear hcz19_0
                    try clear hcz19_1
                    try clear hcz19_2
                    try clear hcz19_3
                    try clear hcz19_4
                    try clear hcz19_5
                    try clear hcz19_6
                    try clear hcz19_7
                    try clear hcz29_0
                    try clear hcz29_1
                    try clear hcz29_2
                    try clear hcz29_3
                    try clear hcz29_4
                    try clear hcz29_5
                    try clear hcz29_6
                    try clear hcz29_7
                    try clear hcz29_8
                    try clear hcz29_9
                    try clear hcz36_0
                    try clear hcz36_1
                    try clear hcz36_2
                    try clear hcz36_3
                    try clear hcz36_4
                    try clear hcz36_5
                    try clear hcz36_6
                    try clear hcz36_7
                    try clear hcz36_8
                    try clear hcz36_9
                    try clear hcz41_0
                    try clear hcz41_1
                    try clear hcz41_2
                    try clear hcz41_3
                    try clear hcz41_4
                    try clear hcz41_5
                    try clear hcz41_6
                    try clear hcz41_7
                    try clear hcz41_8
                    try clear hcz41_9
                    try clear hcz47_0
                    try clear hcz47_1
                    try clear hcz47_2
                    try clear hcz7_0
                    try clear hcz7_1
                    try clear hcz7_2
                    try clear hcz7_3
                    try clear hcz7_4
                    try clear hcz7_5
                    try clear hcz7_6
                    try clear hcz7_7
                    try clear hcz9_0
                    try clear hcz9_1
                    try clear hcz9_2
                    try clear hcz9_3
                    try clear hcz9_4
                    try clear hcz9_5
                    try clear hcz9_6
                    try clear hcz9_7
                    try clear hfz14_0
                    try clear hfz14_1
                    try clear hfz14_2
                    try clear hfz19_0
                    try clear hfz19_1
                    try clear hfz19_2
                    try clear hfz19_3
                    try clear hfz19_4
                    try clear hfz19_5
                    try clear hfz19_6
                    try clear hfz19_7
                    try clear hfz29_0
                    try clear hfz29_1
                    try clear hfz29_2
                    try clear hfz29_3
                    try clear hfz29_4
                    try clear hfz29_5
                    try clear hfz29_6
                    try clear hfz29_7
                    try clear hfz29_8
                    try clear hfz29_9
                    try clear hfz36_0
                    try clear hfz36_1
                    try clear hfz36_2
                    try clear hfz36_3
                    try clear hfz36_4
                    try clear hfz36_5
                    try clear hfz36_6
                    try clear hfz36_7
                    try clear hfz36_8
                    try clear hfz36_9
                    try clear hfz41_0
                    try clear hfz41_1
                    try clear hfz41_2
                    try clear hfz41_3
                    try clear hfz41_4
                    try clear hfz41_5
                    try clear hfz41_6
                    try clear hfz41_7
                    try clear hfz41_8
                    try clear hfz41_9
                    try clear hfz47_0
                    try clear hfz47_1
                    try clear hfz47_2
                    try clear hfz7_0
                    try clear hfz7_1
                    try clear hfz7_2
                    try clear hfz7_3
                    try clear hfz7_4
                    try clear hfz7_5
                    try clear hfz7_6
                    try clear hfz7_7
                    try clear hfz9_0
                    try clear hfz9_1
                    try clear hfz9_2
                    try clear hfz9_3
                    try clear hfz9_4
                    try clear hfz9_5
                    try clear hfz9_6
                    try clear hfz9_7
                    try clear hx290_0
                    try clear hx290_1
                    try clear hx290_2
                    try clear hx290_3
                    try clear hx290_4
                    try clear hx290_5
                    try clear hx290_6
                    try clear hx290_7
                    try clear hx290_8
                    try clear hx290_9
                    try clear p2
                    try clear p29
                    try clear p290
                    try clear q2
                    try clear q29
                    try clear q290
                    obtain ⟨kq,x289000_30,x289001_30,x289002_30,HA,HJ30,HO_287000,HO_287001,HO_287002,BK273,BK286,BK288,BK291,HB⟩:=hcut
                    cases kq with
                    | zero => exact absurd HA.out (by simp [celluloidlaw15_EdgePlain.j2])
                    | succ kj30 =>
                      have H:=HA.out;clear HA;simp only [celluloidlaw15_EdgePlain.j2] at H;have HC48:=am H;clear H
                      go_upto_region 20 with (fail)
                      repeat (go_quiet (fail);go_upto_region 20 with (fail))
                      go_cut [61] (fun v61 wc => ∃ (kq : Nat) (x61_47 : Bool),v61 = .bool x61_47 ∧ Aside0 (celluloidlaw15_EdgePlain.j3 kq x6_1 l0_7 (l0_7.length : Int) x26_1 x61_47 a0_0 a0_1 a0_2 a0_3 a0_4 l0_5 l0_6 l0_7 t276 t279 t282 x289000_30 x289001_30 x289002_30 = some r) ∧ Aside0 (kq ≤ kj30) ∧ Aside0 (Kd.N k65 65 wc w.heap.size (fun k_ => some k_ ≠ ((.slice Ao15 t279.length co15) : Value).ownBlock ∧ some k_ ≠ ((.slice Ao16 t282.length co16) : Value).ownBlock ∧ k_ ≠ gb273 ∧ k_ ≠ gb286 ∧ k_ ≠ gb288 ∧ k_ ≠ gb291) (.slice Ao12 t276.length co12) t276) ∧ Aside0 (Kd.R k79 79 wc w.heap.size (fun _ => True) (.slice Ao15 t279.length co15) t279) ∧ Aside0 (Kd.R k51 51 wc w.heap.size (fun _ => True) (.slice Ao16 t282.length co16) t282) ∧ Aside0 (wc.heap[gb273]? = some (.cells #[.int .i64 a0_0,.int .i64 a0_1,.int .i64 a0_2,.int .i64 a0_3,.int .i64 a0_4,(.slice A0_5 l0_5.length c0_5),(.slice A0_6 l0_6.length c0_6),(.slice (some ad290) l0_7.length c0_7)] 28 (0,0))) ∧ Aside0 (wc.heap[gb286]? = some (.cells #[(.slice Ao12 t276.length co12),(.slice Ao15 t279.length co15),(.slice Ao16 t282.length co16)] 33 (0,0))) ∧ Aside0 (wc.heap[gb288]? = some (.cells #[.int .i64 x289000_30,.int .i64 x289001_30,.int .i64 x289002_30] 54 (0,0))) ∧ Aside0 (wc.heap[gb291]? = some (.cells #[.int .i64 ((rd_T49 l0_7 x26_1).f0),.int .i64 ((rd_T49 l0_7 x26_1).f1),.int .i64 ((rd_T49 l0_7 x26_1).f2),.int .i64 ((rd_T49 l0_7 x26_1).f3),.int .i64 ((rd_T49 l0_7 x26_1).f4),.int .i64 ((rd_T49 l0_7 x26_1).f5),.int .i64 ((rd_T49 l0_7 x26_1).f6),.int .i64 ((rd_T49 l0_7 x26_1).f7),(.slice A290_8 ((rd_T49 l0_7 x26_1).f8).length c290_8),(.slice A290_9 ((rd_T49 l0_7 x26_1).f9).length c290_9)] 49 (0,0))) ∧ Aside0 (Below w.heap.size w wc))
                      case first =>
                        have H:=HC48.out;clear HC48
                        by_cases c49 : ((rd_T49 l0_7 x26_1).f0) = 4
                        · rw [if_pos c49] at H
                          have c49b0 : (((rd_T49 l0_7 x26_1).f0) == 4) = true:=beq_iff_eq.mpr c49;have c49b1 : (((rd_T49 l0_7 x26_1).f0) != 4) = false:=bne_eq_false_iff_eq.mpr c49;clear c49
                          (first|rw [c49b0]|(simp only [i64_w,i32_w];rw [c49b0])|skip)
                          have H':=am H;clear H;have hnb50:=NB291_273.out;have hnc50:=NB273_291.out;have hnb51:=NB291_286.out;have hnc51:=NB286_291.out;have hnb52:=NB291_288.out;have hnc52:=NB288_291.out;have hcz53_0 : wc.cell? ⟨gb291,0,none⟩ = some (.int .i64 ((rd_T49 l0_7 x26_1).f0)):=(bc BK291.out 0).trans rfl;have hcz53_1 : wc.cell? ⟨gb291,1,none⟩ = some (.int .i64 ((rd_T49 l0_7 x26_1).f1)):=(bc BK291.out 1).trans rfl;have hcz53_2 : wc.cell? ⟨gb291,2,none⟩ = some (.int .i64 ((rd_T49 l0_7 x26_1).f2)):=(bc BK291.out 2).trans rfl;have hcz53_3 : wc.cell? ⟨gb291,3,none⟩ = some (.int .i64 ((rd_T49 l0_7 x26_1).f3)):=(bc BK291.out 3).trans rfl;have hcz53_4 : wc.cell? ⟨gb291,4,none⟩ = some (.int .i64 ((rd_T49 l0_7 x26_1).f4)):=(bc BK291.out 4).trans rfl;have hcz53_5 : wc.cell? ⟨gb291,5,none⟩ = some (.int .i64 ((rd_T49 l0_7 x26_1).f5)):=(bc BK291.out 5).trans rfl;have hcz53_6 : wc.cell? ⟨gb291,6,none⟩ = some (.int .i64 ((rd_T49 l0_7 x26_1).f6)):=(bc BK291.out 6).trans rfl;have hcz53_7 : wc.cell? ⟨gb291,7,none⟩ = some (.int .i64 ((rd_T49 l0_7 x26_1).f7)):=(bc BK291.out 7).trans rfl;have hcz53_8 : wc.cell? ⟨gb291,8,none⟩ = some (.slice A290_8 ((rd_T49 l0_7 x26_1).f8).length c290_8):=(bc BK291.out 8).trans rfl;have hcz53_9 : wc.cell? ⟨gb291,9,none⟩ = some (.slice A290_9 ((rd_T49 l0_7 x26_1).f9).length c290_9):=(bc BK291.out 9).trans rfl;have hfz53_0:=bz BK291.out 0;have hfz53_1:=bz BK291.out 1;have hfz53_2:=bz BK291.out 2;have hfz53_3:=bz BK291.out 3;have hfz53_4:=bz BK291.out 4;have hfz53_5:=bz BK291.out 5;have hfz53_6:=bz BK291.out 6;have hfz53_7:=bz BK291.out 7;have hfz53_8:=bz BK291.out 8;have hfz53_9:=bz BK291.out 9
                          go_wp2
                          repeat (go_quiet (fail);try go_wp2)
                          go_meet
                          case rel => exact ⟨_,(true),(by first|rfl|(simp;done)|(simp [*];done)),H',⟨by have:=HK1.out;have:=HJ30.out;first|omega|exact Nat.le_refl _⟩,⟨by (with_reducible repeat (first|apply Kd.N_alloc|apply Kd.N_drewN|apply Kd.N_drew));exact HO_287000.out⟩,⟨by (with_reducible repeat (first|apply Kd.R_alloc|apply Kd.R_drewN|apply Kd.R_drew));exact HO_287001.out⟩,⟨by (with_reducible repeat (first|apply Kd.R_alloc|apply Kd.R_drewN|apply Kd.R_drew));exact HO_287002.out⟩,⟨by exact BK273.out⟩,⟨by exact BK286.out⟩,⟨by exact BK288.out⟩,⟨by exact BK291.out⟩,⟨by repeat (first|(with_reducible first|exact HB.out|apply sa|apply sn|apply sd|refine sy ?_ (by assumption))|exact HB.out)⟩⟩
                        · rw [if_neg c49] at H
                          have c49b0 : (((rd_T49 l0_7 x26_1).f0) == 4) = false:=beq_eq_false_iff_ne.mpr c49;have c49b1 : (((rd_T49 l0_7 x26_1).f0) != 4) = true:=bne_iff_ne.mpr c49
                          (first|rw [c49b0]|(simp only [i64_w,i32_w];rw [c49b0])|skip)
                          have H':=am H;clear H;have hnb54:=NB291_273.out;have hnc54:=NB273_291.out;have hnb55:=NB291_286.out;have hnc55:=NB286_291.out;have hnb56:=NB291_288.out;have hnc56:=NB288_291.out;have hcz57_0 : wc.cell? ⟨gb291,0,none⟩ = some (.int .i64 ((rd_T49 l0_7 x26_1).f0)):=(bc BK291.out 0).trans rfl;have hcz57_1 : wc.cell? ⟨gb291,1,none⟩ = some (.int .i64 ((rd_T49 l0_7 x26_1).f1)):=(bc BK291.out 1).trans rfl;have hcz57_2 : wc.cell? ⟨gb291,2,none⟩ = some (.int .i64 ((rd_T49 l0_7 x26_1).f2)):=(bc BK291.out 2).trans rfl;have hcz57_3 : wc.cell? ⟨gb291,3,none⟩ = some (.int .i64 ((rd_T49 l0_7 x26_1).f3)):=(bc BK291.out 3).trans rfl;have hcz57_4 : wc.cell? ⟨gb291,4,none⟩ = some (.int .i64 ((rd_T49 l0_7 x26_1).f4)):=(bc BK291.out 4).trans rfl;have hcz57_5 : wc.cell? ⟨gb291,5,none⟩ = some (.int .i64 ((rd_T49 l0_7 x26_1).f5)):=(bc BK291.out 5).trans rfl;have hcz57_6 : wc.cell? ⟨gb291,6,none⟩ = some (.int .i64 ((rd_T49 l0_7 x26_1).f6)):=(bc BK291.out 6).trans rfl;have hcz57_7 : wc.cell? ⟨gb291,7,none⟩ = some (.int .i64 ((rd_T49 l0_7 x26_1).f7)):=(bc BK291.out 7).trans rfl;have hcz57_8 : wc.cell? ⟨gb291,8,none⟩ = some (.slice A290_8 ((rd_T49 l0_7 x26_1).f8).length c290_8):=(bc BK291.out 8).trans rfl;have hcz57_9 : wc.cell? ⟨gb291,9,none⟩ = some (.slice A290_9 ((rd_T49 l0_7 x26_1).f9).length c290_9):=(bc BK291.out 9).trans rfl;have hfz57_0:=bz BK291.out 0;have hfz57_1:=bz BK291.out 1;have hfz57_2:=bz BK291.out 2;have hfz57_3:=bz BK291.out 3;have hfz57_4:=bz BK291.out 4;have hfz57_5:=bz BK291.out 5;have hfz57_6:=bz BK291.out 6;have hfz57_7:=bz BK291.out 7;have hfz57_8:=bz BK291.out 8;have hfz57_9:=bz BK291.out 9
                          go_wp2
                          repeat (go_quiet (fail);try go_wp2)
                          go_meet
                          case rel => exact ⟨_,((((rd_T49 l0_7 x26_1).f0) == 5)),(by first|rfl|(simp;done)|(simp [*];done)),H',⟨by have:=HK1.out;have:=HJ30.out;first|omega|exact Nat.le_refl _⟩,⟨by (with_reducible repeat (first|apply Kd.N_alloc|apply Kd.N_drewN|apply Kd.N_drew));exact HO_287000.out⟩,⟨by (with_reducible repeat (first|apply Kd.R_alloc|apply Kd.R_drewN|apply Kd.R_drew));exact HO_287001.out⟩,⟨by (with_reducible repeat (first|apply Kd.R_alloc|apply Kd.R_drewN|apply Kd.R_drew));exact HO_287002.out⟩,⟨by exact BK273.out⟩,⟨by exact BK286.out⟩,⟨by exact BK288.out⟩,⟨by exact BK291.out⟩,⟨by repeat (first|(with_reducible first|exact HB.out|apply sa|apply sn|apply sd|refine sy ?_ (by assumption))|exact HB.out)⟩⟩
                      case rest =>
                        clear HC48
                        try clear c1
                        try clear c2
                        try clear p2
                        try clear q2
                        try clear hx2
                        try clear c3
                        try clear c4
                        try clear c5
                        try clear c5b0
                        try clear c5b1
                        try clear c6
                        try clear p6
                        try clear c13
                        try clear c18
                        try clear c20
                        try clear c20b0
                        try clear c21
                        try clear c21b0
                        try clear c22
                        try clear c22b0
                        try clear c23
                        try clear c23b0
                        try clear c23b1
                        try clear c26
                        try clear c27
                        try clear c28
                        try clear c29
                        try clear p29
                        try clear q29
                        try clear hx29
                        try clear c33
                        try clear c34
                        try clear c35
                        try clear c37
                        try clear c37b0
                        try clear c37b1
                        try clear c38
                        try clear c39
                        try clear c40
                        try clear c42
                        try clear c42b0
                        try clear c43
                        try clear c43b0
                        try clear c44
                        try clear c45
                        try clear c46
                        try clear c49
                        try clear c49b0
                        try clear c49b1
                        try clear c50
                        try clear c51
                        try clear c52
                        try clear c54
                        try clear c55
                        try clear c56
                        try clear hcz14_0
                        try clear hcz14_1
                        try clear hcz14_2
                        try clear hcz19_0
                        try clear hcz19_1
                        try clear hcz19_2
                        try clear hcz19_3
                        try clear hcz19_4
                        try clear hcz19_5
                        try clear hcz19_6
                        try clear hcz19_7
                        try clear hcz29_0
                        try clear hcz29_1
                        try clear hcz29_2
                        try clear hcz29_3
                        try clear hcz29_4
                        try clear hcz29_5
                        try clear hcz29_6
                        try clear hcz29_7
                        try clear hcz29_8
                        try clear hcz29_9
                        try clear hcz36_0
                        try clear hcz36_1
                        try clear hcz36_2
                        try clear hcz36_3
                        try clear hcz36_4
                        try clear hcz36_5
                        try clear hcz36_6
                        try clear hcz36_7
                        try clear hcz36_8
                        try clear hcz36_9
                        try clear hcz41_0
                        try clear hcz41_1
                        try clear hcz41_2
                        try clear hcz41_3
                        try clear hcz41_4
                        try clear hcz41_5
                        try clear hcz41_6
                        try clear hcz41_7
                        try clear hcz41_8
                        try clear hcz41_9
                        try clear hcz47_0
                        try clear hcz47_1
                        try clear hcz47_2
                        try clear hcz53_0
                        try clear hcz53_1
                        try clear hcz53_2
                        try clear hcz53_3
                        try clear hcz53_4
                        try clear hcz53_5
                        try clear hcz53_6
                        try clear hcz53_7
                        try clear hcz53_8
                        try clear hcz53_9
                        try clear hcz57_0
                        try clear hcz57_1
                        try clear hcz57_2
                        try clear hcz57_3
                        try clear hcz57_4
                        try clear hcz57_5
                        try clear hcz57_6
                        try clear hcz57_7
                        try clear hcz57_8
                        try clear hcz57_9
                        try clear hcz7_0
                        try clear hcz7_1
                        try clear hcz7_2
                        try clear hcz7_3
                        try clear hcz7_4
                        try clear hcz7_5
                        try clear hcz7_6
                        try clear hcz7_7
                        try clear hcz9_0
                        try clear hcz9_1
                        try clear hcz9_2
                        try clear hcz9_3
                        try clear hcz9_4
                        try clear hcz9_5
                        try clear hcz9_6
                        try clear hcz9_7
                        try clear hfz14_0
                        try clear hfz14_1
                        try clear hfz14_2
                        try clear hfz19_0
                        try clear hfz19_1
                        try clear hfz19_2
                        try clear hfz19_3
                        try clear hfz19_4
                        try clear hfz19_5
                        try clear hfz19_6
                        try clear hfz19_7
                        try clear hfz29_0
                        try clear hfz29_1
                        try clear hfz29_2
                        try clear hfz29_3
                        try clear hfz29_4
                        try clear hfz29_5
                        try clear hfz29_6
                        try clear hfz29_7
                        try clear hfz29_8
                        try clear hfz29_9
                        try clear hfz36_0
                        try clear hfz36_1
                        try clear hfz36_2
                        try clear hfz36_3
                        try clear hfz36_4
                        try clear hfz36_5
                        try clear hfz36_6
                        try clear hfz36_7
                        try clear hfz36_8
                        try clear hfz36_9
                        try clear hfz41_0
                        try clear hfz41_1
                        try clear hfz41_2
                        try clear hfz41_3
                        try clear hfz41_4
                        try clear hfz41_5
                        try clear hfz41_6
                        try clear hfz41_7
                        try clear hfz41_8
                        try clear hfz41_9
                        try clear hfz47_0
                        try clear hfz47_1
                        try clear hfz47_2
                        try clear hfz53_0
                        try clear hfz53_1
                        try clear hfz53_2
                        try clear hfz53_3
                        try clear hfz53_4
                        try clear hfz53_5
                        try clear hfz53_6
                        try clear hfz53_7
                        try clear hfz53_8
                        try clear hfz53_9
                        try clear hfz57_0
                        try clear hfz57_1
                        try clear hfz57_2
                        try clear hfz57_3
                        try clear hfz57_4
                        try clear hfz57_5
                        try clear hfz57_6
                        try clear hfz57_7
                        try clear hfz57_8
                        try clear hfz57_9
                        try clear hfz7_0
                        try clear hfz7_1
                        try clear hfz7_2
                        try clear hfz7_3
                        try clear hfz7_4
                        try clear hfz7_5
                        try clear hfz7_6
                        try clear hfz7_7
                        try clear hfz9_0
                        try clear hfz9_1
                        try clear hfz9_2
                        try clear hfz9_3
                        try clear hfz9_4
                        try clear hfz9_5
                        try clear hfz9_6
                        try clear hfz9_7
                        try clear hx290_0
                        try clear hx290_1
                        try clear hx290_2
                        try clear hx290_3
                        try clear hx290_4
                        try clear hx290_5
                        try clear hx290_6
                        try clear hx290_7
                        try clear hx290_8
                        try clear hx290_9
                        try clear p2
                        try clear p29
                        try clear p290
                        try clear p6
                        try clear q2
                        try clear q29
                        try clear q290
                        obtain ⟨kq,x61_47,rfl,HA,HJ47,HO_287000,HO_287001,HO_287002,BK273,BK286,BK288,BK291,HB⟩:=hcut
                        cases kq with
                        | zero => exact absurd HA.out (by simp [celluloidlaw15_EdgePlain.j3])
                        | succ kj47 =>
                          have H:=HA.out;clear HA;simp only [celluloidlaw15_EdgePlain.j3] at H
                          by_cases c58 : x61_47 = true
                          · subst c58
                            have H1 : (if x6_1 ≥ (t282.length : Int) then (some false) else (if 0 ≤ x6_1 then (if x6_1 < (t282.length : Int) then (if ((rd_T51 t282 x6_1).f4) = x289000_30 then (if ((rd_T51 t282 x6_1).f5) = x289001_30 then (if ((rd_T51 t282 x6_1).f6) = x289002_30 then (celluloidlaw15_EdgePlain.l0 kj47 (wrap64 (x6_1 + 1)) l0_7 (l0_7.length : Int) (wrap64 (x26_1 + 1)) a0_0 a0_1 a0_2 a0_3 a0_4 l0_5 l0_6 l0_7 t276 t279 t282 x289000_30 x289001_30 x289002_30) else (some false)) else (some false)) else (some false)) else (none)) else (none))) = some r:=by rw [if_pos rfl] at H;exact H
                            clear H;have H:=H1;clear H1
                            by_cases c59 : x6_1 ≥ (t282.length : Int)
                            · rw [if_pos c59] at H
                              have c59b0 : decide ((t282.length : Int) ≤ x6_1) = true:=decide_eq_true c59;clear c59;obtain rfl:=Option.some.inj H;have hnb60:=NB286_273.out;have hnc60:=NB273_286.out;have hnb61:=NB286_288.out;have hnc61:=NB288_286.out;have hnb62:=NB286_291.out;have hnc62:=NB291_286.out;have hcz63_0 : wc.cell? ⟨gb286,0,none⟩ = some (.slice Ao12 t276.length co12):=(bc BK286.out 0).trans rfl;have hcz63_1 : wc.cell? ⟨gb286,1,none⟩ = some (.slice Ao15 t279.length co15):=(bc BK286.out 1).trans rfl;have hcz63_2 : wc.cell? ⟨gb286,2,none⟩ = some (.slice Ao16 t282.length co16):=(bc BK286.out 2).trans rfl;have hfz63_0:=bz BK286.out 0;have hfz63_1:=bz BK286.out 1;have hfz63_2:=bz BK286.out 2
                              go_wp2
                              repeat (go_quiet (fail);try go_wp2)
                              go_ret
                              exact ⟨by first|rfl|(simp [errW_none,errW_some] <;> rfl)|(simp [*,errW_none,errW_some] <;> rfl),by repeat (first|(with_reducible first|exact HB.out|apply sa|apply sn|apply sd|refine sy ?_ (by assumption))|exact HB.out)⟩
                            · rw [if_neg c59] at H
                              have c59b0 : decide ((t282.length : Int) ≤ x6_1) = false:=decide_eq_false c59;clear c59
                              by_cases c64 : 0 ≤ x6_1
                              · rw [if_pos c64] at H
                                have c64b0 : decide (0 ≤ x6_1) = true:=decide_eq_true c64;clear c64
                                by_cases c65 : x6_1 < (t282.length : Int)
                                · rw [if_pos c65] at H
                                  have c65b0 : decide (x6_1 < (t282.length : Int)) = true:=decide_eq_true c65;clear c65
                                  by_cases c66 : ((rd_T51 t282 x6_1).f4) = x289000_30
                                  · rw [if_pos c66] at H
                                    have c66b0 : (((rd_T51 t282 x6_1).f4) == x289000_30) = true:=beq_iff_eq.mpr c66;have c66b1 : (((rd_T51 t282 x6_1).f4) != x289000_30) = false:=bne_eq_false_iff_eq.mpr c66;clear c66
                                    by_cases c67 : ((rd_T51 t282 x6_1).f5) = x289001_30
                                    · rw [if_pos c67] at H
                                      have c67b0 : (((rd_T51 t282 x6_1).f5) == x289001_30) = true:=beq_iff_eq.mpr c67;have c67b1 : (((rd_T51 t282 x6_1).f5) != x289001_30) = false:=bne_eq_false_iff_eq.mpr c67;clear c67
                                      by_cases c68 : ((rd_T51 t282 x6_1).f6) = x289002_30
                                      · rw [if_pos c68] at H
                                        have c68b0 : (((rd_T51 t282 x6_1).f6) == x289002_30) = true:=beq_iff_eq.mpr c68;have c68b1 : (((rd_T51 t282 x6_1).f6) != x289002_30) = false:=bne_eq_false_iff_eq.mpr c68;clear c68;have H':=am H;clear H;have hnb69:=NB286_273.out;have hnc69:=NB273_286.out;have hnb70:=NB286_288.out;have hnc70:=NB288_286.out;have hnb71:=NB286_291.out;have hnc71:=NB291_286.out;have hcz72_0 : wc.cell? ⟨gb286,0,none⟩ = some (.slice Ao12 t276.length co12):=(bc BK286.out 0).trans rfl;have hcz72_1 : wc.cell? ⟨gb286,1,none⟩ = some (.slice Ao15 t279.length co15):=(bc BK286.out 1).trans rfl;have hcz72_2 : wc.cell? ⟨gb286,2,none⟩ = some (.slice Ao16 t282.length co16):=(bc BK286.out 2).trans rfl;have hfz72_0:=bz BK286.out 0;have hfz72_1:=bz BK286.out 1;have hfz72_2:=bz BK286.out 2;have p293 : 0 ≤ (x6_1 : Int):=of_decide_eq_true (by first|(with_reducible assumption)|assumption);have q293 : x6_1 < (t282.length : Int):=of_decide_eq_true (by first|(with_reducible assumption)|assumption);obtain ⟨ad293,e293,hx293_0,hx293_1,hx293_2,hx293_3,hx293_4,hx293_5,hx293_6,hx293_7,hx293_8,hx293_9⟩:=at_T51 (Kd.R_reads' HO_287002.out).2.2 x6_1 p293 q293
                                        cases e293
                                        replace p293:=eq_true p293;replace q293:=eq_true q293;have hnb73:=NB288_273.out;have hnc73:=NB273_288.out;have hnb74:=NB288_291.out;have hnc74:=NB291_288.out;have hcz75_0 : wc.cell? ⟨gb288,0,none⟩ = some (.int .i64 x289000_30):=(bc BK288.out 0).trans rfl;have hcz75_1 : wc.cell? ⟨gb288,1,none⟩ = some (.int .i64 x289001_30):=(bc BK288.out 1).trans rfl;have hcz75_2 : wc.cell? ⟨gb288,2,none⟩ = some (.int .i64 x289002_30):=(bc BK288.out 2).trans rfl;have hfz75_0:=bz BK288.out 0;have hfz75_1:=bz BK288.out 1;have hfz75_2:=bz BK288.out 2;have p294 : 0 ≤ (x6_1 : Int):=of_decide_eq_true (by first|(with_reducible assumption)|assumption);have q294 : x6_1 < (t282.length : Int):=of_decide_eq_true (by first|(with_reducible assumption)|assumption);obtain ⟨ad294,e294,hx294_0,hx294_1,hx294_2,hx294_3,hx294_4,hx294_5,hx294_6,hx294_7,hx294_8,hx294_9⟩:=at_T51 (Kd.R_reads' HO_287002.out).2.2 x6_1 p294 q294;obtain rfl : ad293 = ad294:=(by injection e294);replace p294:=eq_true p294;replace q294:=eq_true q294;have p295 : 0 ≤ (x6_1 : Int):=of_decide_eq_true (by first|(with_reducible assumption)|assumption);have q295 : x6_1 < (t282.length : Int):=of_decide_eq_true (by first|(with_reducible assumption)|assumption);obtain ⟨ad295,e295,hx295_0,hx295_1,hx295_2,hx295_3,hx295_4,hx295_5,hx295_6,hx295_7,hx295_8,hx295_9⟩:=at_T51 (Kd.R_reads' HO_287002.out).2.2 x6_1 p295 q295;obtain rfl : ad293 = ad295:=(by injection e295);replace p295:=eq_true p295;replace q295:=eq_true q295
                                        go_wp2
                                        repeat (go_quiet (fail);try go_wp2)
                                        go_roundg kj47
                                        case measure => have:=HK1.out;have:=HJ30.out;have:=HJ47.out;omega
                                        case rel => exact ⟨(wrap64 (x6_1 + 1)),(wrap64 (x26_1 + 1)),(x289000_30),(x289001_30),(x289002_30),(by first|rfl|(simp;done)|(simp [*];done)),(by first|rfl|(simp;done)|(simp [*];done)),H',⟨by have:=HK1.out;have:=HJ30.out;have:=HJ47.out;omega⟩,⟨by (with_reducible repeat (first|apply Kd.N_alloc|apply Kd.N_drewN|apply Kd.N_drew));exact Kd.N_mono HO_287000.out (fun _ hk => ⟨hk.1,⟨hk.2.1,⟨hk.2.2.1,⟨hk.2.2.2.1,hk.2.2.2.2.1⟩⟩⟩⟩)⟩,⟨by (with_reducible repeat (first|apply Kd.R_alloc|apply Kd.R_drewN|apply Kd.R_drew));exact HO_287001.out⟩,⟨by (with_reducible repeat (first|apply Kd.R_alloc|apply Kd.R_drewN|apply Kd.R_drew));exact HO_287002.out⟩,⟨by exact BK273.out⟩,⟨by exact BK286.out⟩,⟨by exact BK288.out⟩,⟨by repeat (first|(with_reducible first|exact HB.out|apply sa|apply sn|apply sd|refine sy ?_ (by assumption))|exact HB.out)⟩⟩
                                      · rw [if_neg c68] at H
                                        have c68b0 : (((rd_T51 t282 x6_1).f6) == x289002_30) = false:=beq_eq_false_iff_ne.mpr c68;have c68b1 : (((rd_T51 t282 x6_1).f6) != x289002_30) = true:=bne_iff_ne.mpr c68;obtain rfl:=Option.some.inj H;have hnb76:=NB286_273.out;have hnc76:=NB273_286.out;have hnb77:=NB286_288.out;have hnc77:=NB288_286.out;have hnb78:=NB286_291.out;have hnc78:=NB291_286.out;have hcz79_0 : wc.cell? ⟨gb286,0,none⟩ = some (.slice Ao12 t276.length co12):=(bc BK286.out 0).trans rfl;have hcz79_1 : wc.cell? ⟨gb286,1,none⟩ = some (.slice Ao15 t279.length co15):=(bc BK286.out 1).trans rfl;have hcz79_2 : wc.cell? ⟨gb286,2,none⟩ = some (.slice Ao16 t282.length co16):=(bc BK286.out 2).trans rfl;have hfz79_0:=bz BK286.out 0;have hfz79_1:=bz BK286.out 1;have hfz79_2:=bz BK286.out 2;have p293 : 0 ≤ (x6_1 : Int):=of_decide_eq_true (by first|(with_reducible assumption)|assumption);have q293 : x6_1 < (t282.length : Int):=of_decide_eq_true (by first|(with_reducible assumption)|assumption);obtain ⟨ad293,e293,hx293_0,hx293_1,hx293_2,hx293_3,hx293_4,hx293_5,hx293_6,hx293_7,hx293_8,hx293_9⟩:=at_T51 (Kd.R_reads' HO_287002.out).2.2 x6_1 p293 q293
                                        cases e293
                                        replace p293:=eq_true p293;replace q293:=eq_true q293;have hnb80:=NB288_273.out;have hnc80:=NB273_288.out;have hnb81:=NB288_291.out;have hnc81:=NB291_288.out;have hcz82_0 : wc.cell? ⟨gb288,0,none⟩ = some (.int .i64 x289000_30):=(bc BK288.out 0).trans rfl;have hcz82_1 : wc.cell? ⟨gb288,1,none⟩ = some (.int .i64 x289001_30):=(bc BK288.out 1).trans rfl;have hcz82_2 : wc.cell? ⟨gb288,2,none⟩ = some (.int .i64 x289002_30):=(bc BK288.out 2).trans rfl;have hfz82_0:=bz BK288.out 0;have hfz82_1:=bz BK288.out 1;have hfz82_2:=bz BK288.out 2;have p294 : 0 ≤ (x6_1 : Int):=of_decide_eq_true (by first|(with_reducible assumption)|assumption);have q294 : x6_1 < (t282.length : Int):=of_decide_eq_true (by first|(with_reducible assumption)|assumption);obtain ⟨ad294,e294,hx294_0,hx294_1,hx294_2,hx294_3,hx294_4,hx294_5,hx294_6,hx294_7,hx294_8,hx294_9⟩:=at_T51 (Kd.R_reads' HO_287002.out).2.2 x6_1 p294 q294;obtain rfl : ad293 = ad294:=(by injection e294);replace p294:=eq_true p294;replace q294:=eq_true q294;have p295 : 0 ≤ (x6_1 : Int):=of_decide_eq_true (by first|(with_reducible assumption)|assumption);have q295 : x6_1 < (t282.length : Int):=of_decide_eq_true (by first|(with_reducible assumption)|assumption);obtain ⟨ad295,e295,hx295_0,hx295_1,hx295_2,hx295_3,hx295_4,hx295_5,hx295_6,hx295_7,hx295_8,hx295_9⟩:=at_T51 (Kd.R_reads' HO_287002.out).2.2 x6_1 p295 q295;obtain rfl : ad293 = ad295:=(by injection e295);replace p295:=eq_true p295;replace q295:=eq_true q295
                                        go_wp2
                                        repeat (go_quiet (fail);try go_wp2)
                                        go_ret
                                        exact ⟨by first|rfl|(simp [errW_none,errW_some] <;> rfl)|(simp [*,errW_none,errW_some] <;> rfl),by repeat (first|(with_reducible first|exact HB.out|apply sa|apply sn|apply sd|refine sy ?_ (by assumption))|exact HB.out)⟩
                                    · rw [if_neg c67] at H
                                      have c67b0 : (((rd_T51 t282 x6_1).f5) == x289001_30) = false:=beq_eq_false_iff_ne.mpr c67;have c67b1 : (((rd_T51 t282 x6_1).f5) != x289001_30) = true:=bne_iff_ne.mpr c67;obtain rfl:=Option.some.inj H;have hnb83:=NB286_273.out;have hnc83:=NB273_286.out;have hnb84:=NB286_288.out;have hnc84:=NB288_286.out;have hnb85:=NB286_291.out;have hnc85:=NB291_286.out;have hcz86_0 : wc.cell? ⟨gb286,0,none⟩ = some (.slice Ao12 t276.length co12):=(bc BK286.out 0).trans rfl;have hcz86_1 : wc.cell? ⟨gb286,1,none⟩ = some (.slice Ao15 t279.length co15):=(bc BK286.out 1).trans rfl;have hcz86_2 : wc.cell? ⟨gb286,2,none⟩ = some (.slice Ao16 t282.length co16):=(bc BK286.out 2).trans rfl;have hfz86_0:=bz BK286.out 0;have hfz86_1:=bz BK286.out 1;have hfz86_2:=bz BK286.out 2;have p293 : 0 ≤ (x6_1 : Int):=of_decide_eq_true (by first|(with_reducible assumption)|assumption);have q293 : x6_1 < (t282.length : Int):=of_decide_eq_true (by first|(with_reducible assumption)|assumption);obtain ⟨ad293,e293,hx293_0,hx293_1,hx293_2,hx293_3,hx293_4,hx293_5,hx293_6,hx293_7,hx293_8,hx293_9⟩:=at_T51 (Kd.R_reads' HO_287002.out).2.2 x6_1 p293 q293
                                      cases e293
                                      replace p293:=eq_true p293;replace q293:=eq_true q293;have hnb87:=NB288_273.out;have hnc87:=NB273_288.out;have hnb88:=NB288_291.out;have hnc88:=NB291_288.out;have hcz89_0 : wc.cell? ⟨gb288,0,none⟩ = some (.int .i64 x289000_30):=(bc BK288.out 0).trans rfl;have hcz89_1 : wc.cell? ⟨gb288,1,none⟩ = some (.int .i64 x289001_30):=(bc BK288.out 1).trans rfl;have hcz89_2 : wc.cell? ⟨gb288,2,none⟩ = some (.int .i64 x289002_30):=(bc BK288.out 2).trans rfl;have hfz89_0:=bz BK288.out 0;have hfz89_1:=bz BK288.out 1;have hfz89_2:=bz BK288.out 2;have p294 : 0 ≤ (x6_1 : Int):=of_decide_eq_true (by first|(with_reducible assumption)|assumption);have q294 : x6_1 < (t282.length : Int):=of_decide_eq_true (by first|(with_reducible assumption)|assumption);obtain ⟨ad294,e294,hx294_0,hx294_1,hx294_2,hx294_3,hx294_4,hx294_5,hx294_6,hx294_7,hx294_8,hx294_9⟩:=at_T51 (Kd.R_reads' HO_287002.out).2.2 x6_1 p294 q294;obtain rfl : ad293 = ad294:=(by injection e294);replace p294:=eq_true p294;replace q294:=eq_true q294
                                      go_wp2
                                      repeat (go_quiet (fail);try go_wp2)
                                      go_ret
                                      exact ⟨by first|rfl|(simp [errW_none,errW_some] <;> rfl)|(simp [*,errW_none,errW_some] <;> rfl),by repeat (first|(with_reducible first|exact HB.out|apply sa|apply sn|apply sd|refine sy ?_ (by assumption))|exact HB.out)⟩
                                  · rw [if_neg c66] at H
                                    have c66b0 : (((rd_T51 t282 x6_1).f4) == x289000_30) = false:=beq_eq_false_iff_ne.mpr c66;have c66b1 : (((rd_T51 t282 x6_1).f4) != x289000_30) = true:=bne_iff_ne.mpr c66;obtain rfl:=Option.some.inj H;have hnb90:=NB286_273.out;have hnc90:=NB273_286.out;have hnb91:=NB286_288.out;have hnc91:=NB288_286.out;have hnb92:=NB286_291.out;have hnc92:=NB291_286.out;have hcz93_0 : wc.cell? ⟨gb286,0,none⟩ = some (.slice Ao12 t276.length co12):=(bc BK286.out 0).trans rfl;have hcz93_1 : wc.cell? ⟨gb286,1,none⟩ = some (.slice Ao15 t279.length co15):=(bc BK286.out 1).trans rfl;have hcz93_2 : wc.cell? ⟨gb286,2,none⟩ = some (.slice Ao16 t282.length co16):=(bc BK286.out 2).trans rfl;have hfz93_0:=bz BK286.out 0;have hfz93_1:=bz BK286.out 1;have hfz93_2:=bz BK286.out 2;have p293 : 0 ≤ (x6_1 : Int):=of_decide_eq_true (by first|(with_reducible assumption)|assumption);have q293 : x6_1 < (t282.length : Int):=of_decide_eq_true (by first|(with_reducible assumption)|assumption);obtain ⟨ad293,e293,hx293_0,hx293_1,hx293_2,hx293_3,hx293_4,hx293_5,hx293_6,hx293_7,hx293_8,hx293_9⟩:=at_T51 (Kd.R_reads' HO_287002.out).2.2 x6_1 p293 q293
                                    cases e293
                                    replace p293:=eq_true p293;replace q293:=eq_true q293;have hnb94:=NB288_273.out;have hnc94:=NB273_288.out;have hnb95:=NB288_291.out;have hnc95:=NB291_288.out;have hcz96_0 : wc.cell? ⟨gb288,0,none⟩ = some (.int .i64 x289000_30):=(bc BK288.out 0).trans rfl;have hcz96_1 : wc.cell? ⟨gb288,1,none⟩ = some (.int .i64 x289001_30):=(bc BK288.out 1).trans rfl;have hcz96_2 : wc.cell? ⟨gb288,2,none⟩ = some (.int .i64 x289002_30):=(bc BK288.out 2).trans rfl;have hfz96_0:=bz BK288.out 0;have hfz96_1:=bz BK288.out 1;have hfz96_2:=bz BK288.out 2
                                    go_wp2
                                    repeat (go_quiet (fail);try go_wp2)
                                    go_ret
                                    exact ⟨by first|rfl|(simp [errW_none,errW_some] <;> rfl)|(simp [*,errW_none,errW_some] <;> rfl),by repeat (first|(with_reducible first|exact HB.out|apply sa|apply sn|apply sd|refine sy ?_ (by assumption))|exact HB.out)⟩
                                · rw [if_neg c65] at H
                                  exact absurd H (by simp)
                              · rw [if_neg c64] at H
                                exact absurd H (by simp)
                          · replace c58:=Bool.eq_false_iff.mpr c58
                            subst c58
                            have H1 : (celluloidlaw15_EdgePlain.l0 kj47 x6_1 l0_7 (l0_7.length : Int) (wrap64 (x26_1 + 1)) a0_0 a0_1 a0_2 a0_3 a0_4 l0_5 l0_6 l0_7 t276 t279 t282 x289000_30 x289001_30 x289002_30) = some r:=by rw [if_neg (show ¬ (false = true) by decide)] at H;exact H
                            clear H;have H:=H1;clear H1;have H':=am H;clear H
                            go_wp2
                            repeat (go_quiet (fail);try go_wp2)
                            go_roundg kj47
                            case measure => have:=HK1.out;have:=HJ30.out;have:=HJ47.out;omega
                            case rel => exact ⟨(x6_1),(wrap64 (x26_1 + 1)),(x289000_30),(x289001_30),(x289002_30),(by first|rfl|(simp;done)|(simp [*];done)),(by first|rfl|(simp;done)|(simp [*];done)),H',⟨by have:=HK1.out;have:=HJ30.out;have:=HJ47.out;omega⟩,⟨by (with_reducible repeat (first|apply Kd.N_alloc|apply Kd.N_drewN|apply Kd.N_drew));exact Kd.N_mono HO_287000.out (fun _ hk => ⟨hk.1,⟨hk.2.1,⟨hk.2.2.1,⟨hk.2.2.2.1,hk.2.2.2.2.1⟩⟩⟩⟩)⟩,⟨by (with_reducible repeat (first|apply Kd.R_alloc|apply Kd.R_drewN|apply Kd.R_drew));exact HO_287001.out⟩,⟨by (with_reducible repeat (first|apply Kd.R_alloc|apply Kd.R_drewN|apply Kd.R_drew));exact HO_287002.out⟩,⟨by exact BK273.out⟩,⟨by exact BK286.out⟩,⟨by exact BK288.out⟩,⟨by repeat (first|(with_reducible first|exact HB.out|apply sa|apply sn|apply sd|refine sy ?_ (by assumption))|exact HB.out)⟩⟩
              · rw [if_neg c22] at H
                exact absurd H (by simp)
            · rw [if_neg c21] at H
              exact absurd H (by simp)
          · rw [if_neg c20] at H
            have c20b0 : decide (x26_1 < (l0_7.length : Int)) = false:=decide_eq_false c20;clear c20
            by_cases c97 : x6_1 = (t282.length : Int)
            · rw [if_pos c97] at H
              have c97b0 : (x6_1 == (t282.length : Int)) = true:=beq_iff_eq.mpr c97;have c97b1 : (x6_1 != (t282.length : Int)) = false:=bne_eq_false_iff_eq.mpr c97;clear c97
              by_cases c98 : (t276.length : Int) = (l0_5.length : Int)
              · rw [if_pos c98] at H
                have c98b0 : ((t276.length : Int) == (l0_5.length : Int)) = true:=beq_iff_eq.mpr c98;have c98b1 : ((t276.length : Int) != (l0_5.length : Int)) = false:=bne_eq_false_iff_eq.mpr c98
                have c98b2 : (t276.length == l0_5.length) = true:=by first|simpa using c98|(simp at c98 ⊢;omega)
                clear c98
                by_cases c99 : (t279.length : Int) = (l0_6.length : Int)
                · rw [if_pos c99] at H
                  have c99b0 : ((t279.length : Int) == (l0_6.length : Int)) = true:=beq_iff_eq.mpr c99;have c99b1 : ((t279.length : Int) != (l0_6.length : Int)) = false:=bne_eq_false_iff_eq.mpr c99
                  have c99b2 : (t279.length == l0_6.length) = true:=by first|simpa using c99|(simp at c99 ⊢;omega)
                  clear c99;replace H:=Option.bind_eq_some_iff.mp H;obtain ⟨t289,A1000,H⟩:=H;replace H : (some t289) = some r:=H;have A100:=am A1000;clear A1000;obtain rfl:=Option.some.inj H;have hnb101:=NB286_273.out;have hnc101:=NB273_286.out;have hnb102:=NB286_288.out;have hnc102:=NB288_286.out;have hcz103_0 : wr.cell? ⟨gb286,0,none⟩ = some (.slice Ao12 t276.length co12):=(bc BK286.out 0).trans rfl;have hcz103_1 : wr.cell? ⟨gb286,1,none⟩ = some (.slice Ao15 t279.length co15):=(bc BK286.out 1).trans rfl;have hcz103_2 : wr.cell? ⟨gb286,2,none⟩ = some (.slice Ao16 t282.length co16):=(bc BK286.out 2).trans rfl;have hfz103_0:=bz BK286.out 0;have hfz103_1:=bz BK286.out 1;have hfz103_2:=bz BK286.out 2;have hnb104:=NB273_288.out;have hnc104:=NB288_273.out;have hcz105_0 : wr.cell? ⟨gb273,0,none⟩ = some (.int .i64 a0_0):=(bc BK273.out 0).trans rfl;have hcz105_1 : wr.cell? ⟨gb273,1,none⟩ = some (.int .i64 a0_1):=(bc BK273.out 1).trans rfl;have hcz105_2 : wr.cell? ⟨gb273,2,none⟩ = some (.int .i64 a0_2):=(bc BK273.out 2).trans rfl;have hcz105_3 : wr.cell? ⟨gb273,3,none⟩ = some (.int .i64 a0_3):=(bc BK273.out 3).trans rfl;have hcz105_4 : wr.cell? ⟨gb273,4,none⟩ = some (.int .i64 a0_4):=(bc BK273.out 4).trans rfl;have hcz105_5 : wr.cell? ⟨gb273,5,none⟩ = some (.slice A0_5 l0_5.length c0_5):=(bc BK273.out 5).trans rfl;have hcz105_6 : wr.cell? ⟨gb273,6,none⟩ = some (.slice A0_6 l0_6.length c0_6):=(bc BK273.out 6).trans rfl;have hcz105_7 : wr.cell? ⟨gb273,7,none⟩ = some (.slice A0_7 l0_7.length c0_7):=(bc BK273.out 7).trans rfl;have hfz105_0:=bz BK273.out 0;have hfz105_1:=bz BK273.out 1;have hfz105_2:=bz BK273.out 2;have hfz105_3:=bz BK273.out 3;have hfz105_4:=bz BK273.out 4;have hfz105_5:=bz BK273.out 5;have hfz105_6:=bz BK273.out 6;have hfz105_7:=bz BK273.out 7
                  go_wp2_with (first|(go_at_call 9;(with_reducible refine (celluloidlaw15_awake.calls k1  t289 _ A100.out).mono ?_);rintro e w106 ⟨rfl,hb⟩;replace HO_287000:=am (Kd.N_below (by (with_reducible repeat (first|apply Kd.N_alloc|apply Kd.N_drewN|apply Kd.N_drew));exact HO_287000.out) hb);replace HO_287001:=am (Kd.R_below (by (with_reducible repeat (first|apply Kd.R_alloc|apply Kd.R_drewN|apply Kd.R_drew));exact HO_287001.out) hb);replace HO_287002:=am (Kd.R_below (by (with_reducible repeat (first|apply Kd.R_alloc|apply Kd.R_drewN|apply Kd.R_drew));exact HO_287002.out) hb);replace BK273:=am (bw (by exact BK273.out) hb);replace BK286:=am (bw (by exact BK286.out) hb);replace BK288:=am (bw (by exact BK288.out) hb);replace HB:=am (ss (by repeat (first|(with_reducible first|exact HB.out|apply sa|apply sn|apply sd|refine sy ?_ (by assumption))|exact HB.out)) hb);(try clear hb);(try clear hb2);(try clear hk);(try clear hi)))
                  repeat (go_quiet (first|(go_at_call 9;(with_reducible refine (celluloidlaw15_awake.calls k1  t289 _ A100.out).mono ?_);rintro e w106 ⟨rfl,hb⟩;have n0_:=am (Kd.N_below (by (with_reducible repeat (first|apply Kd.N_alloc|apply Kd.N_drewN|apply Kd.N_drew));exact HO_287000.out) hb);have n1_:=am (Kd.R_below (by (with_reducible repeat (first|apply Kd.R_alloc|apply Kd.R_drewN|apply Kd.R_drew));exact HO_287001.out) hb);have n2_:=am (Kd.R_below (by (with_reducible repeat (first|apply Kd.R_alloc|apply Kd.R_drewN|apply Kd.R_drew));exact HO_287002.out) hb);have n3_:=am (bw (by exact BK273.out) hb);have n4_:=am (bw (by exact BK286.out) hb);have n5_:=am (bw (by exact BK288.out) hb);have n6_:=am (ss (by repeat (first|(with_reducible first|exact HB.out|apply sa|apply sn|apply sd|refine sy ?_ (by assumption))|exact HB.out)) hb);clear HO_287000;clear HO_287001;clear HO_287002;clear BK273;clear BK286;clear BK288;clear HB;have HO_287000:=n0_;have HO_287001:=n1_;have HO_287002:=n2_;have BK273:=n3_;have BK286:=n4_;have BK288:=n5_;have HB:=n6_;clear n0_ n1_ n2_ n3_ n4_ n5_ n6_;(try clear hb);(try clear hb2);(try clear hk);(try clear hi)));try go_wp2_with (first|(go_at_call 9;(with_reducible refine (celluloidlaw15_awake.calls k1  t289 _ A100.out).mono ?_);rintro e w106 ⟨rfl,hb⟩;have n0_:=am (Kd.N_below (by (with_reducible repeat (first|apply Kd.N_alloc|apply Kd.N_drewN|apply Kd.N_drew));exact HO_287000.out) hb);have n1_:=am (Kd.R_below (by (with_reducible repeat (first|apply Kd.R_alloc|apply Kd.R_drewN|apply Kd.R_drew));exact HO_287001.out) hb);have n2_:=am (Kd.R_below (by (with_reducible repeat (first|apply Kd.R_alloc|apply Kd.R_drewN|apply Kd.R_drew));exact HO_287002.out) hb);have n3_:=am (bw (by exact BK273.out) hb);have n4_:=am (bw (by exact BK286.out) hb);have n5_:=am (bw (by exact BK288.out) hb);have n6_:=am (ss (by repeat (first|(with_reducible first|exact HB.out|apply sa|apply sn|apply sd|refine sy ?_ (by assumption))|exact HB.out)) hb);clear HO_287000;clear HO_287001;clear HO_287002;clear BK273;clear BK286;clear BK288;clear HB;have HO_287000:=n0_;have HO_287001:=n1_;have HO_287002:=n2_;have BK273:=n3_;have BK286:=n4_;have BK288:=n5_;have HB:=n6_;clear n0_ n1_ n2_ n3_ n4_ n5_ n6_;(try clear hb);(try clear hb2);(try clear hk);(try clear hi))))
                  go_ret
                  exact ⟨by first|rfl|(simp [errW_none,errW_some] <;> rfl)|(simp [*,errW_none,errW_some] <;> rfl),by repeat (first|(with_reducible first|exact HB.out|apply sa|apply sn|apply sd|refine sy ?_ (by assumption))|exact HB.out)⟩
                · rw [if_neg c99] at H
                  have c99b0 : ((t279.length : Int) == (l0_6.length : Int)) = false:=beq_eq_false_iff_ne.mpr c99;have c99b1 : ((t279.length : Int) != (l0_6.length : Int)) = true:=bne_iff_ne.mpr c99
                  have c99b2 : (t279.length == l0_6.length) = false:=by first|simpa using c99|(simp at c99 ⊢;omega)
                  obtain rfl:=Option.some.inj H;have hnb107:=NB286_273.out;have hnc107:=NB273_286.out;have hnb108:=NB286_288.out;have hnc108:=NB288_286.out;have hcz109_0 : wr.cell? ⟨gb286,0,none⟩ = some (.slice Ao12 t276.length co12):=(bc BK286.out 0).trans rfl;have hcz109_1 : wr.cell? ⟨gb286,1,none⟩ = some (.slice Ao15 t279.length co15):=(bc BK286.out 1).trans rfl;have hcz109_2 : wr.cell? ⟨gb286,2,none⟩ = some (.slice Ao16 t282.length co16):=(bc BK286.out 2).trans rfl;have hfz109_0:=bz BK286.out 0;have hfz109_1:=bz BK286.out 1;have hfz109_2:=bz BK286.out 2;have hnb110:=NB273_288.out;have hnc110:=NB288_273.out;have hcz111_0 : wr.cell? ⟨gb273,0,none⟩ = some (.int .i64 a0_0):=(bc BK273.out 0).trans rfl;have hcz111_1 : wr.cell? ⟨gb273,1,none⟩ = some (.int .i64 a0_1):=(bc BK273.out 1).trans rfl;have hcz111_2 : wr.cell? ⟨gb273,2,none⟩ = some (.int .i64 a0_2):=(bc BK273.out 2).trans rfl;have hcz111_3 : wr.cell? ⟨gb273,3,none⟩ = some (.int .i64 a0_3):=(bc BK273.out 3).trans rfl;have hcz111_4 : wr.cell? ⟨gb273,4,none⟩ = some (.int .i64 a0_4):=(bc BK273.out 4).trans rfl;have hcz111_5 : wr.cell? ⟨gb273,5,none⟩ = some (.slice A0_5 l0_5.length c0_5):=(bc BK273.out 5).trans rfl;have hcz111_6 : wr.cell? ⟨gb273,6,none⟩ = some (.slice A0_6 l0_6.length c0_6):=(bc BK273.out 6).trans rfl;have hcz111_7 : wr.cell? ⟨gb273,7,none⟩ = some (.slice A0_7 l0_7.length c0_7):=(bc BK273.out 7).trans rfl;have hfz111_0:=bz BK273.out 0;have hfz111_1:=bz BK273.out 1;have hfz111_2:=bz BK273.out 2;have hfz111_3:=bz BK273.out 3;have hfz111_4:=bz BK273.out 4;have hfz111_5:=bz BK273.out 5;have hfz111_6:=bz BK273.out 6;have hfz111_7:=bz BK273.out 7
                  go_wp2
                  repeat (go_quiet (fail);try go_wp2)
                  go_ret
                  exact ⟨by first|rfl|(simp [errW_none,errW_some] <;> rfl)|(simp [*,errW_none,errW_some] <;> rfl),by repeat (first|(with_reducible first|exact HB.out|apply sa|apply sn|apply sd|refine sy ?_ (by assumption))|exact HB.out)⟩
              · rw [if_neg c98] at H
                have c98b0 : ((t276.length : Int) == (l0_5.length : Int)) = false:=beq_eq_false_iff_ne.mpr c98;have c98b1 : ((t276.length : Int) != (l0_5.length : Int)) = true:=bne_iff_ne.mpr c98
                have c98b2 : (t276.length == l0_5.length) = false:=by first|simpa using c98|(simp at c98 ⊢;omega)
                obtain rfl:=Option.some.inj H;have hnb112:=NB286_273.out;have hnc112:=NB273_286.out;have hnb113:=NB286_288.out;have hnc113:=NB288_286.out;have hcz114_0 : wr.cell? ⟨gb286,0,none⟩ = some (.slice Ao12 t276.length co12):=(bc BK286.out 0).trans rfl;have hcz114_1 : wr.cell? ⟨gb286,1,none⟩ = some (.slice Ao15 t279.length co15):=(bc BK286.out 1).trans rfl;have hcz114_2 : wr.cell? ⟨gb286,2,none⟩ = some (.slice Ao16 t282.length co16):=(bc BK286.out 2).trans rfl;have hfz114_0:=bz BK286.out 0;have hfz114_1:=bz BK286.out 1;have hfz114_2:=bz BK286.out 2;have hnb115:=NB273_288.out;have hnc115:=NB288_273.out;have hcz116_0 : wr.cell? ⟨gb273,0,none⟩ = some (.int .i64 a0_0):=(bc BK273.out 0).trans rfl;have hcz116_1 : wr.cell? ⟨gb273,1,none⟩ = some (.int .i64 a0_1):=(bc BK273.out 1).trans rfl;have hcz116_2 : wr.cell? ⟨gb273,2,none⟩ = some (.int .i64 a0_2):=(bc BK273.out 2).trans rfl;have hcz116_3 : wr.cell? ⟨gb273,3,none⟩ = some (.int .i64 a0_3):=(bc BK273.out 3).trans rfl;have hcz116_4 : wr.cell? ⟨gb273,4,none⟩ = some (.int .i64 a0_4):=(bc BK273.out 4).trans rfl;have hcz116_5 : wr.cell? ⟨gb273,5,none⟩ = some (.slice A0_5 l0_5.length c0_5):=(bc BK273.out 5).trans rfl;have hcz116_6 : wr.cell? ⟨gb273,6,none⟩ = some (.slice A0_6 l0_6.length c0_6):=(bc BK273.out 6).trans rfl;have hcz116_7 : wr.cell? ⟨gb273,7,none⟩ = some (.slice A0_7 l0_7.length c0_7):=(bc BK273.out 7).trans rfl;have hfz116_0:=bz BK273.out 0;have hfz116_1:=bz BK273.out 1;have hfz116_2:=bz BK273.out 2;have hfz116_3:=bz BK273.out 3;have hfz116_4:=bz BK273.out 4;have hfz116_5:=bz BK273.out 5;have hfz116_6:=bz BK273.out 6;have hfz116_7:=bz BK273.out 7
                go_wp2
                repeat (go_quiet (fail);try go_wp2)
                go_ret
                exact ⟨by first|rfl|(simp [errW_none,errW_some] <;> rfl)|(simp [*,errW_none,errW_some] <;> rfl),by repeat (first|(with_reducible first|exact HB.out|apply sa|apply sn|apply sd|refine sy ?_ (by assumption))|exact HB.out)⟩
            · rw [if_neg c97] at H
              have c97b0 : (x6_1 == (t282.length : Int)) = false:=beq_eq_false_iff_ne.mpr c97;have c97b1 : (x6_1 != (t282.length : Int)) = true:=bne_iff_ne.mpr c97;obtain rfl:=Option.some.inj H;have hnb117:=NB286_273.out;have hnc117:=NB273_286.out;have hnb118:=NB286_288.out;have hnc118:=NB288_286.out;have hcz119_0 : wr.cell? ⟨gb286,0,none⟩ = some (.slice Ao12 t276.length co12):=(bc BK286.out 0).trans rfl;have hcz119_1 : wr.cell? ⟨gb286,1,none⟩ = some (.slice Ao15 t279.length co15):=(bc BK286.out 1).trans rfl;have hcz119_2 : wr.cell? ⟨gb286,2,none⟩ = some (.slice Ao16 t282.length co16):=(bc BK286.out 2).trans rfl;have hfz119_0:=bz BK286.out 0;have hfz119_1:=bz BK286.out 1;have hfz119_2:=bz BK286.out 2
              go_wp2
              repeat (go_quiet (fail);try go_wp2)
              go_ret
              exact ⟨by first|rfl|(simp [errW_none,errW_some] <;> rfl)|(simp [*,errW_none,errW_some] <;> rfl),by repeat (first|(with_reducible first|exact HB.out|apply sa|apply sn|apply sd|refine sy ?_ (by assumption))|exact HB.out)⟩
    focus
      rw [if_neg c5] at H;have c5b0 : (t285 == 0) = false:=beq_eq_false_iff_ne.mpr c5;have c5b1 : (t285 != 0) = true:=bne_iff_ne.mpr c5;replace H:=Option.bind_eq_some_iff.mp H;obtain ⟨t287,A1200,H⟩:=H;replace H : (some t287) = some r:=H;have A120:=am A1200;clear A1200;obtain rfl:=Option.some.inj H
  rotate_left
  focus
    replace c3:=Bool.eq_false_iff.mpr c3;subst c3
    have H1 : ((celluloidlaw15_awake.f k).bind fun t275 => (some t275)) = some r:=by rw [if_neg (show ¬ (false = true) by decide)] at H;exact H
    clear H;have H:=H1;clear H1;replace H:=Option.bind_eq_some_iff.mp H;obtain ⟨t275,A1330,H⟩:=H;replace H : (some t275) = some r:=H;have A133:=am A1330;clear A1330;obtain rfl:=Option.some.inj H
  all_goals
    go_enter Try.func6,Try.ntmps6
    go_wp2_with (first|((with_reducible refine gate_dst (N:=1) rfl ?_);(try (refine gate_guard (by rfl) ?_;dsimp only));refine box_event ?hg (N:=1) ?hd (cs:=#[.int .i64 a0_0,.int .i64 a0_1,.int .i64 a0_2,.int .i64 a0_3,.int .i64 a0_4,.slice A0_5 l0_5.length c0_5,.slice A0_6 l0_6.length c0_6,.slice A0_7 l0_7.length c0_7]) (t:=28) ?hr ?_;(case hd => rfl);(case hg => rfl);(case hr => first|(go_simp;done)|(go_simp;rfl));intro gbz1 hg wz1 hbox hb;have nz1_:=am (ss (by repeat (first|(with_reducible first|exact HB.out|apply sa|apply sn|apply sd)|exact HB.out)) hb);have nz2_:=am (hbox);have nz3_:=am ((by rw [hg];exact (sz (by repeat (first|(with_reducible first|exact HB.out|apply sa|apply sn|apply sd)|exact HB.out))) : w.heap.size ≤ gbz1));have nz4_:=am ((by rw [hg];exact (sz (by repeat (first|(with_reducible first|exact HB.out|apply sa|apply sn|apply sd)|exact HB.out))) : w.heap.size ≤ gbz1));clear HB;have HB:=nz1_;have BKz1:=nz2_;have GWz1:=nz3_;have GEz1:=nz4_;clear nz1_ nz2_ nz3_ nz4_;clear hb hbox hg;have hczz1_0 : wz1.cell? ⟨gbz1,0,none⟩ = some (.int .i64 a0_0):=(bc BKz1.out 0).trans rfl;have hczz1_1 : wz1.cell? ⟨gbz1,1,none⟩ = some (.int .i64 a0_1):=(bc BKz1.out 1).trans rfl;have hczz1_2 : wz1.cell? ⟨gbz1,2,none⟩ = some (.int .i64 a0_2):=(bc BKz1.out 2).trans rfl;have hczz1_3 : wz1.cell? ⟨gbz1,3,none⟩ = some (.int .i64 a0_3):=(bc BKz1.out 3).trans rfl;have hczz1_4 : wz1.cell? ⟨gbz1,4,none⟩ = some (.int .i64 a0_4):=(bc BKz1.out 4).trans rfl;have hczz1_5 : wz1.cell? ⟨gbz1,5,none⟩ = some (.slice A0_5 l0_5.length c0_5):=(bc BKz1.out 5).trans rfl;have hczz1_6 : wz1.cell? ⟨gbz1,6,none⟩ = some (.slice A0_6 l0_6.length c0_6):=(bc BKz1.out 6).trans rfl;have hczz1_7 : wz1.cell? ⟨gbz1,7,none⟩ = some (.slice A0_7 l0_7.length c0_7):=(bc BKz1.out 7).trans rfl;have hfzz1_0:=bz BKz1.out 0;have hfzz1_1:=bz BKz1.out 1;have hfzz1_2:=bz BKz1.out 2;have hfzz1_3:=bz BKz1.out 3;have hfzz1_4:=bz BKz1.out 4;have hfzz1_5:=bz BKz1.out 5;have hfzz1_6:=bz BKz1.out 6;have hfzz1_7:=bz BKz1.out 7)|(go_at_call 8;(with_reducible refine (celluloidlaw15_small.calls k a0_0 a0_1 a0_2 a0_3 a0_4 _ _ l0_5 _ _ l0_6 _ _ l0_7 true _ ?side1 ?side2 ?side3 ?side4 ?side5 ?side6 A2.out).mono ?_);(case side1 => repeat (first|exact (Kd.C_below HR0_5.out HB.out)|(with_reducible refine Kd.C_alloc ?_ _)|(with_reducible refine Kd.C_drewN ?_ _)|(with_reducible refine Kd.C_drew ?_)));(case side2 => exact HC0_5.out);(case side3 => repeat (first|exact (Kd.C_below HR0_6.out HB.out)|(with_reducible refine Kd.C_alloc ?_ _)|(with_reducible refine Kd.C_drewN ?_ _)|(with_reducible refine Kd.C_drew ?_)));(case side4 => exact HC0_6.out);(case side5 => repeat (first|exact (Kd.C_below HR0_7.out HB.out)|(with_reducible refine Kd.C_alloc ?_ _)|(with_reducible refine Kd.C_drewN ?_ _)|(with_reducible refine Kd.C_drew ?_)));(case side6 => exact HC0_7.out);rintro e wz2 ⟨rfl,hb⟩;have nz1_:=am (bw (by exact BKz1.out) hb);have nz2_:=am (ss (by repeat (first|(with_reducible first|exact HB.out|apply sa|apply sn|apply sd|refine sx ?_ GEz1.out)|exact HB.out)) hb);clear BKz1;clear HB;have BKz1:=nz1_;have HB:=nz2_;clear nz1_ nz2_;(try clear hb);(try clear hb2);(try clear hk);(try clear hi);have hczz2_0 : wz2.cell? ⟨gbz1,0,none⟩ = some (.int .i64 a0_0):=(bc BKz1.out 0).trans rfl;have hczz2_1 : wz2.cell? ⟨gbz1,1,none⟩ = some (.int .i64 a0_1):=(bc BKz1.out 1).trans rfl;have hczz2_2 : wz2.cell? ⟨gbz1,2,none⟩ = some (.int .i64 a0_2):=(bc BKz1.out 2).trans rfl;have hczz2_3 : wz2.cell? ⟨gbz1,3,none⟩ = some (.int .i64 a0_3):=(bc BKz1.out 3).trans rfl;have hczz2_4 : wz2.cell? ⟨gbz1,4,none⟩ = some (.int .i64 a0_4):=(bc BKz1.out 4).trans rfl;have hczz2_5 : wz2.cell? ⟨gbz1,5,none⟩ = some (.slice A0_5 l0_5.length c0_5):=(bc BKz1.out 5).trans rfl;have hczz2_6 : wz2.cell? ⟨gbz1,6,none⟩ = some (.slice A0_6 l0_6.length c0_6):=(bc BKz1.out 6).trans rfl;have hczz2_7 : wz2.cell? ⟨gbz1,7,none⟩ = some (.slice A0_7 l0_7.length c0_7):=(bc BKz1.out 7).trans rfl;have hfzz2_0:=bz BKz1.out 0;have hfzz2_1:=bz BKz1.out 1;have hfzz2_2:=bz BKz1.out 2;have hfzz2_3:=bz BKz1.out 3;have hfzz2_4:=bz BKz1.out 4;have hfzz2_5:=bz BKz1.out 5;have hfzz2_6:=bz BKz1.out 6;have hfzz2_7:=bz BKz1.out 7)|(go_at_call 10;(with_reducible refine (edge_Of.calls k a0_0 a0_1 a0_2 a0_3 a0_4 (fun k_ => k_ < w.heap.size) _ _ l0_5 _ _ l0_6 (fun k_ => k_ < w.heap.size) _ _ l0_7 t276 t279 t282 t285 _ ?side1 ?side2 ?side3 ?side4 A4.out).mono ?_);(case side1 => exact Kd.V_mk HC0_5.out (Kd.F_below (Kd.C_F k65_heap HR0_5.out) (by repeat (first|(with_reducible first|exact HB.out|apply sa|apply sn|apply sd|refine sx ?_ GEz1.out)|exact HB.out))));(case side2 => repeat (first|exact (Kd.C_below HR0_6.out HB.out)|(with_reducible refine Kd.C_alloc ?_ _)|(with_reducible refine Kd.C_drewN ?_ _)|(with_reducible refine Kd.C_drew ?_)));(case side3 => exact HC0_6.out);(case side4 => exact Kd.V_mk HC0_7.out (Kd.F_below (Kd.C_F k49_heap HR0_7.out) (by repeat (first|(with_reducible first|exact HB.out|apply sa|apply sn|apply sd|refine sx ?_ GEz1.out)|exact HB.out))));rintro e wz3 ⟨vz1,vz2,vz3,rfl,hoz1,hoz2,hoz3,hb⟩;have nz1_:=am (Kd.N_lower (Kd.N_mono (ok':=fun k_ => some k_ ≠ (vz2 : Value).ownBlock ∧ some k_ ≠ (vz3 : Value).ownBlock ∧ k_ ≠ gbz1) hoz1 (fun k_ hk_ => ⟨hk_.2.1,hk_.2.2,Or.elim hk_.1 (fun hs_ => Or.elim hs_ (fun hs_ => fun e_ => Nat.not_le.2 hs_ (by rw [e_];exact GWz1.out)) (fun hs_ => fun e_ => Nat.not_le.2 hs_ (by rw [e_];exact GWz1.out))) (fun hn_ => (Kd.freshB (g:=gbz1) (o:=.cells #[.int .i64 a0_0,.int .i64 a0_1,.int .i64 a0_2,.int .i64 a0_3,.int .i64 a0_4,.slice A0_5 l0_5.length c0_5,.slice A0_6 l0_6.length c0_6,.slice A0_7 l0_7.length c0_7] 28 (0,0)) (by exact BKz1.out) k_ hn_))⟩)) (sz (by repeat (first|(with_reducible first|exact HB.out|apply sa|apply sn|apply sd|refine sx ?_ GEz1.out)|exact HB.out))));have nz2_:=am (Kd.R_lower (Kd.R_mono (ok':=fun k_ => True) hoz2 (fun _ hk_ => trivial)) (sz (by repeat (first|(with_reducible first|exact HB.out|apply sa|apply sn|apply sd|refine sx ?_ GEz1.out)|exact HB.out))));have nz3_:=am (Kd.R_lower (Kd.R_mono (ok':=fun k_ => True) hoz3 (fun _ hk_ => trivial)) (sz (by repeat (first|(with_reducible first|exact HB.out|apply sa|apply sn|apply sd|refine sx ?_ GEz1.out)|exact HB.out))));have nz4_:=am (bw (by exact BKz1.out) hb);have nz5_:=am (ss (by repeat (first|(with_reducible first|exact HB.out|apply sa|apply sn|apply sd|refine sx ?_ GEz1.out)|exact HB.out)) hb);clear BKz1;clear HB;have HOz1:=nz1_;have HOz2:=nz2_;have HOz3:=nz3_;have BKz1:=nz4_;have HB:=nz5_;clear nz1_ nz2_ nz3_ nz4_ nz5_;(try clear hb);(try clear hb2);(try clear hk);(try clear hi);(try clear hoz1);(try clear hoz2);(try clear hoz3))|((with_reducible refine gate_dst (N:=3) rfl ?_);(try (refine gate_guard (by rfl) ?_;dsimp only));refine box_event ?hg (N:=3) ?hd (cs:=#[.slice none 0 0,.slice none 0 0,.slice none 0 0]) (t:=33) ?hr ?_;(case hd => rfl);(case hg => rfl);(case hr => first|(go_simp;done)|(go_simp;rfl));intro gbz2 hg wz4 hbox hb;have nz1_:=am (nE (by (with_reducible repeat (first|apply Kd.N_alloc|apply Kd.N_drewN|apply Kd.N_drew));exact HOz1.out) hg hb);have nz2_:=am (Kd.R_below (by (with_reducible repeat (first|apply Kd.R_alloc|apply Kd.R_drewN|apply Kd.R_drew));exact HOz2.out) hb);have nz3_:=am (Kd.R_below (by (with_reducible repeat (first|apply Kd.R_alloc|apply Kd.R_drewN|apply Kd.R_drew));exact HOz3.out) hb);have nz4_:=am (bw (by exact BKz1.out) hb);have nz5_:=am (ss (by repeat (first|(with_reducible first|exact HB.out|apply sa|apply sn|apply sd|refine sx ?_ GEz1.out)|exact HB.out)) hb);have nz6_:=am (hbox);have nz7_:=am ((by rw [hg];exact (sz (by repeat (first|(with_reducible first|exact HB.out|apply sa|apply sn|apply sd|refine sx ?_ GEz1.out)|exact HB.out))) : w.heap.size ≤ gbz2));have nz8_:=am ((by rw [hg];exact (sz (by repeat (first|(with_reducible first|exact HB.out|apply sa|apply sn|apply sd|refine sx ?_ GEz1.out)|exact HB.out))) : w.heap.size ≤ gbz2));have nz9_:=nb (by exact BKz1.out) hg;have nz10_:=ng (by exact BKz1.out) hg;clear HOz1;clear HOz2;clear HOz3;clear BKz1;clear HB;have HOz1:=nz1_;have HOz2:=nz2_;have HOz3:=nz3_;have BKz1:=nz4_;have HB:=nz5_;have BKz2:=nz6_;have GWz2:=nz7_;have GEz2:=nz8_;have NBz1_286:=nz9_;have NBz2_273:=nz10_;clear nz1_ nz2_ nz3_ nz4_ nz5_ nz6_ nz7_ nz8_ nz9_ nz10_;clear hb hbox hg;obtain ⟨Aoz1,coz1,eoz1⟩:=Kd.N_slice HOz1.out;subst eoz1;have hnbz1:=NBz2_273.out;have hncz1:=NBz1_286.out;have hczz3_0 : wz4.cell? ⟨gbz2,0,none⟩ = some (.slice none 0 0):=(bc BKz2.out 0).trans rfl;have hczz3_1 : wz4.cell? ⟨gbz2,1,none⟩ = some (.slice none 0 0):=(bc BKz2.out 1).trans rfl;have hczz3_2 : wz4.cell? ⟨gbz2,2,none⟩ = some (.slice none 0 0):=(bc BKz2.out 2).trans rfl;have hfzz3_0:=bz BKz2.out 0;have hfzz3_1:=bz BKz2.out 1;have hfzz3_2:=bz BKz2.out 2;obtain ⟨Aoz2,coz2,eoz2⟩:=Kd.R_slice HOz2.out;subst eoz2;obtain ⟨Aoz3,coz3,eoz3⟩:=Kd.R_slice HOz3.out;subst eoz3)|(go_at_call 9;(with_reducible refine (celluloidlaw15_awake.calls k  t287 _ A120.out).mono ?_);rintro e wz5 ⟨rfl,hb⟩;have nz1_:=am (Kd.N_below (by (with_reducible repeat (first|apply Kd.N_alloc|apply Kd.N_drewN|apply Kd.N_drew));exact (nm (nf (nf (nf (np HOz1.out)))))) hb);have nz2_:=am (Kd.R_below (by (with_reducible repeat (first|apply Kd.R_alloc|apply Kd.R_drewN|apply Kd.R_drew));exact (rm (rf (rf (rf (Kd.R_types HOz2.out BKz2.out (by decide))))))) hb);have nz3_:=am (Kd.R_below (by (with_reducible repeat (first|apply Kd.R_alloc|apply Kd.R_drewN|apply Kd.R_drew));exact (rm (rf (rf (rf (Kd.R_types HOz3.out BKz2.out (by decide))))))) hb);have nz4_:=am (wz BKz1.out (by (with_reducible repeat (first|refine bn ?_ _|refine bd ?_|refine ba ?_ _|refine bf ?_ NBz1_286.out _));exact BKz1.out) hb);have nz5_:=am (bw (g:=gbz2) (o:=.cells #[.slice Aoz1 t276.length coz1,.slice Aoz2 t279.length coz2,.slice Aoz3 t282.length coz3] 33 (0,0)) (bp (bp (bp BKz2.out 0 _ rfl) 1 _ rfl) 2 _ rfl) hb);have nz6_:=am (ss (by repeat (first|(with_reducible first|exact HB.out|apply sa|apply sn|apply sd|refine sx ?_ GEz1.out|refine sx ?_ GEz2.out)|exact HB.out)) hb);clear HOz1;clear HOz2;clear HOz3;clear BKz1;clear BKz2;clear HB;have HOz1:=nz1_;have HOz2:=nz2_;have HOz3:=nz3_;have BKz1:=nz4_;have BKz2:=nz5_;have HB:=nz6_;clear nz1_ nz2_ nz3_ nz4_ nz5_ nz6_;(try clear hb);(try clear hb2);(try clear hk);(try clear hi))|(go_at_call 8;(with_reducible refine (celluloidlaw15_small.calls k a0_0 a0_1 a0_2 a0_3 a0_4 _ _ l0_5 _ _ l0_6 _ _ l0_7 false _ ?side1 ?side2 ?side3 ?side4 ?side5 ?side6 A2.out).mono ?_);(case side1 => repeat (first|exact (Kd.C_below HR0_5.out HB.out)|(with_reducible refine Kd.C_alloc ?_ _)|(with_reducible refine Kd.C_drewN ?_ _)|(with_reducible refine Kd.C_drew ?_)));(case side2 => exact HC0_5.out);(case side3 => repeat (first|exact (Kd.C_below HR0_6.out HB.out)|(with_reducible refine Kd.C_alloc ?_ _)|(with_reducible refine Kd.C_drewN ?_ _)|(with_reducible refine Kd.C_drew ?_)));(case side4 => exact HC0_6.out);(case side5 => repeat (first|exact (Kd.C_below HR0_7.out HB.out)|(with_reducible refine Kd.C_alloc ?_ _)|(with_reducible refine Kd.C_drewN ?_ _)|(with_reducible refine Kd.C_drew ?_)));(case side6 => exact HC0_7.out);rintro e wz2 ⟨rfl,hb⟩;have nz1_:=am (bw (by exact BKz1.out) hb);have nz2_:=am (ss (by repeat (first|(with_reducible first|exact HB.out|apply sa|apply sn|apply sd|refine sx ?_ GEz1.out)|exact HB.out)) hb);clear BKz1;clear HB;have BKz1:=nz1_;have HB:=nz2_;clear nz1_ nz2_;(try clear hb);(try clear hb2);(try clear hk);(try clear hi))|(go_at_call 9;(with_reducible refine (celluloidlaw15_awake.calls k  t275 _ A133.out).mono ?_);rintro e wz3 ⟨rfl,hb⟩;have nz1_:=am (bw (by exact BKz1.out) hb);have nz2_:=am (ss (by repeat (first|(with_reducible first|exact HB.out|apply sa|apply sn|apply sd|refine sx ?_ GEz1.out)|exact HB.out)) hb);clear BKz1;clear HB;have BKz1:=nz1_;have HB:=nz2_;clear nz1_ nz2_;(try clear hb);(try clear hb2);(try clear hk);(try clear hi)))
    repeat (go_quiet (first|((with_reducible refine gate_dst (N:=1) rfl ?_);(try (refine gate_guard (by rfl) ?_;dsimp only));refine box_event ?hg (N:=1) ?hd (cs:=#[.int .i64 a0_0,.int .i64 a0_1,.int .i64 a0_2,.int .i64 a0_3,.int .i64 a0_4,.slice A0_5 l0_5.length c0_5,.slice A0_6 l0_6.length c0_6,.slice A0_7 l0_7.length c0_7]) (t:=28) ?hr ?_;(case hd => rfl);(case hg => rfl);(case hr => first|(go_simp;done)|(go_simp;rfl));intro gbz1 hg wz1 hbox hb;have nz1_:=am (ss (by repeat (first|(with_reducible first|exact HB.out|apply sa|apply sn|apply sd)|exact HB.out)) hb);have nz2_:=am (hbox);have nz3_:=am ((by rw [hg];exact (sz (by repeat (first|(with_reducible first|exact HB.out|apply sa|apply sn|apply sd)|exact HB.out))) : w.heap.size ≤ gbz1));have nz4_:=am ((by rw [hg];exact (sz (by repeat (first|(with_reducible first|exact HB.out|apply sa|apply sn|apply sd)|exact HB.out))) : w.heap.size ≤ gbz1));clear HB;have HB:=nz1_;have BKz1:=nz2_;have GWz1:=nz3_;have GEz1:=nz4_;clear nz1_ nz2_ nz3_ nz4_;clear hb hbox hg;have hczz1_0 : wz1.cell? ⟨gbz1,0,none⟩ = some (.int .i64 a0_0):=(bc BKz1.out 0).trans rfl;have hczz1_1 : wz1.cell? ⟨gbz1,1,none⟩ = some (.int .i64 a0_1):=(bc BKz1.out 1).trans rfl;have hczz1_2 : wz1.cell? ⟨gbz1,2,none⟩ = some (.int .i64 a0_2):=(bc BKz1.out 2).trans rfl;have hczz1_3 : wz1.cell? ⟨gbz1,3,none⟩ = some (.int .i64 a0_3):=(bc BKz1.out 3).trans rfl;have hczz1_4 : wz1.cell? ⟨gbz1,4,none⟩ = some (.int .i64 a0_4):=(bc BKz1.out 4).trans rfl;have hczz1_5 : wz1.cell? ⟨gbz1,5,none⟩ = some (.slice A0_5 l0_5.length c0_5):=(bc BKz1.out 5).trans rfl;have hczz1_6 : wz1.cell? ⟨gbz1,6,none⟩ = some (.slice A0_6 l0_6.length c0_6):=(bc BKz1.out 6).trans rfl;have hczz1_7 : wz1.cell? ⟨gbz1,7,none⟩ = some (.slice A0_7 l0_7.length c0_7):=(bc BKz1.out 7).trans rfl;have hfzz1_0:=bz BKz1.out 0;have hfzz1_1:=bz BKz1.out 1;have hfzz1_2:=bz BKz1.out 2;have hfzz1_3:=bz BKz1.out 3;have hfzz1_4:=bz BKz1.out 4;have hfzz1_5:=bz BKz1.out 5;have hfzz1_6:=bz BKz1.out 6;have hfzz1_7:=bz BKz1.out 7)|(go_at_call 8;(with_reducible refine (celluloidlaw15_small.calls k a0_0 a0_1 a0_2 a0_3 a0_4 _ _ l0_5 _ _ l0_6 _ _ l0_7 true _ ?side1 ?side2 ?side3 ?side4 ?side5 ?side6 A2.out).mono ?_);(case side1 => repeat (first|exact (Kd.C_below HR0_5.out HB.out)|(with_reducible refine Kd.C_alloc ?_ _)|(with_reducible refine Kd.C_drewN ?_ _)|(with_reducible refine Kd.C_drew ?_)));(case side2 => exact HC0_5.out);(case side3 => repeat (first|exact (Kd.C_below HR0_6.out HB.out)|(with_reducible refine Kd.C_alloc ?_ _)|(with_reducible refine Kd.C_drewN ?_ _)|(with_reducible refine Kd.C_drew ?_)));(case side4 => exact HC0_6.out);(case side5 => repeat (first|exact (Kd.C_below HR0_7.out HB.out)|(with_reducible refine Kd.C_alloc ?_ _)|(with_reducible refine Kd.C_drewN ?_ _)|(with_reducible refine Kd.C_drew ?_)));(case side6 => exact HC0_7.out);rintro e wz2 ⟨rfl,hb⟩;have nz1_:=am (bw (by exact BKz1.out) hb);have nz2_:=am (ss (by repeat (first|(with_reducible first|exact HB.out|apply sa|apply sn|apply sd|refine sx ?_ GEz1.out)|exact HB.out)) hb);clear BKz1;clear HB;have BKz1:=nz1_;have HB:=nz2_;clear nz1_ nz2_;(try clear hb);(try clear hb2);(try clear hk);(try clear hi);have hczz2_0 : wz2.cell? ⟨gbz1,0,none⟩ = some (.int .i64 a0_0):=(bc BKz1.out 0).trans rfl;have hczz2_1 : wz2.cell? ⟨gbz1,1,none⟩ = some (.int .i64 a0_1):=(bc BKz1.out 1).trans rfl;have hczz2_2 : wz2.cell? ⟨gbz1,2,none⟩ = some (.int .i64 a0_2):=(bc BKz1.out 2).trans rfl;have hczz2_3 : wz2.cell? ⟨gbz1,3,none⟩ = some (.int .i64 a0_3):=(bc BKz1.out 3).trans rfl;have hczz2_4 : wz2.cell? ⟨gbz1,4,none⟩ = some (.int .i64 a0_4):=(bc BKz1.out 4).trans rfl;have hczz2_5 : wz2.cell? ⟨gbz1,5,none⟩ = some (.slice A0_5 l0_5.length c0_5):=(bc BKz1.out 5).trans rfl;have hczz2_6 : wz2.cell? ⟨gbz1,6,none⟩ = some (.slice A0_6 l0_6.length c0_6):=(bc BKz1.out 6).trans rfl;have hczz2_7 : wz2.cell? ⟨gbz1,7,none⟩ = some (.slice A0_7 l0_7.length c0_7):=(bc BKz1.out 7).trans rfl;have hfzz2_0:=bz BKz1.out 0;have hfzz2_1:=bz BKz1.out 1;have hfzz2_2:=bz BKz1.out 2;have hfzz2_3:=bz BKz1.out 3;have hfzz2_4:=bz BKz1.out 4;have hfzz2_5:=bz BKz1.out 5;have hfzz2_6:=bz BKz1.out 6;have hfzz2_7:=bz BKz1.out 7)|(go_at_call 10;(with_reducible refine (edge_Of.calls k a0_0 a0_1 a0_2 a0_3 a0_4 (fun k_ => k_ < w.heap.size) _ _ l0_5 _ _ l0_6 (fun k_ => k_ < w.heap.size) _ _ l0_7 t276 t279 t282 t285 _ ?side1 ?side2 ?side3 ?side4 A4.out).mono ?_);(case side1 => exact Kd.V_mk HC0_5.out (Kd.F_below (Kd.C_F k65_heap HR0_5.out) (by repeat (first|(with_reducible first|exact HB.out|apply sa|apply sn|apply sd|refine sx ?_ GEz1.out)|exact HB.out))));(case side2 => repeat (first|exact (Kd.C_below HR0_6.out HB.out)|(with_reducible refine Kd.C_alloc ?_ _)|(with_reducible refine Kd.C_drewN ?_ _)|(with_reducible refine Kd.C_drew ?_)));(case side3 => exact HC0_6.out);(case side4 => exact Kd.V_mk HC0_7.out (Kd.F_below (Kd.C_F k49_heap HR0_7.out) (by repeat (first|(with_reducible first|exact HB.out|apply sa|apply sn|apply sd|refine sx ?_ GEz1.out)|exact HB.out))));rintro e wz3 ⟨vz1,vz2,vz3,rfl,hoz1,hoz2,hoz3,hb⟩;have nz1_:=am (Kd.N_lower (Kd.N_mono (ok':=fun k_ => some k_ ≠ (vz2 : Value).ownBlock ∧ some k_ ≠ (vz3 : Value).ownBlock ∧ k_ ≠ gbz1) hoz1 (fun k_ hk_ => ⟨hk_.2.1,hk_.2.2,Or.elim hk_.1 (fun hs_ => Or.elim hs_ (fun hs_ => fun e_ => Nat.not_le.2 hs_ (by rw [e_];exact GWz1.out)) (fun hs_ => fun e_ => Nat.not_le.2 hs_ (by rw [e_];exact GWz1.out))) (fun hn_ => (Kd.freshB (g:=gbz1) (o:=.cells #[.int .i64 a0_0,.int .i64 a0_1,.int .i64 a0_2,.int .i64 a0_3,.int .i64 a0_4,.slice A0_5 l0_5.length c0_5,.slice A0_6 l0_6.length c0_6,.slice A0_7 l0_7.length c0_7] 28 (0,0)) (by exact BKz1.out) k_ hn_))⟩)) (sz (by repeat (first|(with_reducible first|exact HB.out|apply sa|apply sn|apply sd|refine sx ?_ GEz1.out)|exact HB.out))));have nz2_:=am (Kd.R_lower (Kd.R_mono (ok':=fun k_ => True) hoz2 (fun _ hk_ => trivial)) (sz (by repeat (first|(with_reducible first|exact HB.out|apply sa|apply sn|apply sd|refine sx ?_ GEz1.out)|exact HB.out))));have nz3_:=am (Kd.R_lower (Kd.R_mono (ok':=fun k_ => True) hoz3 (fun _ hk_ => trivial)) (sz (by repeat (first|(with_reducible first|exact HB.out|apply sa|apply sn|apply sd|refine sx ?_ GEz1.out)|exact HB.out))));have nz4_:=am (bw (by exact BKz1.out) hb);have nz5_:=am (ss (by repeat (first|(with_reducible first|exact HB.out|apply sa|apply sn|apply sd|refine sx ?_ GEz1.out)|exact HB.out)) hb);clear BKz1;clear HB;have HOz1:=nz1_;have HOz2:=nz2_;have HOz3:=nz3_;have BKz1:=nz4_;have HB:=nz5_;clear nz1_ nz2_ nz3_ nz4_ nz5_;(try clear hb);(try clear hb2);(try clear hk);(try clear hi);(try clear hoz1);(try clear hoz2);(try clear hoz3))|((with_reducible refine gate_dst (N:=3) rfl ?_);(try (refine gate_guard (by rfl) ?_;dsimp only));refine box_event ?hg (N:=3) ?hd (cs:=#[.slice none 0 0,.slice none 0 0,.slice none 0 0]) (t:=33) ?hr ?_;(case hd => rfl);(case hg => rfl);(case hr => first|(go_simp;done)|(go_simp;rfl));intro gbz2 hg wz4 hbox hb;have nz1_:=am (nE (by (with_reducible repeat (first|apply Kd.N_alloc|apply Kd.N_drewN|apply Kd.N_drew));exact HOz1.out) hg hb);have nz2_:=am (Kd.R_below (by (with_reducible repeat (first|apply Kd.R_alloc|apply Kd.R_drewN|apply Kd.R_drew));exact HOz2.out) hb);have nz3_:=am (Kd.R_below (by (with_reducible repeat (first|apply Kd.R_alloc|apply Kd.R_drewN|apply Kd.R_drew));exact HOz3.out) hb);have nz4_:=am (bw (by exact BKz1.out) hb);have nz5_:=am (ss (by repeat (first|(with_reducible first|exact HB.out|apply sa|apply sn|apply sd|refine sx ?_ GEz1.out)|exact HB.out)) hb);have nz6_:=am (hbox);have nz7_:=am ((by rw [hg];exact (sz (by repeat (first|(with_reducible first|exact HB.out|apply sa|apply sn|apply sd|refine sx ?_ GEz1.out)|exact HB.out))) : w.heap.size ≤ gbz2));have nz8_:=am ((by rw [hg];exact (sz (by repeat (first|(with_reducible first|exact HB.out|apply sa|apply sn|apply sd|refine sx ?_ GEz1.out)|exact HB.out))) : w.heap.size ≤ gbz2));have nz9_:=nb (by exact BKz1.out) hg;have nz10_:=ng (by exact BKz1.out) hg;clear HOz1;clear HOz2;clear HOz3;clear BKz1;clear HB;have HOz1:=nz1_;have HOz2:=nz2_;have HOz3:=nz3_;have BKz1:=nz4_;have HB:=nz5_;have BKz2:=nz6_;have GWz2:=nz7_;have GEz2:=nz8_;have NBz1_286:=nz9_;have NBz2_273:=nz10_;clear nz1_ nz2_ nz3_ nz4_ nz5_ nz6_ nz7_ nz8_ nz9_ nz10_;clear hb hbox hg;obtain ⟨Aoz1,coz1,eoz1⟩:=Kd.N_slice HOz1.out;subst eoz1;have hnbz1:=NBz2_273.out;have hncz1:=NBz1_286.out;have hczz3_0 : wz4.cell? ⟨gbz2,0,none⟩ = some (.slice none 0 0):=(bc BKz2.out 0).trans rfl;have hczz3_1 : wz4.cell? ⟨gbz2,1,none⟩ = some (.slice none 0 0):=(bc BKz2.out 1).trans rfl;have hczz3_2 : wz4.cell? ⟨gbz2,2,none⟩ = some (.slice none 0 0):=(bc BKz2.out 2).trans rfl;have hfzz3_0:=bz BKz2.out 0;have hfzz3_1:=bz BKz2.out 1;have hfzz3_2:=bz BKz2.out 2;obtain ⟨Aoz2,coz2,eoz2⟩:=Kd.R_slice HOz2.out;subst eoz2;obtain ⟨Aoz3,coz3,eoz3⟩:=Kd.R_slice HOz3.out;subst eoz3)|(go_at_call 9;(with_reducible refine (celluloidlaw15_awake.calls k  t287 _ A120.out).mono ?_);rintro e wz5 ⟨rfl,hb⟩;have nz1_:=am (Kd.N_below (by (with_reducible repeat (first|apply Kd.N_alloc|apply Kd.N_drewN|apply Kd.N_drew));exact (nm (nf (nf (nf (np HOz1.out)))))) hb);have nz2_:=am (Kd.R_below (by (with_reducible repeat (first|apply Kd.R_alloc|apply Kd.R_drewN|apply Kd.R_drew));exact (rm (rf (rf (rf (Kd.R_types HOz2.out BKz2.out (by decide))))))) hb);have nz3_:=am (Kd.R_below (by (with_reducible repeat (first|apply Kd.R_alloc|apply Kd.R_drewN|apply Kd.R_drew));exact (rm (rf (rf (rf (Kd.R_types HOz3.out BKz2.out (by decide))))))) hb);have nz4_:=am (wz BKz1.out (by (with_reducible repeat (first|refine bn ?_ _|refine bd ?_|refine ba ?_ _|refine bf ?_ NBz1_286.out _));exact BKz1.out) hb);have nz5_:=am (bw (g:=gbz2) (o:=.cells #[.slice Aoz1 t276.length coz1,.slice Aoz2 t279.length coz2,.slice Aoz3 t282.length coz3] 33 (0,0)) (bp (bp (bp BKz2.out 0 _ rfl) 1 _ rfl) 2 _ rfl) hb);have nz6_:=am (ss (by repeat (first|(with_reducible first|exact HB.out|apply sa|apply sn|apply sd|refine sx ?_ GEz1.out|refine sx ?_ GEz2.out)|exact HB.out)) hb);clear HOz1;clear HOz2;clear HOz3;clear BKz1;clear BKz2;clear HB;have HOz1:=nz1_;have HOz2:=nz2_;have HOz3:=nz3_;have BKz1:=nz4_;have BKz2:=nz5_;have HB:=nz6_;clear nz1_ nz2_ nz3_ nz4_ nz5_ nz6_;(try clear hb);(try clear hb2);(try clear hk);(try clear hi))|(go_at_call 8;(with_reducible refine (celluloidlaw15_small.calls k a0_0 a0_1 a0_2 a0_3 a0_4 _ _ l0_5 _ _ l0_6 _ _ l0_7 false _ ?side1 ?side2 ?side3 ?side4 ?side5 ?side6 A2.out).mono ?_);(case side1 => repeat (first|exact (Kd.C_below HR0_5.out HB.out)|(with_reducible refine Kd.C_alloc ?_ _)|(with_reducible refine Kd.C_drewN ?_ _)|(with_reducible refine Kd.C_drew ?_)));(case side2 => exact HC0_5.out);(case side3 => repeat (first|exact (Kd.C_below HR0_6.out HB.out)|(with_reducible refine Kd.C_alloc ?_ _)|(with_reducible refine Kd.C_drewN ?_ _)|(with_reducible refine Kd.C_drew ?_)));(case side4 => exact HC0_6.out);(case side5 => repeat (first|exact (Kd.C_below HR0_7.out HB.out)|(with_reducible refine Kd.C_alloc ?_ _)|(with_reducible refine Kd.C_drewN ?_ _)|(with_reducible refine Kd.C_drew ?_)));(case side6 => exact HC0_7.out);rintro e wz2 ⟨rfl,hb⟩;have nz1_:=am (bw (by exact BKz1.out) hb);have nz2_:=am (ss (by repeat (first|(with_reducible first|exact HB.out|apply sa|apply sn|apply sd|refine sx ?_ GEz1.out)|exact HB.out)) hb);clear BKz1;clear HB;have BKz1:=nz1_;have HB:=nz2_;clear nz1_ nz2_;(try clear hb);(try clear hb2);(try clear hk);(try clear hi))|(go_at_call 9;(with_reducible refine (celluloidlaw15_awake.calls k  t275 _ A133.out).mono ?_);rintro e wz3 ⟨rfl,hb⟩;have nz1_:=am (bw (by exact BKz1.out) hb);have nz2_:=am (ss (by repeat (first|(with_reducible first|exact HB.out|apply sa|apply sn|apply sd|refine sx ?_ GEz1.out)|exact HB.out)) hb);clear BKz1;clear HB;have BKz1:=nz1_;have HB:=nz2_;clear nz1_ nz2_;(try clear hb);(try clear hb2);(try clear hk);(try clear hi)));go_wp2_with (first|((with_reducible refine gate_dst (N:=1) rfl ?_);(try (refine gate_guard (by rfl) ?_;dsimp only));refine box_event ?hg (N:=1) ?hd (cs:=#[.int .i64 a0_0,.int .i64 a0_1,.int .i64 a0_2,.int .i64 a0_3,.int .i64 a0_4,.slice A0_5 l0_5.length c0_5,.slice A0_6 l0_6.length c0_6,.slice A0_7 l0_7.length c0_7]) (t:=28) ?hr ?_;(case hd => rfl);(case hg => rfl);(case hr => first|(go_simp;done)|(go_simp;rfl));intro gbz1 hg wz1 hbox hb;have nz1_:=am (ss (by repeat (first|(with_reducible first|exact HB.out|apply sa|apply sn|apply sd)|exact HB.out)) hb);have nz2_:=am (hbox);have nz3_:=am ((by rw [hg];exact (sz (by repeat (first|(with_reducible first|exact HB.out|apply sa|apply sn|apply sd)|exact HB.out))) : w.heap.size ≤ gbz1));have nz4_:=am ((by rw [hg];exact (sz (by repeat (first|(with_reducible first|exact HB.out|apply sa|apply sn|apply sd)|exact HB.out))) : w.heap.size ≤ gbz1));clear HB;have HB:=nz1_;have BKz1:=nz2_;have GWz1:=nz3_;have GEz1:=nz4_;clear nz1_ nz2_ nz3_ nz4_;clear hb hbox hg;have hczz1_0 : wz1.cell? ⟨gbz1,0,none⟩ = some (.int .i64 a0_0):=(bc BKz1.out 0).trans rfl;have hczz1_1 : wz1.cell? ⟨gbz1,1,none⟩ = some (.int .i64 a0_1):=(bc BKz1.out 1).trans rfl;have hczz1_2 : wz1.cell? ⟨gbz1,2,none⟩ = some (.int .i64 a0_2):=(bc BKz1.out 2).trans rfl;have hczz1_3 : wz1.cell? ⟨gbz1,3,none⟩ = some (.int .i64 a0_3):=(bc BKz1.out 3).trans rfl;have hczz1_4 : wz1.cell? ⟨gbz1,4,none⟩ = some (.int .i64 a0_4):=(bc BKz1.out 4).trans rfl;have hczz1_5 : wz1.cell? ⟨gbz1,5,none⟩ = some (.slice A0_5 l0_5.length c0_5):=(bc BKz1.out 5).trans rfl;have hczz1_6 : wz1.cell? ⟨gbz1,6,none⟩ = some (.slice A0_6 l0_6.length c0_6):=(bc BKz1.out 6).trans rfl;have hczz1_7 : wz1.cell? ⟨gbz1,7,none⟩ = some (.slice A0_7 l0_7.length c0_7):=(bc BKz1.out 7).trans rfl;have hfzz1_0:=bz BKz1.out 0;have hfzz1_1:=bz BKz1.out 1;have hfzz1_2:=bz BKz1.out 2;have hfzz1_3:=bz BKz1.out 3;have hfzz1_4:=bz BKz1.out 4;have hfzz1_5:=bz BKz1.out 5;have hfzz1_6:=bz BKz1.out 6;have hfzz1_7:=bz BKz1.out 7)|(go_at_call 8;(with_reducible refine (celluloidlaw15_small.calls k a0_0 a0_1 a0_2 a0_3 a0_4 _ _ l0_5 _ _ l0_6 _ _ l0_7 true _ ?side1 ?side2 ?side3 ?side4 ?side5 ?side6 A2.out).mono ?_);(case side1 => repeat (first|exact (Kd.C_below HR0_5.out HB.out)|(with_reducible refine Kd.C_alloc ?_ _)|(with_reducible refine Kd.C_drewN ?_ _)|(with_reducible refine Kd.C_drew ?_)));(case side2 => exact HC0_5.out);(case side3 => repeat (first|exact (Kd.C_below HR0_6.out HB.out)|(with_reducible refine Kd.C_alloc ?_ _)|(with_reducible refine Kd.C_drewN ?_ _)|(with_reducible refine Kd.C_drew ?_)));(case side4 => exact HC0_6.out);(case side5 => repeat (first|exact (Kd.C_below HR0_7.out HB.out)|(with_reducible refine Kd.C_alloc ?_ _)|(with_reducible refine Kd.C_drewN ?_ _)|(with_reducible refine Kd.C_drew ?_)));(case side6 => exact HC0_7.out);rintro e wz2 ⟨rfl,hb⟩;have nz1_:=am (bw (by exact BKz1.out) hb);have nz2_:=am (ss (by repeat (first|(with_reducible first|exact HB.out|apply sa|apply sn|apply sd|refine sx ?_ GEz1.out)|exact HB.out)) hb);clear BKz1;clear HB;have BKz1:=nz1_;have HB:=nz2_;clear nz1_ nz2_;(try clear hb);(try clear hb2);(try clear hk);(try clear hi);have hczz2_0 : wz2.cell? ⟨gbz1,0,none⟩ = some (.int .i64 a0_0):=(bc BKz1.out 0).trans rfl;have hczz2_1 : wz2.cell? ⟨gbz1,1,none⟩ = some (.int .i64 a0_1):=(bc BKz1.out 1).trans rfl;have hczz2_2 : wz2.cell? ⟨gbz1,2,none⟩ = some (.int .i64 a0_2):=(bc BKz1.out 2).trans rfl;have hczz2_3 : wz2.cell? ⟨gbz1,3,none⟩ = some (.int .i64 a0_3):=(bc BKz1.out 3).trans rfl;have hczz2_4 : wz2.cell? ⟨gbz1,4,none⟩ = some (.int .i64 a0_4):=(bc BKz1.out 4).trans rfl;have hczz2_5 : wz2.cell? ⟨gbz1,5,none⟩ = some (.slice A0_5 l0_5.length c0_5):=(bc BKz1.out 5).trans rfl;have hczz2_6 : wz2.cell? ⟨gbz1,6,none⟩ = some (.slice A0_6 l0_6.length c0_6):=(bc BKz1.out 6).trans rfl;have hczz2_7 : wz2.cell? ⟨gbz1,7,none⟩ = some (.slice A0_7 l0_7.length c0_7):=(bc BKz1.out 7).trans rfl;have hfzz2_0:=bz BKz1.out 0;have hfzz2_1:=bz BKz1.out 1;have hfzz2_2:=bz BKz1.out 2;have hfzz2_3:=bz BKz1.out 3;have hfzz2_4:=bz BKz1.out 4;have hfzz2_5:=bz BKz1.out 5;have hfzz2_6:=bz BKz1.out 6;have hfzz2_7:=bz BKz1.out 7)|(go_at_call 10;(with_reducible refine (edge_Of.calls k a0_0 a0_1 a0_2 a0_3 a0_4 (fun k_ => k_ < w.heap.size) _ _ l0_5 _ _ l0_6 (fun k_ => k_ < w.heap.size) _ _ l0_7 t276 t279 t282 t285 _ ?side1 ?side2 ?side3 ?side4 A4.out).mono ?_);(case side1 => exact Kd.V_mk HC0_5.out (Kd.F_below (Kd.C_F k65_heap HR0_5.out) (by repeat (first|(with_reducible first|exact HB.out|apply sa|apply sn|apply sd|refine sx ?_ GEz1.out)|exact HB.out))));(case side2 => repeat (first|exact (Kd.C_below HR0_6.out HB.out)|(with_reducible refine Kd.C_alloc ?_ _)|(with_reducible refine Kd.C_drewN ?_ _)|(with_reducible refine Kd.C_drew ?_)));(case side3 => exact HC0_6.out);(case side4 => exact Kd.V_mk HC0_7.out (Kd.F_below (Kd.C_F k49_heap HR0_7.out) (by repeat (first|(with_reducible first|exact HB.out|apply sa|apply sn|apply sd|refine sx ?_ GEz1.out)|exact HB.out))));rintro e wz3 ⟨vz1,vz2,vz3,rfl,hoz1,hoz2,hoz3,hb⟩;have nz1_:=am (Kd.N_lower (Kd.N_mono (ok':=fun k_ => some k_ ≠ (vz2 : Value).ownBlock ∧ some k_ ≠ (vz3 : Value).ownBlock ∧ k_ ≠ gbz1) hoz1 (fun k_ hk_ => ⟨hk_.2.1,hk_.2.2,Or.elim hk_.1 (fun hs_ => Or.elim hs_ (fun hs_ => fun e_ => Nat.not_le.2 hs_ (by rw [e_];exact GWz1.out)) (fun hs_ => fun e_ => Nat.not_le.2 hs_ (by rw [e_];exact GWz1.out))) (fun hn_ => (Kd.freshB (g:=gbz1) (o:=.cells #[.int .i64 a0_0,.int .i64 a0_1,.int .i64 a0_2,.int .i64 a0_3,.int .i64 a0_4,.slice A0_5 l0_5.length c0_5,.slice A0_6 l0_6.length c0_6,.slice A0_7 l0_7.length c0_7] 28 (0,0)) (by exact BKz1.out) k_ hn_))⟩)) (sz (by repeat (first|(with_reducible first|exact HB.out|apply sa|apply sn|apply sd|refine sx ?_ GEz1.out)|exact HB.out))));have nz2_:=am (Kd.R_lower (Kd.R_mono (ok':=fun k_ => True) hoz2 (fun _ hk_ => trivial)) (sz (by repeat (first|(with_reducible first|exact HB.out|apply sa|apply sn|apply sd|refine sx ?_ GEz1.out)|exact HB.out))));have nz3_:=am (Kd.R_lower (Kd.R_mono (ok':=fun k_ => True) hoz3 (fun _ hk_ => trivial)) (sz (by repeat (first|(with_reducible first|exact HB.out|apply sa|apply sn|apply sd|refine sx ?_ GEz1.out)|exact HB.out))));have nz4_:=am (bw (by exact BKz1.out) hb);have nz5_:=am (ss (by repeat (first|(with_reducible first|exact HB.out|apply sa|apply sn|apply sd|refine sx ?_ GEz1.out)|exact HB.out)) hb);clear BKz1;clear HB;have HOz1:=nz1_;have HOz2:=nz2_;have HOz3:=nz3_;have BKz1:=nz4_;have HB:=nz5_;clear nz1_ nz2_ nz3_ nz4_ nz5_;(try clear hb);(try clear hb2);(try clear hk);(try clear hi);(try clear hoz1);(try clear hoz2);(try clear hoz3))|((with_reducible refine gate_dst (N:=3) rfl ?_);(try (refine gate_guard (by rfl) ?_;dsimp only));refine box_event ?hg (N:=3) ?hd (cs:=#[.slice none 0 0,.slice none 0 0,.slice none 0 0]) (t:=33) ?hr ?_;(case hd => rfl);(case hg => rfl);(case hr => first|(go_simp;done)|(go_simp;rfl));intro gbz2 hg wz4 hbox hb;have nz1_:=am (nE (by (with_reducible repeat (first|apply Kd.N_alloc|apply Kd.N_drewN|apply Kd.N_drew));exact HOz1.out) hg hb);have nz2_:=am (Kd.R_below (by (with_reducible repeat (first|apply Kd.R_alloc|apply Kd.R_drewN|apply Kd.R_drew));exact HOz2.out) hb);have nz3_:=am (Kd.R_below (by (with_reducible repeat (first|apply Kd.R_alloc|apply Kd.R_drewN|apply Kd.R_drew));exact HOz3.out) hb);have nz4_:=am (bw (by exact BKz1.out) hb);have nz5_:=am (ss (by repeat (first|(with_reducible first|exact HB.out|apply sa|apply sn|apply sd|refine sx ?_ GEz1.out)|exact HB.out)) hb);have nz6_:=am (hbox);have nz7_:=am ((by rw [hg];exact (sz (by repeat (first|(with_reducible first|exact HB.out|apply sa|apply sn|apply sd|refine sx ?_ GEz1.out)|exact HB.out))) : w.heap.size ≤ gbz2));have nz8_:=am ((by rw [hg];exact (sz (by repeat (first|(with_reducible first|exact HB.out|apply sa|apply sn|apply sd|refine sx ?_ GEz1.out)|exact HB.out))) : w.heap.size ≤ gbz2));have nz9_:=nb (by exact BKz1.out) hg;have nz10_:=ng (by exact BKz1.out) hg;clear HOz1;clear HOz2;clear HOz3;clear BKz1;clear HB;have HOz1:=nz1_;have HOz2:=nz2_;have HOz3:=nz3_;have BKz1:=nz4_;have HB:=nz5_;have BKz2:=nz6_;have GWz2:=nz7_;have GEz2:=nz8_;have NBz1_286:=nz9_;have NBz2_273:=nz10_;clear nz1_ nz2_ nz3_ nz4_ nz5_ nz6_ nz7_ nz8_ nz9_ nz10_;clear hb hbox hg;obtain ⟨Aoz1,coz1,eoz1⟩:=Kd.N_slice HOz1.out;subst eoz1;have hnbz1:=NBz2_273.out;have hncz1:=NBz1_286.out;have hczz3_0 : wz4.cell? ⟨gbz2,0,none⟩ = some (.slice none 0 0):=(bc BKz2.out 0).trans rfl;have hczz3_1 : wz4.cell? ⟨gbz2,1,none⟩ = some (.slice none 0 0):=(bc BKz2.out 1).trans rfl;have hczz3_2 : wz4.cell? ⟨gbz2,2,none⟩ = some (.slice none 0 0):=(bc BKz2.out 2).trans rfl;have hfzz3_0:=bz BKz2.out 0;have hfzz3_1:=bz BKz2.out 1;have hfzz3_2:=bz BKz2.out 2;obtain ⟨Aoz2,coz2,eoz2⟩:=Kd.R_slice HOz2.out;subst eoz2;obtain ⟨Aoz3,coz3,eoz3⟩:=Kd.R_slice HOz3.out;subst eoz3)|(go_at_call 9;(with_reducible refine (celluloidlaw15_awake.calls k  t287 _ A120.out).mono ?_);rintro e wz5 ⟨rfl,hb⟩;have nz1_:=am (Kd.N_below (by (with_reducible repeat (first|apply Kd.N_alloc|apply Kd.N_drewN|apply Kd.N_drew));exact (nm (nf (nf (nf (np HOz1.out)))))) hb);have nz2_:=am (Kd.R_below (by (with_reducible repeat (first|apply Kd.R_alloc|apply Kd.R_drewN|apply Kd.R_drew));exact (rm (rf (rf (rf (Kd.R_types HOz2.out BKz2.out (by decide))))))) hb);have nz3_:=am (Kd.R_below (by (with_reducible repeat (first|apply Kd.R_alloc|apply Kd.R_drewN|apply Kd.R_drew));exact (rm (rf (rf (rf (Kd.R_types HOz3.out BKz2.out (by decide))))))) hb);have nz4_:=am (wz BKz1.out (by (with_reducible repeat (first|refine bn ?_ _|refine bd ?_|refine ba ?_ _|refine bf ?_ NBz1_286.out _));exact BKz1.out) hb);have nz5_:=am (bw (g:=gbz2) (o:=.cells #[.slice Aoz1 t276.length coz1,.slice Aoz2 t279.length coz2,.slice Aoz3 t282.length coz3] 33 (0,0)) (bp (bp (bp BKz2.out 0 _ rfl) 1 _ rfl) 2 _ rfl) hb);have nz6_:=am (ss (by repeat (first|(with_reducible first|exact HB.out|apply sa|apply sn|apply sd|refine sx ?_ GEz1.out|refine sx ?_ GEz2.out)|exact HB.out)) hb);clear HOz1;clear HOz2;clear HOz3;clear BKz1;clear BKz2;clear HB;have HOz1:=nz1_;have HOz2:=nz2_;have HOz3:=nz3_;have BKz1:=nz4_;have BKz2:=nz5_;have HB:=nz6_;clear nz1_ nz2_ nz3_ nz4_ nz5_ nz6_;(try clear hb);(try clear hb2);(try clear hk);(try clear hi))|(go_at_call 8;(with_reducible refine (celluloidlaw15_small.calls k a0_0 a0_1 a0_2 a0_3 a0_4 _ _ l0_5 _ _ l0_6 _ _ l0_7 false _ ?side1 ?side2 ?side3 ?side4 ?side5 ?side6 A2.out).mono ?_);(case side1 => repeat (first|exact (Kd.C_below HR0_5.out HB.out)|(with_reducible refine Kd.C_alloc ?_ _)|(with_reducible refine Kd.C_drewN ?_ _)|(with_reducible refine Kd.C_drew ?_)));(case side2 => exact HC0_5.out);(case side3 => repeat (first|exact (Kd.C_below HR0_6.out HB.out)|(with_reducible refine Kd.C_alloc ?_ _)|(with_reducible refine Kd.C_drewN ?_ _)|(with_reducible refine Kd.C_drew ?_)));(case side4 => exact HC0_6.out);(case side5 => repeat (first|exact (Kd.C_below HR0_7.out HB.out)|(with_reducible refine Kd.C_alloc ?_ _)|(with_reducible refine Kd.C_drewN ?_ _)|(with_reducible refine Kd.C_drew ?_)));(case side6 => exact HC0_7.out);rintro e wz2 ⟨rfl,hb⟩;have nz1_:=am (bw (by exact BKz1.out) hb);have nz2_:=am (ss (by repeat (first|(with_reducible first|exact HB.out|apply sa|apply sn|apply sd|refine sx ?_ GEz1.out)|exact HB.out)) hb);clear BKz1;clear HB;have BKz1:=nz1_;have HB:=nz2_;clear nz1_ nz2_;(try clear hb);(try clear hb2);(try clear hk);(try clear hi))|(go_at_call 9;(with_reducible refine (celluloidlaw15_awake.calls k  t275 _ A133.out).mono ?_);rintro e wz3 ⟨rfl,hb⟩;have nz1_:=am (bw (by exact BKz1.out) hb);have nz2_:=am (ss (by repeat (first|(with_reducible first|exact HB.out|apply sa|apply sn|apply sd|refine sx ?_ GEz1.out)|exact HB.out)) hb);clear BKz1;clear HB;have BKz1:=nz1_;have HB:=nz2_;clear nz1_ nz2_;(try clear hb);(try clear hb2);(try clear hk);(try clear hi))))
    go_ret
    exact ⟨by first|rfl|(simp [errW_none,errW_some] <;> rfl)|(simp [*,errW_none,errW_some] <;> rfl),by repeat (first|(with_reducible first|exact HB.out|apply sa|apply sn|apply sd|refine sx ?_ GEz1.out|refine sx ?_ GEz2.out)|exact HB.out)⟩

end Go.Proofs.Ytlldbmodidhidaa.P
