/- Printed by printx.py (wip/tool) out of the translation: plain functions that tell what the program answers,and the proofs that the program comes to these answers,for all arguments of their kinds. Lean checks it. -/
import Derived.Test.YtnofihkmgedbfaaShort
import Derived.Test.YtnofihkmgedbfaaPx0
import Derived.Test.YtnofihkmgedbfaaPx3
import Derived.Test.YtnofihkmgedbfaaPx5
namespace Go.Proofs.Ytnofihkmgedbfaa.P
open Go.RowKit Go.Proofs.YtnofihkmgedbfaaW.PrintWords Go.Proofs.YtnofihkmgedbfaaW.PrintLast Go.Proofs.YtnofihkmgedbfaaW.PrintMore
attribute [local go_sem] max2_int min2_int max_two min_two max_three min_three max_four min_four max_five min_five max_six min_six   -- for this text's walks alone
set_option linter.unusedVariables false
set_option linter.unusedSimpArgs false

/-! ### fix_narrowed: function 55 -/
def fix_narrowed.f (a0 : Int) (a1 : Bool) : Option (Bool):=if a1 = true then (some (decide (a0 ≤ 9223372036854775808))) else (some (decide (a0 ≤ 9223372036854775807)))
set_option maxHeartbeats 8000000 in
set_option maxRecDepth 100000 in
theorem fix_narrowed.calls (a0 : Int) (a1 : Bool) (r : Bool) (w : World) (h : fix_narrowed.f a0 a1 = some r) :
    Calls Try.prog 55 #[.int .u64 a0,.bool a1] w fun e w' => e = .returned (.bool r) ∧ Drawn0 w w':=by
  have H : (if a1 = true then (some (decide (a0 ≤ 9223372036854775808))) else (some (decide (a0 ≤ 9223372036854775807)))) = some r:=h;clear h
  by_cases c3 : a1 = true
  · subst c3
    have H1 : (some (decide (a0 ≤ 9223372036854775808))) = some r:=by rw [if_pos rfl] at H;exact H
    clear H;have H:=H1;clear H1;obtain rfl:=Option.some.inj H
    go_enter Try.func55,Try.ntmps55
    go_wp2
    go_ret
    exact ⟨by first|rfl|(simp;done)|(simp [*];done),by repeat (first|exact Drawn0.refl _|apply Drawn0.step)⟩
  · replace c3:=Bool.eq_false_iff.mpr c3
    subst c3
    have H1 : (some (decide (a0 ≤ 9223372036854775807))) = some r:=by rw [if_neg (show ¬ (false = true) by decide)] at H;exact H
    clear H;have H:=H1;clear H1;obtain rfl:=Option.some.inj H
    go_enter Try.func55,Try.ntmps55
    go_wp2
    go_ret
    exact ⟨by first|rfl|(simp;done)|(simp [*];done),by repeat (first|exact Drawn0.refl _|apply Drawn0.step)⟩

/-! ### fix_MulDiv: function 50 -/
def fix_MulDiv.j0 : Nat → Int → Int → Bool → Option (Int × Bool)
  | 0,_,_,_ => none
  | k + 1,x12,x13,x47 => if x47 = true then ((fix_narrowed.f x12 false).bind fun t222 => (if t222 = true then (some (wrap64 (x12),true)) else (some (0,false)))) else (if x13 > 0 then (if (IntKind.u64.wrap (x12 + 1)) = 0 then (some (0,false)) else ((fix_narrowed.f (IntKind.u64.wrap (x12 + 1)) true).bind fun t223 => (if t223 = true then (some (wrap64 (IntKind.u64.wrap (-(IntKind.u64.wrap (x12 + 1)))),true)) else (some (0,false))))) else ((fix_narrowed.f x12 true).bind fun t224 => (if t224 = true then (some (wrap64 (IntKind.u64.wrap (-x12)),true)) else (some (0,false)))))
def fix_MulDiv.f (k : Nat) (a0 : Int) (a1 : Int) (a2 : Int) : Option (Int × Bool):=if a2 = 0 then (some (0,false)) else ((fix_times.f a0 a1).bind fun bt214 => ((fix_wide_abs.f bt214.1 bt214.2).bind fun bt216 => ((fix_size.f a2).bind fun t219 => (if bt216.1 ≥ t219 then (some (0,false)) else ((bits_Div64.f k bt216.1 bt216.2.1 t219).bind fun bt220 => (if (bt216.2.2 == (decide (a2 < 0))) = true then (fix_MulDiv.j0 k bt220.1 bt220.2 true) else (if bt220.1 = 0 then (fix_MulDiv.j0 k bt220.1 bt220.2 (bt220.2 == 0)) else (fix_MulDiv.j0 k bt220.1 bt220.2 false))))))))
theorem fix_MulDiv.mono_l : ∀ k,(∀ y0 y1 y2,LeO (fix_MulDiv.j0 k y0 y1 y2) (fix_MulDiv.j0 (k + 1) y0 y1 y2))
  | 0 => fun _ _ _ r h => by simp [fix_MulDiv.j0] at h
  | k + 1 => by
    have ih0:=fix_MulDiv.mono_l k
    · intro y0 y1 y2
      unfold fix_MulDiv.j0
      repeat' first
      | (with_reducible exact ih0 _ _ _)
      | (with_reducible exact bits_Div64.mono _ _ _ _)
      | (with_reducible exact LeO.refl _)
      | (with_reducible exact LeO.none _)
      | (with_reducible refine LeO.ite ?_ ?_)
      | (with_reducible refine LeO.bind ?_ (fun _ => ?_))
      | exact ih0 _ _ _
      | exact bits_Div64.mono _ _ _ _
      | exact LeO.none _
      | refine LeO.ite ?_ ?_
      | refine LeO.bind ?_ (fun _ => ?_)
theorem fix_MulDiv.mono : ∀ a0 a1 a2 k,LeO (fix_MulDiv.f k a0 a1 a2) (fix_MulDiv.f (k + 1) a0 a1 a2):=by
  intro a0 a1 a2 k
  have ih0:=fix_MulDiv.mono_l k
  unfold fix_MulDiv.f
  repeat' first
      | (with_reducible exact ih0 _ _ _)
      | (with_reducible exact bits_Div64.mono _ _ _ _)
      | (with_reducible exact LeO.refl _)
      | (with_reducible exact LeO.none _)
      | (with_reducible refine LeO.ite ?_ ?_)
      | (with_reducible refine LeO.bind ?_ (fun _ => ?_))
      | exact ih0 _ _ _
      | exact bits_Div64.mono _ _ _ _
      | exact LeO.none _
      | refine LeO.ite ?_ ?_
      | refine LeO.bind ?_ (fun _ => ?_)
set_option maxHeartbeats 8000000 in
set_option maxRecDepth 100000 in
theorem fix_MulDiv.calls (k : Nat) (a0 : Int) (a1 : Int) (a2 : Int) (r1 : Int) (r2 : Bool) (w : World) (h : fix_MulDiv.f k a0 a1 a2 = some (r1,r2)) :
    Calls Try.prog 50 #[.int .i64 a0,.int .i64 a1,.int .i64 a2] w fun e w' => e = .returned (.tuple #[.int .i64 r1,.bool r2]) ∧ Below w.heap.size w w':=by
  have HB:=am (Below.refl w.heap.size w);have H : (if a2 = 0 then (some (0,false)) else ((fix_times.f a0 a1).bind fun bt214 => ((fix_wide_abs.f bt214.1 bt214.2).bind fun bt216 => ((fix_size.f a2).bind fun t219 => (if bt216.1 ≥ t219 then (some (0,false)) else ((bits_Div64.f k bt216.1 bt216.2.1 t219).bind fun bt220 => (if (bt216.2.2 == (decide (a2 < 0))) = true then (fix_MulDiv.j0 k bt220.1 bt220.2 true) else (if bt220.1 = 0 then (fix_MulDiv.j0 k bt220.1 bt220.2 (bt220.2 == 0)) else (fix_MulDiv.j0 k bt220.1 bt220.2 false))))))))) = some (r1,r2):=h;clear h
  by_cases c4 : a2 = 0
  · rw [if_pos c4] at H
    have c4b0 : (a2 == 0) = true:=beq_iff_eq.mpr c4;have c4b1 : (a2 != 0) = false:=bne_eq_false_iff_eq.mpr c4;clear c4;simp only [Option.some.injEq,Prod.mk.injEq] at H;obtain ⟨rfl,rfl⟩:=H
    go_enter Try.func50,Try.ntmps50
    go_wp2
    go_ret2
    exact ⟨by first|rfl|(simp [errW_none,errW_some] <;> rfl)|(simp [*,errW_none,errW_some] <;> rfl),by repeat (first|(with_reducible first|exact HB.out|apply sa|apply sn|apply sd)|exact HB.out)⟩
  · rw [if_neg c4] at H
    have c4b0 : (a2 == 0) = false:=beq_eq_false_iff_ne.mpr c4;have c4b1 : (a2 != 0) = true:=bne_iff_ne.mpr c4;replace H:=Option.bind_eq_some_iff.mp H;obtain ⟨⟨t214,t215⟩,A50,H⟩:=H;replace H : ((fix_wide_abs.f t214 t215).bind fun bt216 => ((fix_size.f a2).bind fun t219 => (if bt216.1 ≥ t219 then (some (0,false)) else ((bits_Div64.f k bt216.1 bt216.2.1 t219).bind fun bt220 => (if (bt216.2.2 == (decide (a2 < 0))) = true then (fix_MulDiv.j0 k bt220.1 bt220.2 true) else (if bt220.1 = 0 then (fix_MulDiv.j0 k bt220.1 bt220.2 (bt220.2 == 0)) else (fix_MulDiv.j0 k bt220.1 bt220.2 false))))))) = some (r1,r2):=H;have A5:=am A50;clear A50;replace H:=Option.bind_eq_some_iff.mp H;obtain ⟨⟨t216,t217,t218⟩,A60,H⟩:=H;replace H : ((fix_size.f a2).bind fun t219 => (if t216 ≥ t219 then (some (0,false)) else ((bits_Div64.f k t216 t217 t219).bind fun bt220 => (if (t218 == (decide (a2 < 0))) = true then (fix_MulDiv.j0 k bt220.1 bt220.2 true) else (if bt220.1 = 0 then (fix_MulDiv.j0 k bt220.1 bt220.2 (bt220.2 == 0)) else (fix_MulDiv.j0 k bt220.1 bt220.2 false)))))) = some (r1,r2):=H;have A6:=am A60;clear A60;replace H:=Option.bind_eq_some_iff.mp H;obtain ⟨t219,A70,H⟩:=H;replace H : (if t216 ≥ t219 then (some (0,false)) else ((bits_Div64.f k t216 t217 t219).bind fun bt220 => (if (t218 == (decide (a2 < 0))) = true then (fix_MulDiv.j0 k bt220.1 bt220.2 true) else (if bt220.1 = 0 then (fix_MulDiv.j0 k bt220.1 bt220.2 (bt220.2 == 0)) else (fix_MulDiv.j0 k bt220.1 bt220.2 false))))) = some (r1,r2):=H;have A7:=am A70;clear A70
    by_cases c8 : t216 ≥ t219
    · rw [if_pos c8] at H
      have c8b0 : decide (t219 ≤ t216) = true:=decide_eq_true c8;clear c8;simp only [Option.some.injEq,Prod.mk.injEq] at H;obtain ⟨rfl,rfl⟩:=H
      go_enter Try.func50,Try.ntmps50
      go_wp2_with (first|((with_reducible refine gate_callee (f:=48) rfl ?_);refine goesL_ (some 19) rfl rfl Try.func48 (by kernel_rfl) rfl #[.int .i64 a0,.int .i64 a1] rfl (by (try simp only [List.map_toArray,List.map_cons,List.map_nil]);first|done|rfl|(simp only [List.length_drop,List.length_take];rfl)) ?_;(with_reducible refine (fix_times.calls a0 a1 t214 t215 _ A5.out).mono ?_);rintro e w9 ⟨rfl,hb⟩;refine ⟨_,rfl,?_⟩;replace HB:=am (ss (by repeat (first|(with_reducible first|exact HB.out|apply sa|apply sn|apply sd)|exact HB.out)) hb);(try clear hb);(try clear hb2);(try clear hk);(try clear hi))|((with_reducible refine gate_callee (f:=53) rfl ?_);refine goesL_ (some 20) rfl rfl Try.func53 (by kernel_rfl) rfl #[.agg #[.int .i64 t214,.int .u64 t215]] rfl (by (try simp only [List.map_toArray,List.map_cons,List.map_nil]);first|done|rfl|(simp only [List.length_drop,List.length_take];rfl)) ?_;(with_reducible refine (fix_wide_abs.calls t214 t215 t216 t217 t218 _ A6.out).mono ?_);rintro e w10 ⟨rfl,hb⟩;refine ⟨_,rfl,?_⟩;replace HB:=am (ss (by repeat (first|(with_reducible first|exact HB.out|apply sa|apply sn|apply sd)|exact HB.out)) hb);(try clear hb);(try clear hb2);(try clear hk);(try clear hi))|((with_reducible refine gate_callee (f:=40) rfl ?_);refine goesL_ (some 25) rfl rfl Try.func40 (by kernel_rfl) rfl #[.int .i64 a2] rfl (by (try simp only [List.map_toArray,List.map_cons,List.map_nil]);first|done|rfl|(simp only [List.length_drop,List.length_take];rfl)) ?_;(with_reducible refine (fix_size.calls a2 t219 _ A7.out).mono ?_);rintro e w' ⟨rfl,⟨nd,rfl⟩⟩;refine ⟨_,rfl,?_⟩))
      go_ret2
      exact ⟨by first|rfl|(simp [errW_none,errW_some] <;> rfl)|(simp [*,errW_none,errW_some] <;> rfl),by repeat (first|(with_reducible first|exact HB.out|apply sa|apply sn|apply sd)|exact HB.out)⟩
    · rw [if_neg c8] at H
      have c8b0 : decide (t219 ≤ t216) = false:=decide_eq_false c8;clear c8;replace H:=Option.bind_eq_some_iff.mp H;obtain ⟨⟨t220,t221⟩,A110,H⟩:=H;replace H : (if (t218 == (decide (a2 < 0))) = true then (fix_MulDiv.j0 k t220 t221 true) else (if t220 = 0 then (fix_MulDiv.j0 k t220 t221 (t221 == 0)) else (fix_MulDiv.j0 k t220 t221 false))) = some (r1,r2):=H;have A11:=am A110;clear A110;have HC12:=am H;clear H
      go_enter Try.func50,Try.ntmps50
      go_upto_region 8 with (first|((with_reducible refine gate_callee (f:=48) rfl ?_);refine goesL_ (some 19) rfl rfl Try.func48 (by kernel_rfl) rfl #[.int .i64 a0,.int .i64 a1] rfl (by (try simp only [List.map_toArray,List.map_cons,List.map_nil]);first|done|rfl|(simp only [List.length_drop,List.length_take];rfl)) ?_;(with_reducible refine (fix_times.calls a0 a1 t214 t215 _ A5.out).mono ?_);rintro e w13 ⟨rfl,hb⟩;refine ⟨_,rfl,?_⟩;have n0_:=am (ss (by repeat (first|(with_reducible first|exact HB.out|apply sa|apply sn|apply sd)|exact HB.out)) hb);clear HB;have HB:=n0_;clear n0_;(try clear hb);(try clear hb2);(try clear hk);(try clear hi))|((with_reducible refine gate_callee (f:=53) rfl ?_);refine goesL_ (some 20) rfl rfl Try.func53 (by kernel_rfl) rfl #[.agg #[.int .i64 t214,.int .u64 t215]] rfl (by (try simp only [List.map_toArray,List.map_cons,List.map_nil]);first|done|rfl|(simp only [List.length_drop,List.length_take];rfl)) ?_;(with_reducible refine (fix_wide_abs.calls t214 t215 t216 t217 t218 _ A6.out).mono ?_);rintro e w14 ⟨rfl,hb⟩;refine ⟨_,rfl,?_⟩;have n0_:=am (ss (by repeat (first|(with_reducible first|exact HB.out|apply sa|apply sn|apply sd)|exact HB.out)) hb);clear HB;have HB:=n0_;clear n0_;(try clear hb);(try clear hb2);(try clear hk);(try clear hi))|((with_reducible refine gate_callee (f:=40) rfl ?_);refine goesL_ (some 25) rfl rfl Try.func40 (by kernel_rfl) rfl #[.int .i64 a2] rfl (by (try simp only [List.map_toArray,List.map_cons,List.map_nil]);first|done|rfl|(simp only [List.length_drop,List.length_take];rfl)) ?_;(with_reducible refine (fix_size.calls a2 t219 _ A7.out).mono ?_);rintro e w' ⟨rfl,⟨nd,rfl⟩⟩;refine ⟨_,rfl,?_⟩)|((with_reducible refine gate_callee (f:=54) rfl ?_);refine goesL_ (some 33) rfl rfl Try.func54 (by kernel_rfl) rfl #[.int .u64 t216,.int .u64 t217,.int .u64 t219] rfl (by (try simp only [List.map_toArray,List.map_cons,List.map_nil]);first|done|rfl|(simp only [List.length_drop,List.length_take];rfl)) ?_;(with_reducible refine (bits_Div64.calls k t216 t217 t219 t220 t221 _ A11.out).mono ?_);rintro e w' ⟨rfl,⟨nd,rfl⟩⟩;refine ⟨_,rfl,?_⟩))
      (try simp only [Act.put,q1,q2,q3])
      go_cut [47] (fun v47 wc => ∃ (kq : Nat) (x47_11 : Bool),v47 = .bool x47_11 ∧ Aside0 (fix_MulDiv.j0 kq t220 t221 x47_11 = some (r1,r2)) ∧ Aside0 (kq ≤ k) ∧ Aside0 (Below w.heap.size w wc))
      case first =>
        have H:=HC12.out;clear HC12
        by_cases c15 : (t218 == (decide (a2 < 0))) = true
        · rw [if_pos c15] at H
          have c15b0 : (t218 == (decide (a2 < 0))) = true:=c15
          (try (have c15b1 : decide (t218 = (decide (a2 < 0))) = true:=by simpa using c15))
          (try (have c15b2 : (t218 == (decide (a2 < 0))) = true:=by simpa using c15))
          clear c15
          (first|rw [c15b0]|(simp only [i64_w,i32_w];rw [c15b0])|skip)
          have H':=am H;clear H
          go_wp2
          go_meet
          case rel => exact ⟨_,(true),(by first|rfl|(simp;done)|(simp [*];done)),H',⟨by first|omega|exact Nat.le_refl _⟩,⟨by repeat (first|(with_reducible first|exact HB.out|apply sa|apply sn|apply sd)|exact HB.out)⟩⟩
        · rw [if_neg c15] at H
          have c15b0 : (t218 == (decide (a2 < 0))) = false:=by simpa using c15
          (try (have c15b1 : decide (t218 = (decide (a2 < 0))) = false:=by simpa using c15))
          (try (have c15b2 : (t218 == (decide (a2 < 0))) = false:=by simpa using c15))
          (try (have c15b3 : ¬ (t218 = (decide (a2 < 0))):=by simpa using c15))
          clear c15
          (first|rw [c15b0]|(simp only [i64_w,i32_w];rw [c15b0])|skip)
          by_cases c16 : t220 = 0
          · rw [if_pos c16] at H
            have c16b0 : (t220 == 0) = true:=beq_iff_eq.mpr c16;have c16b1 : (t220 != 0) = false:=bne_eq_false_iff_eq.mpr c16;clear c16;have H':=am H;clear H
            go_wp2
            go_meet
            case rel => exact ⟨_,((t221 == 0)),(by first|rfl|(simp;done)|(simp [*];done)),H',⟨by first|omega|exact Nat.le_refl _⟩,⟨by repeat (first|(with_reducible first|exact HB.out|apply sa|apply sn|apply sd)|exact HB.out)⟩⟩
          · rw [if_neg c16] at H
            have c16b0 : (t220 == 0) = false:=beq_eq_false_iff_ne.mpr c16;have c16b1 : (t220 != 0) = true:=bne_iff_ne.mpr c16;have H':=am H;clear H
            go_wp2
            go_meet
            case rel => exact ⟨_,(false),(by first|rfl|(simp;done)|(simp [*];done)),H',⟨by first|omega|exact Nat.le_refl _⟩,⟨by repeat (first|(with_reducible first|exact HB.out|apply sa|apply sn|apply sd)|exact HB.out)⟩⟩
      case rest =>
        clear HC12
        try clear c1
        try clear p2
        try clear c4
        try clear c4b0
        try clear c4b1
        try clear c5
        try clear c8
        try clear c8b0
        try clear c15
        try clear c15b0
        try clear c15b1
        try clear c15b2
        try clear c16
        try clear c16b0
        try clear c16b1
        obtain ⟨kq,x47_11,rfl,HA,HJ11,HB⟩:=hcut
        cases kq with
        | zero => exact absurd HA.out (by simp [fix_MulDiv.j0])
        | succ kj11 =>
          have H:=HA.out;clear HA;simp only [fix_MulDiv.j0] at H
          by_cases c17 : x47_11 = true
          · subst c17
            have H1 : ((fix_narrowed.f t220 false).bind fun t222 => (if t222 = true then (some (wrap64 (t220),true)) else (some (0,false)))) = some (r1,r2):=by rw [if_pos rfl] at H;exact H
            clear H;have H:=H1;clear H1;replace H:=Option.bind_eq_some_iff.mp H;obtain ⟨t222,A180,H⟩:=H;replace H : (if t222 = true then (some (wrap64 (t220),true)) else (some (0,false))) = some (r1,r2):=H;have A18:=am A180;clear A180
            by_cases c19 : t222 = true
            · subst c19
              have H1 : (some (wrap64 (t220),true)) = some (r1,r2):=by rw [if_pos rfl] at H;exact H
              clear H;have H:=H1;clear H1;simp only [Option.some.injEq,Prod.mk.injEq] at H;obtain ⟨rfl,rfl⟩:=H
              go_wp2_with (first|((with_reducible refine gate_callee (f:=55) rfl ?_);refine goesL_ (some 49) rfl rfl Try.func55 (by kernel_rfl) rfl #[.int .u64 t220,.bool false] rfl (by (try simp only [List.map_toArray,List.map_cons,List.map_nil]);first|done|rfl|(simp only [List.length_drop,List.length_take];rfl)) ?_;(with_reducible refine (fix_narrowed.calls t220 false true _ A18.out).mono ?_);rintro e w' ⟨rfl,⟨nd,rfl⟩⟩;refine ⟨_,rfl,?_⟩))
              go_ret2
              exact ⟨by first|rfl|(simp [errW_none,errW_some] <;> rfl)|(simp [*,errW_none,errW_some] <;> rfl),by repeat (first|(with_reducible first|exact HB.out|apply sa|apply sn|apply sd)|exact HB.out)⟩
            · replace c19:=Bool.eq_false_iff.mpr c19
              subst c19
              have H1 : (some (0,false)) = some (r1,r2):=by rw [if_neg (show ¬ (false = true) by decide)] at H;exact H
              clear H;have H:=H1;clear H1;simp only [Option.some.injEq,Prod.mk.injEq] at H;obtain ⟨rfl,rfl⟩:=H
              go_wp2_with (first|((with_reducible refine gate_callee (f:=55) rfl ?_);refine goesL_ (some 49) rfl rfl Try.func55 (by kernel_rfl) rfl #[.int .u64 t220,.bool false] rfl (by (try simp only [List.map_toArray,List.map_cons,List.map_nil]);first|done|rfl|(simp only [List.length_drop,List.length_take];rfl)) ?_;(with_reducible refine (fix_narrowed.calls t220 false false _ A18.out).mono ?_);rintro e w' ⟨rfl,⟨nd,rfl⟩⟩;refine ⟨_,rfl,?_⟩))
              go_ret2
              exact ⟨by first|rfl|(simp [errW_none,errW_some] <;> rfl)|(simp [*,errW_none,errW_some] <;> rfl),by repeat (first|(with_reducible first|exact HB.out|apply sa|apply sn|apply sd)|exact HB.out)⟩
          · replace c17:=Bool.eq_false_iff.mpr c17
            subst c17
            have H1 : (if t221 > 0 then (if (IntKind.u64.wrap (t220 + 1)) = 0 then (some (0,false)) else ((fix_narrowed.f (IntKind.u64.wrap (t220 + 1)) true).bind fun t223 => (if t223 = true then (some (wrap64 (IntKind.u64.wrap (-(IntKind.u64.wrap (t220 + 1)))),true)) else (some (0,false))))) else ((fix_narrowed.f t220 true).bind fun t224 => (if t224 = true then (some (wrap64 (IntKind.u64.wrap (-t220)),true)) else (some (0,false))))) = some (r1,r2):=by rw [if_neg (show ¬ (false = true) by decide)] at H;exact H
            clear H;have H:=H1;clear H1
            by_cases c20 : t221 > 0
            · rw [if_pos c20] at H
              have c20b0 : decide (0 < t221) = true:=decide_eq_true c20;clear c20
              by_cases c21 : (IntKind.u64.wrap (t220 + 1)) = 0
              · rw [if_pos c21] at H
                have c21b0 : ((IntKind.u64.wrap (t220 + 1)) == 0) = true:=beq_iff_eq.mpr c21;have c21b1 : ((IntKind.u64.wrap (t220 + 1)) != 0) = false:=bne_eq_false_iff_eq.mpr c21;clear c21;simp only [Option.some.injEq,Prod.mk.injEq] at H;obtain ⟨rfl,rfl⟩:=H
                go_wp2
                go_ret2
                exact ⟨by first|rfl|(simp [errW_none,errW_some] <;> rfl)|(simp [*,errW_none,errW_some] <;> rfl),by repeat (first|(with_reducible first|exact HB.out|apply sa|apply sn|apply sd)|exact HB.out)⟩
              · rw [if_neg c21] at H
                have c21b0 : ((IntKind.u64.wrap (t220 + 1)) == 0) = false:=beq_eq_false_iff_ne.mpr c21;have c21b1 : ((IntKind.u64.wrap (t220 + 1)) != 0) = true:=bne_iff_ne.mpr c21;replace H:=Option.bind_eq_some_iff.mp H;obtain ⟨t223,A220,H⟩:=H;replace H : (if t223 = true then (some (wrap64 (IntKind.u64.wrap (-(IntKind.u64.wrap (t220 + 1)))),true)) else (some (0,false))) = some (r1,r2):=H;have A22:=am A220;clear A220
                by_cases c23 : t223 = true
                · subst c23
                  have H1 : (some (wrap64 (IntKind.u64.wrap (-(IntKind.u64.wrap (t220 + 1)))),true)) = some (r1,r2):=by rw [if_pos rfl] at H;exact H
                  clear H;have H:=H1;clear H1;simp only [Option.some.injEq,Prod.mk.injEq] at H;obtain ⟨rfl,rfl⟩:=H
                  go_wp2_with (first|((with_reducible refine gate_callee (f:=55) rfl ?_);refine goesL_ (some 60) rfl rfl Try.func55 (by kernel_rfl) rfl #[.int .u64 (IntKind.u64.wrap (t220 + 1)),.bool true] rfl (by (try simp only [List.map_toArray,List.map_cons,List.map_nil]);first|done|rfl|(simp only [List.length_drop,List.length_take];rfl)) ?_;(with_reducible refine (fix_narrowed.calls (IntKind.u64.wrap (t220 + 1)) true true _ A22.out).mono ?_);rintro e w' ⟨rfl,⟨nd,rfl⟩⟩;refine ⟨_,rfl,?_⟩))
                  go_ret2
                  exact ⟨by first|rfl|(simp [errW_none,errW_some] <;> rfl)|(simp [*,errW_none,errW_some] <;> rfl),by repeat (first|(with_reducible first|exact HB.out|apply sa|apply sn|apply sd)|exact HB.out)⟩
                · replace c23:=Bool.eq_false_iff.mpr c23
                  subst c23
                  have H1 : (some (0,false)) = some (r1,r2):=by rw [if_neg (show ¬ (false = true) by decide)] at H;exact H
                  clear H;have H:=H1;clear H1;simp only [Option.some.injEq,Prod.mk.injEq] at H;obtain ⟨rfl,rfl⟩:=H
                  go_wp2_with (first|((with_reducible refine gate_callee (f:=55) rfl ?_);refine goesL_ (some 60) rfl rfl Try.func55 (by kernel_rfl) rfl #[.int .u64 (IntKind.u64.wrap (t220 + 1)),.bool true] rfl (by (try simp only [List.map_toArray,List.map_cons,List.map_nil]);first|done|rfl|(simp only [List.length_drop,List.length_take];rfl)) ?_;(with_reducible refine (fix_narrowed.calls (IntKind.u64.wrap (t220 + 1)) true false _ A22.out).mono ?_);rintro e w' ⟨rfl,⟨nd,rfl⟩⟩;refine ⟨_,rfl,?_⟩))
                  go_ret2
                  exact ⟨by first|rfl|(simp [errW_none,errW_some] <;> rfl)|(simp [*,errW_none,errW_some] <;> rfl),by repeat (first|(with_reducible first|exact HB.out|apply sa|apply sn|apply sd)|exact HB.out)⟩
            · rw [if_neg c20] at H
              have c20b0 : decide (0 < t221) = false:=decide_eq_false c20;clear c20;replace H:=Option.bind_eq_some_iff.mp H;obtain ⟨t224,A240,H⟩:=H;replace H : (if t224 = true then (some (wrap64 (IntKind.u64.wrap (-t220)),true)) else (some (0,false))) = some (r1,r2):=H;have A24:=am A240;clear A240
              by_cases c25 : t224 = true
              · subst c25
                have H1 : (some (wrap64 (IntKind.u64.wrap (-t220)),true)) = some (r1,r2):=by rw [if_pos rfl] at H;exact H
                clear H;have H:=H1;clear H1;simp only [Option.some.injEq,Prod.mk.injEq] at H;obtain ⟨rfl,rfl⟩:=H
                go_wp2_with (first|((with_reducible refine gate_callee (f:=55) rfl ?_);refine goesL_ (some 60) rfl rfl Try.func55 (by kernel_rfl) rfl #[.int .u64 t220,.bool true] rfl (by (try simp only [List.map_toArray,List.map_cons,List.map_nil]);first|done|rfl|(simp only [List.length_drop,List.length_take];rfl)) ?_;(with_reducible refine (fix_narrowed.calls t220 true true _ A24.out).mono ?_);rintro e w' ⟨rfl,⟨nd,rfl⟩⟩;refine ⟨_,rfl,?_⟩))
                go_ret2
                exact ⟨by first|rfl|(simp [errW_none,errW_some] <;> rfl)|(simp [*,errW_none,errW_some] <;> rfl),by repeat (first|(with_reducible first|exact HB.out|apply sa|apply sn|apply sd)|exact HB.out)⟩
              · replace c25:=Bool.eq_false_iff.mpr c25
                subst c25
                have H1 : (some (0,false)) = some (r1,r2):=by rw [if_neg (show ¬ (false = true) by decide)] at H;exact H
                clear H;have H:=H1;clear H1;simp only [Option.some.injEq,Prod.mk.injEq] at H;obtain ⟨rfl,rfl⟩:=H
                go_wp2_with (first|((with_reducible refine gate_callee (f:=55) rfl ?_);refine goesL_ (some 60) rfl rfl Try.func55 (by kernel_rfl) rfl #[.int .u64 t220,.bool true] rfl (by (try simp only [List.map_toArray,List.map_cons,List.map_nil]);first|done|rfl|(simp only [List.length_drop,List.length_take];rfl)) ?_;(with_reducible refine (fix_narrowed.calls t220 true false _ A24.out).mono ?_);rintro e w' ⟨rfl,⟨nd,rfl⟩⟩;refine ⟨_,rfl,?_⟩))
                go_ret2
                exact ⟨by first|rfl|(simp [errW_none,errW_some] <;> rfl)|(simp [*,errW_none,errW_some] <;> rfl),by repeat (first|(with_reducible first|exact HB.out|apply sa|apply sn|apply sd)|exact HB.out)⟩

/-! ### fix_Floor: function 39 -/
def fix_Floor.f (k : Nat) (a0 : Int) (a1 : Int) : Option (Int × Bool):=(fix_MulDiv.f k a0 1 a1).bind fun bt225 => (some (bt225.1,bt225.2))
theorem fix_Floor.mono : ∀ a0 a1 k,LeO (fix_Floor.f k a0 a1) (fix_Floor.f (k + 1) a0 a1):=by
  intro a0 a1 k
  unfold fix_Floor.f
  repeat' first
      | (with_reducible exact fix_MulDiv.mono _ _ _ _)
      | (with_reducible exact LeO.refl _)
      | (with_reducible exact LeO.none _)
      | (with_reducible refine LeO.ite ?_ ?_)
      | (with_reducible refine LeO.bind ?_ (fun _ => ?_))
      | exact fix_MulDiv.mono _ _ _ _
      | exact LeO.none _
      | refine LeO.ite ?_ ?_
      | refine LeO.bind ?_ (fun _ => ?_)
set_option maxHeartbeats 8000000 in
set_option maxRecDepth 100000 in
theorem fix_Floor.calls (k : Nat) (a0 : Int) (a1 : Int) (r1 : Int) (r2 : Bool) (w : World) (h : fix_Floor.f k a0 a1 = some (r1,r2)) :
    Calls Try.prog 39 #[.int .i64 a0,.int .i64 a1] w fun e w' => e = .returned (.tuple #[.int .i64 r1,.bool r2]) ∧ Below w.heap.size w w':=by
  have HB:=am (Below.refl w.heap.size w);have H : ((fix_MulDiv.f k a0 1 a1).bind fun bt225 => (some (bt225.1,bt225.2))) = some (r1,r2):=h;clear h;replace H:=Option.bind_eq_some_iff.mp H;obtain ⟨⟨t225,t226⟩,A30,H⟩:=H;replace H : (some (t225,t226)) = some (r1,r2):=H;have A3:=am A30;clear A30;simp only [Option.some.injEq,Prod.mk.injEq] at H;obtain ⟨rfl,rfl⟩:=H
  go_enter Try.func39,Try.ntmps39
  go_wp2_with (first|((with_reducible refine gate_callee (f:=50) rfl ?_);refine goesL_ (some 8) rfl rfl Try.func50 (by kernel_rfl) rfl #[.int .i64 a0,.int .i64 1,.int .i64 a1] rfl (by (try simp only [List.map_toArray,List.map_cons,List.map_nil]);first|done|rfl|(simp only [List.length_drop,List.length_take];rfl)) ?_;(with_reducible refine (fix_MulDiv.calls k a0 1 a1 t225 t226 _ A3.out).mono ?_);rintro e w4 ⟨rfl,hb⟩;refine ⟨_,rfl,?_⟩;replace HB:=am (ss (by repeat (first|(with_reducible first|exact HB.out|apply sa|apply sn|apply sd)|exact HB.out)) hb);(try clear hb);(try clear hb2);(try clear hk);(try clear hi)))
  go_ret2
  exact ⟨by first|rfl|(simp [errW_none,errW_some] <;> rfl)|(simp [*,errW_none,errW_some] <;> rfl),by repeat (first|(with_reducible first|exact HB.out|apply sa|apply sn|apply sd)|exact HB.out)⟩

/-! ### fix_Add: function 41 -/
def fix_Add.f (a0 : Int) (a1 : Int) : Option (Int × Bool):=if ((decide ((wrap64 (a0 + a1)) > a0)) != (decide (a1 > 0))) = true then (if a1 = 0 then (some (wrap64 (a0 + a1),true)) else (some (0,false))) else (some (wrap64 (a0 + a1),true))
set_option maxHeartbeats 8000000 in
set_option maxRecDepth 100000 in
theorem fix_Add.calls (a0 : Int) (a1 : Int) (r1 : Int) (r2 : Bool) (w : World) (h : fix_Add.f a0 a1 = some (r1,r2)) :
    Calls Try.prog 41 #[.int .i64 a0,.int .i64 a1] w fun e w' => e = .returned (.tuple #[.int .i64 r1,.bool r2]) ∧ Drawn0 w w':=by
  have H : (if ((decide ((wrap64 (a0 + a1)) > a0)) != (decide (a1 > 0))) = true then (if a1 = 0 then (some (wrap64 (a0 + a1),true)) else (some (0,false))) else (some (wrap64 (a0 + a1),true))) = some (r1,r2):=h;clear h
  by_cases c3 : ((decide ((wrap64 (a0 + a1)) > a0)) != (decide (a1 > 0))) = true
  · rw [if_pos c3] at H
    have c3b0 : ((decide ((wrap64 (a0 + a1)) > a0)) != (decide (a1 > 0))) = true:=c3
    (try (have c3b1 : decide ((decide ((wrap64 (a0 + a1)) > a0)) = (decide (a1 > 0))) = false:=by simpa using c3))
    (try (have c3b2 : ((decide ((wrap64 (a0 + a1)) > a0)) == (decide (a1 > 0))) = false:=by simpa using c3))
    (try (have c3b3 : ¬ ((decide ((wrap64 (a0 + a1)) > a0)) = (decide (a1 > 0))):=by simpa using c3))
    clear c3
    by_cases c4 : a1 = 0
    · rw [if_pos c4] at H
      have c4b0 : (a1 == 0) = true:=beq_iff_eq.mpr c4;have c4b1 : (a1 != 0) = false:=bne_eq_false_iff_eq.mpr c4;clear c4;simp only [Option.some.injEq,Prod.mk.injEq] at H;obtain ⟨rfl,rfl⟩:=H
      go_enter Try.func41,Try.ntmps41
      go_wp2
      go_ret2
      exact ⟨by first|rfl|(simp;done)|(simp [*];done),by repeat (first|exact Drawn0.refl _|apply Drawn0.step)⟩
    · rw [if_neg c4] at H
      have c4b0 : (a1 == 0) = false:=beq_eq_false_iff_ne.mpr c4;have c4b1 : (a1 != 0) = true:=bne_iff_ne.mpr c4;simp only [Option.some.injEq,Prod.mk.injEq] at H;obtain ⟨rfl,rfl⟩:=H
      go_enter Try.func41,Try.ntmps41
      go_wp2
      go_ret2
      exact ⟨by first|rfl|(simp;done)|(simp [*];done),by repeat (first|exact Drawn0.refl _|apply Drawn0.step)⟩
  · rw [if_neg c3] at H
    have c3b0 : ((decide ((wrap64 (a0 + a1)) > a0)) != (decide (a1 > 0))) = false:=by simpa using c3
    (try (have c3b1 : decide ((decide ((wrap64 (a0 + a1)) > a0)) = (decide (a1 > 0))) = true:=by simpa using c3))
    (try (have c3b2 : ((decide ((wrap64 (a0 + a1)) > a0)) == (decide (a1 > 0))) = true:=by simpa using c3))
    clear c3;simp only [Option.some.injEq,Prod.mk.injEq] at H;obtain ⟨rfl,rfl⟩:=H
    go_enter Try.func41,Try.ntmps41
    go_wp2
    go_ret2
    exact ⟨by first|rfl|(simp;done)|(simp [*];done),by repeat (first|exact Drawn0.refl _|apply Drawn0.step)⟩

/-! ### fix_Round: function 30 -/
def fix_Round.f (k : Nat) (a0 : Int) (a1 : Int) : Option (Int × Bool):=(fix_Floor.f k a0 a1).bind fun bt227 => (if bt227.2 = true then ((fix_size.f (wrap64 (a0 - (wrap64 (bt227.1 * a1))))).bind fun t229 => ((fix_size.f a1).bind fun t230 => ((fix_size.f (wrap64 (a0 - (wrap64 (bt227.1 * a1))))).bind fun t231 => (if t229 ≥ (IntKind.u64.wrap (t230 - t231)) then ((fix_Add.f bt227.1 1).bind fun bt232 => (some (bt232.1,bt232.2))) else (some (bt227.1,true)))))) else (some (0,false)))
theorem fix_Round.mono : ∀ a0 a1 k,LeO (fix_Round.f k a0 a1) (fix_Round.f (k + 1) a0 a1):=by
  intro a0 a1 k
  unfold fix_Round.f
  repeat' first
      | (with_reducible exact fix_Floor.mono _ _ _)
      | (with_reducible exact LeO.refl _)
      | (with_reducible exact LeO.none _)
      | (with_reducible refine LeO.ite ?_ ?_)
      | (with_reducible refine LeO.bind ?_ (fun _ => ?_))
      | exact fix_Floor.mono _ _ _
      | exact LeO.none _
      | refine LeO.ite ?_ ?_
      | refine LeO.bind ?_ (fun _ => ?_)
set_option maxHeartbeats 8000000 in
set_option maxRecDepth 100000 in
theorem fix_Round.calls (k : Nat) (a0 : Int) (a1 : Int) (r1 : Int) (r2 : Bool) (w : World) (h : fix_Round.f k a0 a1 = some (r1,r2)) :
    Calls Try.prog 30 #[.int .i64 a0,.int .i64 a1] w fun e w' => e = .returned (.tuple #[.int .i64 r1,.bool r2]) ∧ Below w.heap.size w w':=by
  have HB:=am (Below.refl w.heap.size w);have H : ((fix_Floor.f k a0 a1).bind fun bt227 => (if bt227.2 = true then ((fix_size.f (wrap64 (a0 - (wrap64 (bt227.1 * a1))))).bind fun t229 => ((fix_size.f a1).bind fun t230 => ((fix_size.f (wrap64 (a0 - (wrap64 (bt227.1 * a1))))).bind fun t231 => (if t229 ≥ (IntKind.u64.wrap (t230 - t231)) then ((fix_Add.f bt227.1 1).bind fun bt232 => (some (bt232.1,bt232.2))) else (some (bt227.1,true)))))) else (some (0,false)))) = some (r1,r2):=h;clear h;replace H:=Option.bind_eq_some_iff.mp H;obtain ⟨⟨t227,t228⟩,A30,H⟩:=H;replace H : (if t228 = true then ((fix_size.f (wrap64 (a0 - (wrap64 (t227 * a1))))).bind fun t229 => ((fix_size.f a1).bind fun t230 => ((fix_size.f (wrap64 (a0 - (wrap64 (t227 * a1))))).bind fun t231 => (if t229 ≥ (IntKind.u64.wrap (t230 - t231)) then ((fix_Add.f t227 1).bind fun bt232 => (some (bt232.1,bt232.2))) else (some (t227,true)))))) else (some (0,false))) = some (r1,r2):=H;have A3:=am A30;clear A30
  by_cases c4 : t228 = true
  · subst c4
    have H1 : ((fix_size.f (wrap64 (a0 - (wrap64 (t227 * a1))))).bind fun t229 => ((fix_size.f a1).bind fun t230 => ((fix_size.f (wrap64 (a0 - (wrap64 (t227 * a1))))).bind fun t231 => (if t229 ≥ (IntKind.u64.wrap (t230 - t231)) then ((fix_Add.f t227 1).bind fun bt232 => (some (bt232.1,bt232.2))) else (some (t227,true)))))) = some (r1,r2):=by rw [if_pos rfl] at H;exact H
    clear H;have H:=H1;clear H1;replace H:=Option.bind_eq_some_iff.mp H;obtain ⟨t229,A50,H⟩:=H;replace H : ((fix_size.f a1).bind fun t230 => ((fix_size.f (wrap64 (a0 - (wrap64 (t227 * a1))))).bind fun t231 => (if t229 ≥ (IntKind.u64.wrap (t230 - t231)) then ((fix_Add.f t227 1).bind fun bt232 => (some (bt232.1,bt232.2))) else (some (t227,true))))) = some (r1,r2):=H;have A5:=am A50;clear A50;replace H:=Option.bind_eq_some_iff.mp H;obtain ⟨t230,A60,H⟩:=H;replace H : ((fix_size.f (wrap64 (a0 - (wrap64 (t227 * a1))))).bind fun t231 => (if t229 ≥ (IntKind.u64.wrap (t230 - t231)) then ((fix_Add.f t227 1).bind fun bt232 => (some (bt232.1,bt232.2))) else (some (t227,true)))) = some (r1,r2):=H;have A6:=am A60;clear A60;replace H:=Option.bind_eq_some_iff.mp H;obtain ⟨t231,A70,H⟩:=H;replace H : (if t229 ≥ (IntKind.u64.wrap (t230 - t231)) then ((fix_Add.f t227 1).bind fun bt232 => (some (bt232.1,bt232.2))) else (some (t227,true))) = some (r1,r2):=H;have A7:=am A70;clear A70
    by_cases c8 : t229 ≥ (IntKind.u64.wrap (t230 - t231))
    · rw [if_pos c8] at H
      have c8b0 : decide ((IntKind.u64.wrap (t230 - t231)) ≤ t229) = true:=decide_eq_true c8;clear c8;replace H:=Option.bind_eq_some_iff.mp H;obtain ⟨⟨t232,t233⟩,A90,H⟩:=H;replace H : (some (t232,t233)) = some (r1,r2):=H;have A9:=am A90;clear A90;simp only [Option.some.injEq,Prod.mk.injEq] at H;obtain ⟨rfl,rfl⟩:=H
      go_enter Try.func30,Try.ntmps30
      go_wp2_with (first|((with_reducible refine gate_callee (f:=39) rfl ?_);refine goesL_ (some 12) rfl rfl Try.func39 (by kernel_rfl) rfl #[.int .i64 a0,.int .i64 a1] rfl (by (try simp only [List.map_toArray,List.map_cons,List.map_nil]);first|done|rfl|(simp only [List.length_drop,List.length_take];rfl)) ?_;(with_reducible refine (fix_Floor.calls k a0 a1 t227 true _ A3.out).mono ?_);rintro e w10 ⟨rfl,hb⟩;refine ⟨_,rfl,?_⟩;replace HB:=am (ss (by repeat (first|(with_reducible first|exact HB.out|apply sa|apply sn|apply sd)|exact HB.out)) hb);(try clear hb);(try clear hb2);(try clear hk);(try clear hi))|((with_reducible refine gate_callee (f:=40) rfl ?_);refine goesL_ (some 23) rfl rfl Try.func40 (by kernel_rfl) rfl #[.int .i64 (wrap64 (a0 - (wrap64 (t227 * a1))))] rfl (by (try simp only [List.map_toArray,List.map_cons,List.map_nil]);first|done|rfl|(simp only [List.length_drop,List.length_take];rfl)) ?_;(with_reducible refine (fix_size.calls (wrap64 (a0 - (wrap64 (t227 * a1)))) t229 _ A5.out).mono ?_);rintro e w' ⟨rfl,⟨nd,rfl⟩⟩;refine ⟨_,rfl,?_⟩)|((with_reducible refine gate_callee (f:=40) rfl ?_);refine goesL_ (some 25) rfl rfl Try.func40 (by kernel_rfl) rfl #[.int .i64 a1] rfl (by (try simp only [List.map_toArray,List.map_cons,List.map_nil]);first|done|rfl|(simp only [List.length_drop,List.length_take];rfl)) ?_;(with_reducible refine (fix_size.calls a1 t230 _ A6.out).mono ?_);rintro e w' ⟨rfl,⟨nd,rfl⟩⟩;refine ⟨_,rfl,?_⟩)|((with_reducible refine gate_callee (f:=40) rfl ?_);refine goesL_ (some 27) rfl rfl Try.func40 (by kernel_rfl) rfl #[.int .i64 (wrap64 (a0 - (wrap64 (t227 * a1))))] rfl (by (try simp only [List.map_toArray,List.map_cons,List.map_nil]);first|done|rfl|(simp only [List.length_drop,List.length_take];rfl)) ?_;(with_reducible refine (fix_size.calls (wrap64 (a0 - (wrap64 (t227 * a1)))) t231 _ A7.out).mono ?_);rintro e w' ⟨rfl,⟨nd,rfl⟩⟩;refine ⟨_,rfl,?_⟩)|((with_reducible refine gate_callee (f:=41) rfl ?_);refine goesL_ (some 31) rfl rfl Try.func41 (by kernel_rfl) rfl #[.int .i64 t227,.int .i64 1] rfl (by (try simp only [List.map_toArray,List.map_cons,List.map_nil]);first|done|rfl|(simp only [List.length_drop,List.length_take];rfl)) ?_;(with_reducible refine (fix_Add.calls t227 1 t232 t233 _ A9.out).mono ?_);rintro e w' ⟨rfl,⟨nd,rfl⟩⟩;refine ⟨_,rfl,?_⟩))
      go_ret2
      exact ⟨by first|rfl|(simp [errW_none,errW_some] <;> rfl)|(simp [*,errW_none,errW_some] <;> rfl),by repeat (first|(with_reducible first|exact HB.out|apply sa|apply sn|apply sd)|exact HB.out)⟩
    · rw [if_neg c8] at H
      have c8b0 : decide ((IntKind.u64.wrap (t230 - t231)) ≤ t229) = false:=decide_eq_false c8;clear c8;simp only [Option.some.injEq,Prod.mk.injEq] at H;obtain ⟨rfl,rfl⟩:=H
      go_enter Try.func30,Try.ntmps30
      go_wp2_with (first|((with_reducible refine gate_callee (f:=39) rfl ?_);refine goesL_ (some 12) rfl rfl Try.func39 (by kernel_rfl) rfl #[.int .i64 a0,.int .i64 a1] rfl (by (try simp only [List.map_toArray,List.map_cons,List.map_nil]);first|done|rfl|(simp only [List.length_drop,List.length_take];rfl)) ?_;(with_reducible refine (fix_Floor.calls k a0 a1 t227 true _ A3.out).mono ?_);rintro e w11 ⟨rfl,hb⟩;refine ⟨_,rfl,?_⟩;replace HB:=am (ss (by repeat (first|(with_reducible first|exact HB.out|apply sa|apply sn|apply sd)|exact HB.out)) hb);(try clear hb);(try clear hb2);(try clear hk);(try clear hi))|((with_reducible refine gate_callee (f:=40) rfl ?_);refine goesL_ (some 23) rfl rfl Try.func40 (by kernel_rfl) rfl #[.int .i64 (wrap64 (a0 - (wrap64 (t227 * a1))))] rfl (by (try simp only [List.map_toArray,List.map_cons,List.map_nil]);first|done|rfl|(simp only [List.length_drop,List.length_take];rfl)) ?_;(with_reducible refine (fix_size.calls (wrap64 (a0 - (wrap64 (t227 * a1)))) t229 _ A5.out).mono ?_);rintro e w' ⟨rfl,⟨nd,rfl⟩⟩;refine ⟨_,rfl,?_⟩)|((with_reducible refine gate_callee (f:=40) rfl ?_);refine goesL_ (some 25) rfl rfl Try.func40 (by kernel_rfl) rfl #[.int .i64 a1] rfl (by (try simp only [List.map_toArray,List.map_cons,List.map_nil]);first|done|rfl|(simp only [List.length_drop,List.length_take];rfl)) ?_;(with_reducible refine (fix_size.calls a1 t230 _ A6.out).mono ?_);rintro e w' ⟨rfl,⟨nd,rfl⟩⟩;refine ⟨_,rfl,?_⟩)|((with_reducible refine gate_callee (f:=40) rfl ?_);refine goesL_ (some 27) rfl rfl Try.func40 (by kernel_rfl) rfl #[.int .i64 (wrap64 (a0 - (wrap64 (t227 * a1))))] rfl (by (try simp only [List.map_toArray,List.map_cons,List.map_nil]);first|done|rfl|(simp only [List.length_drop,List.length_take];rfl)) ?_;(with_reducible refine (fix_size.calls (wrap64 (a0 - (wrap64 (t227 * a1)))) t231 _ A7.out).mono ?_);rintro e w' ⟨rfl,⟨nd,rfl⟩⟩;refine ⟨_,rfl,?_⟩))
      go_ret2
      exact ⟨by first|rfl|(simp [errW_none,errW_some] <;> rfl)|(simp [*,errW_none,errW_some] <;> rfl),by repeat (first|(with_reducible first|exact HB.out|apply sa|apply sn|apply sd)|exact HB.out)⟩
  · replace c4:=Bool.eq_false_iff.mpr c4
    subst c4
    have H1 : (some (0,false)) = some (r1,r2):=by rw [if_neg (show ¬ (false = true) by decide)] at H;exact H
    clear H;have H:=H1;clear H1;simp only [Option.some.injEq,Prod.mk.injEq] at H;obtain ⟨rfl,rfl⟩:=H
    go_enter Try.func30,Try.ntmps30
    go_wp2_with (first|((with_reducible refine gate_callee (f:=39) rfl ?_);refine goesL_ (some 12) rfl rfl Try.func39 (by kernel_rfl) rfl #[.int .i64 a0,.int .i64 a1] rfl (by (try simp only [List.map_toArray,List.map_cons,List.map_nil]);first|done|rfl|(simp only [List.length_drop,List.length_take];rfl)) ?_;(with_reducible refine (fix_Floor.calls k a0 a1 t227 false _ A3.out).mono ?_);rintro e w12 ⟨rfl,hb⟩;refine ⟨_,rfl,?_⟩;replace HB:=am (ss (by repeat (first|(with_reducible first|exact HB.out|apply sa|apply sn|apply sd)|exact HB.out)) hb);(try clear hb);(try clear hb2);(try clear hk);(try clear hi)))
    go_ret2
    exact ⟨by first|rfl|(simp [errW_none,errW_some] <;> rfl)|(simp [*,errW_none,errW_some] <;> rfl),by repeat (first|(with_reducible first|exact HB.out|apply sa|apply sn|apply sd)|exact HB.out)⟩

/-! ### bits_Len: function 51 -/
def bits_Len.f (a0 : Int) : Option (Int):=if 0 ≤ a0 ∧ a0 ≤ 18446744073709551615 then some (Lib.bitLen a0.toNat : Int) else none
theorem bits_Len.calls (a0 : Int) (r : Int) (w : World) (h : bits_Len.f a0 = some r) :
    Calls Try.prog 51 #[.int .u64 a0] w fun e w' => e = .returned (.int .i64 r) ∧ Drawn0 w w':=by
  unfold bits_Len.f at h
  split at h
  · rename_i hb
    obtain rfl:=Option.some.inj h;refine (Try.bits_Len a0 w hb.1 hb.2).mono ?_
    rintro e w' ⟨rfl,rfl⟩
    exact ⟨rfl,Drawn0.refl _⟩
  · cases h

/-! ### fix_Root: function 42 -/
def fix_Root.l0 : Nat → Int → Int → Option (Int)
  | 0,_,_ => none
  | k + 1,x0,x3 => if x3 = 0 then (none) else (if (wrap64 (Int.tdiv (wrap64 (x3 + (wrap64 (Int.tdiv x0 x3)))) 2)) ≥ x3 then (some x3) else (fix_Root.l0 k x0 (wrap64 (Int.tdiv (wrap64 (x3 + (wrap64 (Int.tdiv x0 x3)))) 2))))
def fix_Root.f (k : Nat) (a0 : Int) : Option (Int):=if a0 < 1 then (some 0) else ((bits_Len.f (IntKind.u64.wrap (a0))).bind fun t234 => (if 0 ≤ (wrap64 (Int.tdiv (wrap64 (t234 + 1)) 2)) then (fix_Root.l0 k a0 (shl .i64 1 (wrap64 (Int.tdiv (wrap64 (t234 + 1)) 2)))) else (none)))
theorem fix_Root.mono_l : ∀ k,(∀ y0 y1,LeO (fix_Root.l0 k y0 y1) (fix_Root.l0 (k + 1) y0 y1))
  | 0 => fun _ _ r h => by simp [fix_Root.l0] at h
  | k + 1 => by
    have ih0:=fix_Root.mono_l k
    · intro y0 y1
      unfold fix_Root.l0
      repeat' first
      | (with_reducible exact ih0 _ _)
      | (with_reducible exact LeO.refl _)
      | (with_reducible exact LeO.none _)
      | (with_reducible refine LeO.ite ?_ ?_)
      | (with_reducible refine LeO.bind ?_ (fun _ => ?_))
      | exact ih0 _ _
      | exact LeO.none _
      | refine LeO.ite ?_ ?_
      | refine LeO.bind ?_ (fun _ => ?_)
theorem fix_Root.mono : ∀ a0 k,LeO (fix_Root.f k a0) (fix_Root.f (k + 1) a0):=by
  intro a0 k
  have ih0:=fix_Root.mono_l k
  unfold fix_Root.f
  repeat' first
      | (with_reducible exact ih0 _ _)
      | (with_reducible exact LeO.refl _)
      | (with_reducible exact LeO.none _)
      | (with_reducible refine LeO.ite ?_ ?_)
      | (with_reducible refine LeO.bind ?_ (fun _ => ?_))
      | exact ih0 _ _
      | exact LeO.none _
      | refine LeO.ite ?_ ?_
      | refine LeO.bind ?_ (fun _ => ?_)
set_option maxHeartbeats 8000000 in
set_option maxRecDepth 100000 in
theorem fix_Root.calls (k : Nat) (a0 : Int) (r : Int) (w : World) (h : fix_Root.f k a0 = some r) :
    Calls Try.prog 42 #[.int .i64 a0] w fun e w' => e = .returned (.int .i64 r) ∧ Drawn0 w w':=by
  have H : (if a0 < 1 then (some 0) else ((bits_Len.f (IntKind.u64.wrap (a0))).bind fun t234 => (if 0 ≤ (wrap64 (Int.tdiv (wrap64 (t234 + 1)) 2)) then (fix_Root.l0 k a0 (shl .i64 1 (wrap64 (Int.tdiv (wrap64 (t234 + 1)) 2)))) else (none)))) = some r:=h;clear h
  by_cases c2 : a0 < 1
  · rw [if_pos c2] at H
    have c2b0 : decide (a0 < 1) = true:=decide_eq_true c2;clear c2;obtain rfl:=Option.some.inj H
    go_enter Try.func42,Try.ntmps42
    go_wp2
    go_ret
    exact ⟨by first|rfl|(simp;done)|(simp [*];done),by repeat (first|exact Drawn0.refl _|apply Drawn0.step)⟩
  · rw [if_neg c2] at H
    have c2b0 : decide (a0 < 1) = false:=decide_eq_false c2;clear c2;replace H:=Option.bind_eq_some_iff.mp H;obtain ⟨t234,A30,H⟩:=H;replace H : (if 0 ≤ (wrap64 (Int.tdiv (wrap64 (t234 + 1)) 2)) then (fix_Root.l0 k a0 (shl .i64 1 (wrap64 (Int.tdiv (wrap64 (t234 + 1)) 2)))) else (none)) = some r:=H;have A3:=am A30;clear A30;obtain ⟨ji4,hji4⟩ : ∃ j_ : Int,(wrap64 (Int.tdiv (wrap64 (t234 + 1)) 2)) = j_:=⟨_,rfl⟩
    replace H : (if 0 ≤ (ji4) then (fix_Root.l0 k a0 (shl .i64 1 (ji4))) else (none)) = some r:=by first|(rw [hji4] at H;exact H)|(simp only [hji4] at H ⊢;exact H)
    (try rw [hji4] at A3);have hji4w : (IntKind.i64.wrap (Int.tdiv (wrap64 (t234 + 1)) 2)) = ji4:=(i64_w _).trans hji4
    by_cases c5 : 0 ≤ (ji4)
    · rw [if_pos c5] at H
      have c5b0:=eq_true c5;have c5b1 : decide (0 ≤ (ji4)) = true:=decide_eq_true c5;clear c5;obtain ⟨ji6,hji6⟩ : ∃ j_ : Int,(shl .i64 1 (ji4)) = j_:=⟨_,rfl⟩
      replace H : (fix_Root.l0 k a0 ji6) = some r:=by first|(rw [hji6] at H;exact H)|(simp only [hji6] at H ⊢;exact H)
      (try rw [hji6] at A3);have hji6_ : (IntKind.i64.wrap (1 * 2 ^ min (ji4).toNat 64)) = ji6:=hji6;have hji6z : (ji4) ≤ 64 → (IntKind.i64.wrap (1 * 2 ^ (ji4).toNat)) = ji6:=shl_small hji6
      have hji6u : (IntKind.i64.wrap (2 ^ min (ji4).toNat 64)) = ji6:=by have h_:=hji6_;rw [Int.one_mul] at h_;exact h_
      have hji6v : (ji4) ≤ 64 → (IntKind.i64.wrap (2 ^ (ji4).toNat)) = ji6:=fun hle_ => by have h_:=hji6z hle_;rw [Int.one_mul] at h_;exact h_
      have hji6y : (wrap64 (1 * 2 ^ min (ji4).toNat 64)) = ji6:=(i64_w _).symm.trans hji6_
      have hji6x : (ji4) ≤ 64 → (wrap64 (1 * 2 ^ (ji4).toNat)) = ji6:=fun h_ => (i64_w _).symm.trans (hji6z h_)
      have H':=am H;clear H
      go_enter Try.func42,Try.ntmps42
      go_wp2_with (first|((with_reducible refine gate_callee (f:=51) rfl ?_);refine goesL_ (some 9) rfl rfl Try.func51 (by kernel_rfl) rfl #[.int .u64 (IntKind.u64.wrap (a0))] rfl (by (try simp only [List.map_toArray,List.map_cons,List.map_nil]);first|done|rfl|(simp only [List.length_drop,List.length_take];rfl)) ?_;(with_reducible refine (bits_Len.calls (IntKind.u64.wrap (a0)) t234 _ A3.out).mono ?_);rintro e w' ⟨rfl,⟨nd,rfl⟩⟩;refine ⟨_,rfl,?_⟩))
      go_loopg [3] k (fun kq v3 w' => ∃ (x3_1 : Int),v3 = .int .i64 x3_1 ∧ Aside0 (fix_Root.l0 kq a0 x3_1 = some r) ∧ Aside0 (kq ≤ k) ∧ Drawn0 w w')
      case atStart => exact ⟨(ji6),(by first|rfl|(simp;done)|(simp only [← hji6] <;> (first|rfl|simp))|(simp [*];done)),H',⟨Nat.le_refl _⟩,by repeat (first|exact Drawn0.refl _|apply Drawn0.step)⟩
      case round =>
        clear H'
        try clear c2
        try clear c2b0
        try clear p2
        try clear c4
        try clear c5
        try clear c5b0
        try clear c5b1
        try clear p6
        obtain ⟨x3_1,rfl,HA,HK1,⟨m1,rfl⟩⟩:=hrel
        cases gk with
        | zero => exact absurd HA.out (by simp [fix_Root.l0])
        | succ k1 =>
          have H:=HA.out;clear HA;simp only [fix_Root.l0] at H
          by_cases c7 : x3_1 = 0
          · rw [if_pos c7] at H
            exact absurd H (by simp)
          · rw [if_neg c7] at H
            have c7b0 : (x3_1 == 0) = false:=beq_eq_false_iff_ne.mpr c7;have c7b1 : (x3_1 != 0) = true:=bne_iff_ne.mpr c7
            by_cases c8 : (wrap64 (Int.tdiv (wrap64 (x3_1 + (wrap64 (Int.tdiv a0 x3_1)))) 2)) ≥ x3_1
            · rw [if_pos c8] at H
              have c8b0 : decide (x3_1 ≤ (wrap64 (Int.tdiv (wrap64 (x3_1 + (wrap64 (Int.tdiv a0 x3_1)))) 2))) = true:=decide_eq_true c8;clear c8;obtain rfl:=Option.some.inj H
              go_wp2
              go_ret
              exact ⟨by first|rfl|(simp;done)|(simp only [← hji4, ← hji6] <;> (first|rfl|simp))|(simp [*];done),by repeat (first|exact Drawn0.refl _|apply Drawn0.step)⟩
            · rw [if_neg c8] at H
              have c8b0 : decide (x3_1 ≤ (wrap64 (Int.tdiv (wrap64 (x3_1 + (wrap64 (Int.tdiv a0 x3_1)))) 2))) = false:=decide_eq_false c8;clear c8;have H':=am H;clear H
              go_wp2
              go_roundg k1
              case measure => have:=HK1.out;omega
              case rel => exact ⟨(wrap64 (Int.tdiv (wrap64 (x3_1 + (wrap64 (Int.tdiv a0 x3_1)))) 2)),(by first|rfl|(simp;done)|(simp [*];done)),H',⟨by have:=HK1.out;omega⟩,by repeat (first|exact Drawn0.refl _|apply Drawn0.step)⟩
    · rw [if_neg c5] at H
      exact absurd H (by simp)

/-! ### affine_Scale: function 31 -/
def affine_Scale.f (k : Nat) (a0_0 : Int) (a0_1 : Int) (a0_2 : Int) (a0_3 : Int) (a0_4 : Int) (a0_5 : Int) : Option (Int):=(field_RightMatrix.f k a0_0 a0_1 a0_2 a0_3 a0_4 a0_5).bind fun t236 => (if t236 = true then ((fix_Root.f k (mx (wrap64 ((wrap64 (a0_0 * a0_3)) - (wrap64 (a0_1 * a0_2)))) (wrap64 (-(wrap64 ((wrap64 (a0_0 * a0_3)) - (wrap64 (a0_1 * a0_2)))))))).bind fun t237 => (some t237)) else (some 0))
theorem affine_Scale.mono : ∀ a0 a1 a2 a3 a4 a5 k,LeO (affine_Scale.f k a0 a1 a2 a3 a4 a5) (affine_Scale.f (k + 1) a0 a1 a2 a3 a4 a5):=by
  intro a0 a1 a2 a3 a4 a5 k
  unfold affine_Scale.f
  repeat' first
      | (with_reducible exact field_RightMatrix.mono _ _ _ _ _ _ _)
      | (with_reducible exact fix_Root.mono _ _)
      | (with_reducible exact LeO.refl _)
      | (with_reducible exact LeO.none _)
      | (with_reducible refine LeO.ite ?_ ?_)
      | (with_reducible refine LeO.bind ?_ (fun _ => ?_))
      | exact field_RightMatrix.mono _ _ _ _ _ _ _
      | exact fix_Root.mono _ _
      | exact LeO.none _
      | refine LeO.ite ?_ ?_
      | refine LeO.bind ?_ (fun _ => ?_)
set_option maxHeartbeats 8000000 in
set_option maxRecDepth 100000 in
theorem affine_Scale.calls (k : Nat) (a0_0 : Int) (a0_1 : Int) (a0_2 : Int) (a0_3 : Int) (a0_4 : Int) (a0_5 : Int) (r : Int) (w : World) (h : affine_Scale.f k a0_0 a0_1 a0_2 a0_3 a0_4 a0_5 = some r) :
    Calls Try.prog 31 #[.agg #[.int .i64 a0_0,.int .i64 a0_1,.int .i64 a0_2,.int .i64 a0_3,.int .i64 a0_4,.int .i64 a0_5]] w fun e w' => e = .returned (.int .i64 r) ∧ Below w.heap.size w w':=by
  have hu43:=Try.underlying43;have HB:=am (Below.refl w.heap.size w);have H : ((field_RightMatrix.f k a0_0 a0_1 a0_2 a0_3 a0_4 a0_5).bind fun t236 => (if t236 = true then ((fix_Root.f k (mx (wrap64 ((wrap64 (a0_0 * a0_3)) - (wrap64 (a0_1 * a0_2)))) (wrap64 (-(wrap64 ((wrap64 (a0_0 * a0_3)) - (wrap64 (a0_1 * a0_2)))))))).bind fun t237 => (some t237)) else (some 0))) = some r:=h;clear h;replace H:=Option.bind_eq_some_iff.mp H;obtain ⟨t236,A20,H⟩:=H;replace H : (if t236 = true then ((fix_Root.f k (mx (wrap64 ((wrap64 (a0_0 * a0_3)) - (wrap64 (a0_1 * a0_2)))) (wrap64 (-(wrap64 ((wrap64 (a0_0 * a0_3)) - (wrap64 (a0_1 * a0_2)))))))).bind fun t237 => (some t237)) else (some 0)) = some r:=H;have A2:=am A20;clear A20
  by_cases c3 : t236 = true
  · subst c3
    have H1 : ((fix_Root.f k (mx (wrap64 ((wrap64 (a0_0 * a0_3)) - (wrap64 (a0_1 * a0_2)))) (wrap64 (-(wrap64 ((wrap64 (a0_0 * a0_3)) - (wrap64 (a0_1 * a0_2)))))))).bind fun t237 => (some t237)) = some r:=by rw [if_pos rfl] at H;exact H
    clear H;have H:=H1;clear H1;obtain ⟨ji4,hji4⟩ : ∃ j_ : Int,(mx (wrap64 ((wrap64 (a0_0 * a0_3)) - (wrap64 (a0_1 * a0_2)))) (wrap64 (-(wrap64 ((wrap64 (a0_0 * a0_3)) - (wrap64 (a0_1 * a0_2))))))) = j_:=⟨_,rfl⟩
    replace H : ((fix_Root.f k (ji4)).bind fun t237 => (some t237)) = some r:=by first|(rw [hji4] at H;exact H)|(simp only [hji4] at H ⊢;exact H)
    (try rw [hji4] at A2);have hji4_ : (if (wrap64 ((wrap64 (a0_0 * a0_3)) - (wrap64 (a0_1 * a0_2)))) < (wrap64 (-(wrap64 ((wrap64 (a0_0 * a0_3)) - (wrap64 (a0_1 * a0_2)))))) then (wrap64 (-(wrap64 ((wrap64 (a0_0 * a0_3)) - (wrap64 (a0_1 * a0_2)))))) else (wrap64 ((wrap64 (a0_0 * a0_3)) - (wrap64 (a0_1 * a0_2))))) = ji4:=hji4;replace H:=Option.bind_eq_some_iff.mp H;obtain ⟨t237,A50,H⟩:=H;replace H : (some t237) = some r:=H;have A5:=am A50;clear A50;obtain rfl:=Option.some.inj H
    go_enter Try.func31,Try.ntmps31
    go_wp2_with (first|((with_reducible refine gate_dst (N:=1) rfl ?_);refine box_event ?hg (N:=1) ?hd (cs:=#[.int .i64 a0_0,.int .i64 a0_1,.int .i64 a0_2,.int .i64 a0_3,.int .i64 a0_4,.int .i64 a0_5]) (t:=43) ?hr ?_;(case hd => rfl);(case hg => rfl);(case hr => first|(go_simp;done)|(go_simp;rfl));intro gb235 hg w6 hbox hb;have BK235:=am (hbox);have GW235:=am ((by rw [hg];exact (sz (by repeat (first|(with_reducible first|exact HB.out|apply sa|apply sn|apply sd)|exact HB.out))) : w.heap.size ≤ gb235));have GE235:=am ((by rw [hg];exact (sz (by repeat (first|(with_reducible first|exact HB.out|apply sa|apply sn|apply sd)|exact HB.out))) : w.heap.size ≤ gb235));replace HB:=am (ss (by repeat (first|(with_reducible first|exact HB.out|apply sa|apply sn|apply sd)|exact HB.out)) hb);clear hb hbox hg;obtain ⟨hcz7_0,hcz7_1,hcz7_2,hcz7_3,hcz7_4,hcz7_5⟩:=cq6 BK235.out;obtain ⟨hfz7_0,hfz7_1,hfz7_2,hfz7_3,hfz7_4,hfz7_5⟩:=fq6 BK235.out)|((with_reducible refine gate_callee (f:=29) rfl ?_);refine goesL_ (some 5) rfl rfl Try.func29 (by kernel_rfl) rfl #[.agg #[.int .i64 a0_0,.int .i64 a0_1,.int .i64 a0_2,.int .i64 a0_3,.int .i64 a0_4,.int .i64 a0_5]] rfl (by (try simp only [List.map_toArray,List.map_cons,List.map_nil]);first|done|rfl|(simp only [List.length_drop,List.length_take];rfl)) ?_;(with_reducible refine (field_RightMatrix.calls k a0_0 a0_1 a0_2 a0_3 a0_4 a0_5 true _ A2.out).mono ?_);rintro e w8 ⟨rfl,hb⟩;refine ⟨_,rfl,?_⟩;replace BK235:=am (bw (by exact BK235.out) hb);replace HB:=am (ss (by repeat (first|(with_reducible first|exact HB.out|apply sa|apply sn|apply sd|refine sx ?_ GE235.out)|exact HB.out)) hb);(try clear hb);(try clear hb2);(try clear hk);(try clear hi);obtain ⟨hcz9_0,hcz9_1,hcz9_2,hcz9_3,hcz9_4,hcz9_5⟩:=cq6 BK235.out;obtain ⟨hfz9_0,hfz9_1,hfz9_2,hfz9_3,hfz9_4,hfz9_5⟩:=fq6 BK235.out)|((with_reducible refine gate_callee (f:=42) rfl ?_);refine goesL_ (some 22) rfl rfl Try.func42 (by kernel_rfl) rfl #[.int .i64 ji4] rfl (by (try simp only [List.map_toArray,List.map_cons,List.map_nil]);first|done|(simp only [hji4];rfl)|rfl|(simp only [List.length_drop,List.length_take];rfl)) ?_;(with_reducible refine (fix_Root.calls k ji4 t237 _ A5.out).mono ?_);rintro e w' ⟨rfl,⟨nd,rfl⟩⟩;refine ⟨_,rfl,?_⟩))
    go_ret
    exact ⟨by first|rfl|(simp [errW_none,errW_some] <;> rfl)|(simp only [← hji4];first|rfl|(simp [errW_none,errW_some] <;> rfl))|(simp [*,errW_none,errW_some] <;> rfl),by repeat (first|(with_reducible first|exact HB.out|apply sa|apply sn|apply sd|refine sx ?_ GE235.out)|exact HB.out)⟩
  · replace c3:=Bool.eq_false_iff.mpr c3
    subst c3
    have H1 : (some 0) = some r:=by rw [if_neg (show ¬ (false = true) by decide)] at H;exact H
    clear H;have H:=H1;clear H1;obtain rfl:=Option.some.inj H
    go_enter Try.func31,Try.ntmps31
    go_wp2_with (first|((with_reducible refine gate_dst (N:=1) rfl ?_);refine box_event ?hg (N:=1) ?hd (cs:=#[.int .i64 a0_0,.int .i64 a0_1,.int .i64 a0_2,.int .i64 a0_3,.int .i64 a0_4,.int .i64 a0_5]) (t:=43) ?hr ?_;(case hd => rfl);(case hg => rfl);(case hr => first|(go_simp;done)|(go_simp;rfl));intro gb235 hg w10 hbox hb;have BK235:=am (hbox);have GW235:=am ((by rw [hg];exact (sz (by repeat (first|(with_reducible first|exact HB.out|apply sa|apply sn|apply sd)|exact HB.out))) : w.heap.size ≤ gb235));have GE235:=am ((by rw [hg];exact (sz (by repeat (first|(with_reducible first|exact HB.out|apply sa|apply sn|apply sd)|exact HB.out))) : w.heap.size ≤ gb235));replace HB:=am (ss (by repeat (first|(with_reducible first|exact HB.out|apply sa|apply sn|apply sd)|exact HB.out)) hb);clear hb hbox hg;obtain ⟨hcz11_0,hcz11_1,hcz11_2,hcz11_3,hcz11_4,hcz11_5⟩:=cq6 BK235.out;obtain ⟨hfz11_0,hfz11_1,hfz11_2,hfz11_3,hfz11_4,hfz11_5⟩:=fq6 BK235.out)|((with_reducible refine gate_callee (f:=29) rfl ?_);refine goesL_ (some 5) rfl rfl Try.func29 (by kernel_rfl) rfl #[.agg #[.int .i64 a0_0,.int .i64 a0_1,.int .i64 a0_2,.int .i64 a0_3,.int .i64 a0_4,.int .i64 a0_5]] rfl (by (try simp only [List.map_toArray,List.map_cons,List.map_nil]);first|done|rfl|(simp only [List.length_drop,List.length_take];rfl)) ?_;(with_reducible refine (field_RightMatrix.calls k a0_0 a0_1 a0_2 a0_3 a0_4 a0_5 false _ A2.out).mono ?_);rintro e w12 ⟨rfl,hb⟩;refine ⟨_,rfl,?_⟩;replace BK235:=am (bw (by exact BK235.out) hb);replace HB:=am (ss (by repeat (first|(with_reducible first|exact HB.out|apply sa|apply sn|apply sd|refine sx ?_ GE235.out)|exact HB.out)) hb);(try clear hb);(try clear hb2);(try clear hk);(try clear hi)))
    go_ret
    exact ⟨by first|rfl|(simp [errW_none,errW_some] <;> rfl)|(simp [*,errW_none,errW_some] <;> rfl),by repeat (first|(with_reducible first|exact HB.out|apply sa|apply sn|apply sd|refine sx ?_ GE235.out)|exact HB.out)⟩

/-! ### stroke_Width: function 19 -/
def stroke_Width.j0 : Nat → Int → Bool → Int → Int → Int → Int → Int → Int → Option (Int)
  | 0,_,_,_,_,_,_,_,_ => none
  | k + 1,x0,x17,x239000,x239001,x239002,x239003,x239004,x239005 => if x17 = true then (some 0) else ((affine_Scale.f k x239000 x239001 x239002 x239003 x239004 x239005).bind fun t240 => ((fix_Round.f k (wrap64 ((wrap64 (x0 * t240)) * 16)) 327680).bind fun bt241 => (some (mn (mx bt241.1 64) 1048576))))
def stroke_Width.f (k : Nat) (a0 : Int) (a1_0 : Int) (a1_1 : Int) (a1_2 : Int) (a1_3 : Int) (a1_4 : Int) (a1_5 : Int) : Option (Int):=if a0 < 0 then (stroke_Width.j0 k a0 true a1_0 a1_1 a1_2 a1_3 a1_4 a1_5) else (if a0 ≥ 65536 then (stroke_Width.j0 k a0 true a1_0 a1_1 a1_2 a1_3 a1_4 a1_5) else ((field_RightMatrix.f k a1_0 a1_1 a1_2 a1_3 a1_4 a1_5).bind fun t239 => (stroke_Width.j0 k a0 (!t239) a1_0 a1_1 a1_2 a1_3 a1_4 a1_5)))
theorem stroke_Width.mono_l : ∀ k,(∀ y0 y1 y2 y3 y4 y5 y6 y7,LeO (stroke_Width.j0 k y0 y1 y2 y3 y4 y5 y6 y7) (stroke_Width.j0 (k + 1) y0 y1 y2 y3 y4 y5 y6 y7))
  | 0 => fun _ _ _ _ _ _ _ _ r h => by simp [stroke_Width.j0] at h
  | k + 1 => by
    have ih0:=stroke_Width.mono_l k
    · intro y0 y1 y2 y3 y4 y5 y6 y7
      unfold stroke_Width.j0
      repeat' first
      | (with_reducible exact ih0 _ _ _ _ _ _ _ _)
      | (with_reducible exact affine_Scale.mono _ _ _ _ _ _ _)
      | (with_reducible exact field_RightMatrix.mono _ _ _ _ _ _ _)
      | (with_reducible exact fix_Round.mono _ _ _)
      | (with_reducible exact LeO.refl _)
      | (with_reducible exact LeO.none _)
      | (with_reducible refine LeO.ite ?_ ?_)
      | (with_reducible refine LeO.bind ?_ (fun _ => ?_))
      | exact ih0 _ _ _ _ _ _ _ _
      | exact affine_Scale.mono _ _ _ _ _ _ _
      | exact field_RightMatrix.mono _ _ _ _ _ _ _
      | exact fix_Round.mono _ _ _
      | exact LeO.none _
      | refine LeO.ite ?_ ?_
      | refine LeO.bind ?_ (fun _ => ?_)
theorem stroke_Width.mono : ∀ a0 a1 a2 a3 a4 a5 a6 k,LeO (stroke_Width.f k a0 a1 a2 a3 a4 a5 a6) (stroke_Width.f (k + 1) a0 a1 a2 a3 a4 a5 a6):=by
  intro a0 a1 a2 a3 a4 a5 a6 k
  have ih0:=stroke_Width.mono_l k
  unfold stroke_Width.f
  repeat' first
      | (with_reducible exact ih0 _ _ _ _ _ _ _ _)
      | (with_reducible exact affine_Scale.mono _ _ _ _ _ _ _)
      | (with_reducible exact field_RightMatrix.mono _ _ _ _ _ _ _)
      | (with_reducible exact fix_Round.mono _ _ _)
      | (with_reducible exact LeO.refl _)
      | (with_reducible exact LeO.none _)
      | (with_reducible refine LeO.ite ?_ ?_)
      | (with_reducible refine LeO.bind ?_ (fun _ => ?_))
      | exact ih0 _ _ _ _ _ _ _ _
      | exact affine_Scale.mono _ _ _ _ _ _ _
      | exact field_RightMatrix.mono _ _ _ _ _ _ _
      | exact fix_Round.mono _ _ _
      | exact LeO.none _
      | refine LeO.ite ?_ ?_
      | refine LeO.bind ?_ (fun _ => ?_)
set_option maxHeartbeats 8000000 in
set_option maxRecDepth 100000 in
theorem stroke_Width.calls (k : Nat) (a0 : Int) (a1_0 : Int) (a1_1 : Int) (a1_2 : Int) (a1_3 : Int) (a1_4 : Int) (a1_5 : Int) (r : Int) (w : World) (h : stroke_Width.f k a0 a1_0 a1_1 a1_2 a1_3 a1_4 a1_5 = some r) :
    Calls Try.prog 19 #[.int .i64 a0,.agg #[.int .i64 a1_0,.int .i64 a1_1,.int .i64 a1_2,.int .i64 a1_3,.int .i64 a1_4,.int .i64 a1_5]] w fun e w' => e = .returned (.int .i64 r) ∧ Below w.heap.size w w':=by
  have hu43:=Try.underlying43;have HB:=am (Below.refl w.heap.size w);have H : (if a0 < 0 then (stroke_Width.j0 k a0 true a1_0 a1_1 a1_2 a1_3 a1_4 a1_5) else (if a0 ≥ 65536 then (stroke_Width.j0 k a0 true a1_0 a1_1 a1_2 a1_3 a1_4 a1_5) else ((field_RightMatrix.f k a1_0 a1_1 a1_2 a1_3 a1_4 a1_5).bind fun t239 => (stroke_Width.j0 k a0 (!t239) a1_0 a1_1 a1_2 a1_3 a1_4 a1_5)))) = some r:=h;clear h;have HC3:=am H;clear H
  go_enter Try.func19,Try.ntmps19
  go_upto_region 1 with (first|((with_reducible refine gate_dst (N:=3) rfl ?_);refine box_event ?hg (N:=3) ?hd (cs:=#[.int .i64 a1_0,.int .i64 a1_1,.int .i64 a1_2,.int .i64 a1_3,.int .i64 a1_4,.int .i64 a1_5]) (t:=43) ?hr ?_;(case hd => rfl);(case hg => rfl);(case hr => first|(go_simp;done)|(go_simp;rfl));intro gb238 hg w4 hbox hb;have n0_:=am (ss (by repeat (first|(with_reducible first|exact HB.out|apply sa|apply sn|apply sd)|exact HB.out)) hb);have n1_:=am (hbox);have n2_:=am ((by rw [hg];exact (sz (by repeat (first|(with_reducible first|exact HB.out|apply sa|apply sn|apply sd)|exact HB.out))) : w.heap.size ≤ gb238));have n3_:=am ((by rw [hg];exact (sz (by repeat (first|(with_reducible first|exact HB.out|apply sa|apply sn|apply sd)|exact HB.out))) : w.heap.size ≤ gb238));clear HB;have HB:=n0_;have BK238:=n1_;have GW238:=n2_;have GE238:=n3_;clear n0_ n1_ n2_ n3_;clear hb hbox hg))
  (try simp only [Act.put,q1,q2,q3])
  go_cut [17] (fun v17 wc => ∃ (kq : Nat) (x17_2 : Bool),v17 = .bool x17_2 ∧ Aside0 (stroke_Width.j0 kq a0 x17_2 a1_0 a1_1 a1_2 a1_3 a1_4 a1_5 = some r) ∧ Aside0 (kq ≤ k) ∧ Aside0 (wc.heap[gb238]? = some (.cells #[.int .i64 a1_0,.int .i64 a1_1,.int .i64 a1_2,.int .i64 a1_3,.int .i64 a1_4,.int .i64 a1_5] 43 (0,0))) ∧ Aside0 (Below w.heap.size w wc))
  case first =>
    have H:=HC3.out;clear HC3
    by_cases c5 : a0 < 0
    · rw [if_pos c5] at H
      have c5b0 : decide (a0 < 0) = true:=decide_eq_true c5;clear c5
      (first|rw [c5b0]|(simp only [i64_w,i32_w];rw [c5b0])|skip)
      have H':=am H;clear H
      go_wp2
      go_meet
      case rel => exact ⟨_,(true),(by first|rfl|(simp;done)|(simp [*];done)),H',⟨by first|omega|exact Nat.le_refl _⟩,⟨by exact BK238.out⟩,⟨by repeat (first|(with_reducible first|exact HB.out|apply sa|apply sn|apply sd|refine sx ?_ GE238.out)|exact HB.out)⟩⟩
    · rw [if_neg c5] at H
      have c5b0 : decide (a0 < 0) = false:=decide_eq_false c5;clear c5
      (first|rw [c5b0]|(simp only [i64_w,i32_w];rw [c5b0])|skip)
      by_cases c6 : a0 ≥ 65536
      · rw [if_pos c6] at H
        have c6b0 : decide (65536 ≤ a0) = true:=decide_eq_true c6;clear c6;have H':=am H;clear H
        go_wp2
        go_meet
        case rel => exact ⟨_,(true),(by first|rfl|(simp;done)|(simp [*];done)),H',⟨by first|omega|exact Nat.le_refl _⟩,⟨by exact BK238.out⟩,⟨by repeat (first|(with_reducible first|exact HB.out|apply sa|apply sn|apply sd|refine sx ?_ GE238.out)|exact HB.out)⟩⟩
      · rw [if_neg c6] at H
        have c6b0 : decide (65536 ≤ a0) = false:=decide_eq_false c6;clear c6;replace H:=Option.bind_eq_some_iff.mp H;obtain ⟨t239,A70,H⟩:=H;replace H : (stroke_Width.j0 k a0 (!t239) a1_0 a1_1 a1_2 a1_3 a1_4 a1_5) = some r:=H;have A7:=am A70;clear A70;have H':=am H;clear H;have hcz8_0 : w4.cell? ⟨gb238,0,none⟩ = some (.int .i64 a1_0):=(bc BK238.out 0).trans rfl;have hcz8_1 : w4.cell? ⟨gb238,1,none⟩ = some (.int .i64 a1_1):=(bc BK238.out 1).trans rfl;have hcz8_2 : w4.cell? ⟨gb238,2,none⟩ = some (.int .i64 a1_2):=(bc BK238.out 2).trans rfl;have hcz8_3 : w4.cell? ⟨gb238,3,none⟩ = some (.int .i64 a1_3):=(bc BK238.out 3).trans rfl;have hcz8_4 : w4.cell? ⟨gb238,4,none⟩ = some (.int .i64 a1_4):=(bc BK238.out 4).trans rfl;have hcz8_5 : w4.cell? ⟨gb238,5,none⟩ = some (.int .i64 a1_5):=(bc BK238.out 5).trans rfl;have hfz8_0:=bz BK238.out 0;have hfz8_1:=bz BK238.out 1;have hfz8_2:=bz BK238.out 2;have hfz8_3:=bz BK238.out 3;have hfz8_4:=bz BK238.out 4;have hfz8_5:=bz BK238.out 5
        go_wp2_with (first|(go_at_call 29;(with_reducible refine (field_RightMatrix.calls k a1_0 a1_1 a1_2 a1_3 a1_4 a1_5 t239 _ A7.out).mono ?_);rintro e w9 ⟨rfl,hb⟩;replace BK238:=am (bw (by exact BK238.out) hb);replace HB:=am (ss (by repeat (first|(with_reducible first|exact HB.out|apply sa|apply sn|apply sd|refine sx ?_ GE238.out)|exact HB.out)) hb);(try clear hb);(try clear hb2);(try clear hk);(try clear hi)))
        go_meet
        case rel => exact ⟨_,(!t239),(by first|rfl|(simp;done)|(simp [*];done)),H',⟨by first|omega|exact Nat.le_refl _⟩,⟨by exact BK238.out⟩,⟨by repeat (first|(with_reducible first|exact HB.out|apply sa|apply sn|apply sd|refine sx ?_ GE238.out)|exact HB.out)⟩⟩
  case rest =>
    clear HC3
    try clear c1
    try clear p2
    try clear c5
    try clear c5b0
    try clear c6
    try clear c6b0
    try clear hcz8_0
    try clear hcz8_1
    try clear hcz8_2
    try clear hcz8_3
    try clear hcz8_4
    try clear hcz8_5
    try clear hfz8_0
    try clear hfz8_1
    try clear hfz8_2
    try clear hfz8_3
    try clear hfz8_4
    try clear hfz8_5
    obtain ⟨kq,x17_2,rfl,HA,HJ2,BK238,HB⟩:=hcut
    cases kq with
    | zero => exact absurd HA.out (by simp [stroke_Width.j0])
    | succ kj2 =>
      have H:=HA.out;clear HA;simp only [stroke_Width.j0] at H
      by_cases c10 : x17_2 = true
      · subst c10
        have H1 : (some 0) = some r:=by rw [if_pos rfl] at H;exact H
        clear H;have H:=H1;clear H1;obtain rfl:=Option.some.inj H
        go_wp2
        go_ret
        exact ⟨by first|rfl|(simp [errW_none,errW_some] <;> rfl)|(simp [*,errW_none,errW_some] <;> rfl),by repeat (first|(with_reducible first|exact HB.out|apply sa|apply sn|apply sd|refine sx ?_ GE238.out)|exact HB.out)⟩
      · replace c10:=Bool.eq_false_iff.mpr c10
        subst c10
        have H1 : ((affine_Scale.f kj2 a1_0 a1_1 a1_2 a1_3 a1_4 a1_5).bind fun t240 => ((fix_Round.f kj2 (wrap64 ((wrap64 (a0 * t240)) * 16)) 327680).bind fun bt241 => (some (mn (mx bt241.1 64) 1048576)))) = some r:=by rw [if_neg (show ¬ (false = true) by decide)] at H;exact H
        clear H;have H:=H1;clear H1;replace H:=Option.bind_eq_some_iff.mp H;obtain ⟨t240,A110,H⟩:=H;replace H : ((fix_Round.f kj2 (wrap64 ((wrap64 (a0 * t240)) * 16)) 327680).bind fun bt241 => (some (mn (mx bt241.1 64) 1048576))) = some r:=H;have A11:=am A110;clear A110;replace H:=Option.bind_eq_some_iff.mp H;obtain ⟨⟨t241,t242⟩,A120,H⟩:=H;replace H : (some (mn (mx t241 64) 1048576)) = some r:=H;have A12:=am A120;clear A120;obtain ⟨ji13,hji13⟩ : ∃ j_ : Int,(mx t241 64) = j_:=⟨_,rfl⟩
        replace H : (some (mn (ji13) 1048576)) = some r:=by first|(rw [hji13] at H;exact H)|(simp only [hji13] at H ⊢;exact H)
        (try rw [hji13] at A11);(try rw [hji13] at A12)
        (try (have hji13l : 64 ≤ ji13:=by (rw [← hji13];unfold mx;(repeat' split) <;> omega)))
        (try (have hji13m : 0 ≤ ji13:=by omega))
        have hji13_ : (if t241 < 64 then 64 else t241) = ji13:=hji13;obtain ⟨ji14,hji14⟩ : ∃ j_ : Int,(mn (ji13) 1048576) = j_:=⟨_,rfl⟩
        replace H : (some ji14) = some r:=by first|(rw [hji14] at H;exact H)|(simp only [hji14] at H ⊢;exact H)
        (try rw [hji14] at A11);(try rw [hji14] at A12);have hji14_ : (if 1048576 < (ji13) then 1048576 else (ji13)) = ji14:=hji14;obtain rfl:=Option.some.inj H;have hcz15_0 : wc.cell? ⟨gb238,0,none⟩ = some (.int .i64 a1_0):=(bc BK238.out 0).trans rfl;have hcz15_1 : wc.cell? ⟨gb238,1,none⟩ = some (.int .i64 a1_1):=(bc BK238.out 1).trans rfl;have hcz15_2 : wc.cell? ⟨gb238,2,none⟩ = some (.int .i64 a1_2):=(bc BK238.out 2).trans rfl;have hcz15_3 : wc.cell? ⟨gb238,3,none⟩ = some (.int .i64 a1_3):=(bc BK238.out 3).trans rfl;have hcz15_4 : wc.cell? ⟨gb238,4,none⟩ = some (.int .i64 a1_4):=(bc BK238.out 4).trans rfl;have hcz15_5 : wc.cell? ⟨gb238,5,none⟩ = some (.int .i64 a1_5):=(bc BK238.out 5).trans rfl;have hfz15_0:=bz BK238.out 0;have hfz15_1:=bz BK238.out 1;have hfz15_2:=bz BK238.out 2;have hfz15_3:=bz BK238.out 3;have hfz15_4:=bz BK238.out 4;have hfz15_5:=bz BK238.out 5
        go_wp2_with (first|((with_reducible refine gate_callee (f:=31) rfl ?_);refine goesL_ (some 21) rfl rfl Try.func31 (by kernel_rfl) rfl #[.agg #[.int .i64 a1_0,.int .i64 a1_1,.int .i64 a1_2,.int .i64 a1_3,.int .i64 a1_4,.int .i64 a1_5]] rfl (by (try simp only [List.map_toArray,List.map_cons,List.map_nil]);first|done|rfl|(simp only [List.length_drop,List.length_take];rfl)) ?_;(with_reducible refine (affine_Scale.calls kj2 a1_0 a1_1 a1_2 a1_3 a1_4 a1_5 t240 _ A11.out).mono ?_);rintro e w16 ⟨rfl,hb⟩;refine ⟨_,rfl,?_⟩;replace BK238:=am (bw (by exact BK238.out) hb);replace HB:=am (ss (by repeat (first|(with_reducible first|exact HB.out|apply sa|apply sn|apply sd|refine sx ?_ GE238.out)|exact HB.out)) hb);(try clear hb);(try clear hb2);(try clear hk);(try clear hi))|((with_reducible refine gate_callee (f:=30) rfl ?_);refine goesL_ (some 24) rfl rfl Try.func30 (by kernel_rfl) rfl #[.int .i64 (wrap64 ((wrap64 (a0 * t240)) * 16)),.int .i64 327680] rfl (by (try simp only [List.map_toArray,List.map_cons,List.map_nil]);first|done|rfl|(simp only [List.length_drop,List.length_take];rfl)) ?_;(with_reducible refine (fix_Round.calls kj2 (wrap64 ((wrap64 (a0 * t240)) * 16)) 327680 t241 t242 _ A12.out).mono ?_);rintro e w17 ⟨rfl,hb⟩;refine ⟨_,rfl,?_⟩;replace BK238:=am (bw (by exact BK238.out) hb);replace HB:=am (ss (by repeat (first|(with_reducible first|exact HB.out|apply sa|apply sn|apply sd|refine sx ?_ GE238.out)|exact HB.out)) hb);(try clear hb);(try clear hb2);(try clear hk);(try clear hi)))
        go_ret
        exact ⟨by first|rfl|(simp [errW_none,errW_some] <;> rfl)|(simp only [← hji13, ← hji14];first|rfl|(simp [errW_none,errW_some] <;> rfl))|(simp [*,errW_none,errW_some] <;> rfl),by repeat (first|(with_reducible first|exact HB.out|apply sa|apply sn|apply sd|refine sx ?_ GE238.out)|exact HB.out)⟩

end Go.Proofs.Ytnofihkmgedbfaa.P
