/- Printed by printx.py (wip/tool) out of the translation: plain functions that tell what the program answers,and the proofs that the program comes to these answers,for all arguments of their kinds. Lean checks it. -/
import Derived.Test.YtaognlikgbcejaaShort
import Derived.Test.YtaognlikgbcejaaPx0
import Derived.Test.YtaognlikgbcejaaPx5
import Derived.Test.YtaognlikgbcejaaPx6
namespace Go.Proofs.Ytaognlikgbcejaa.P
open Go.RowKit Go.Proofs.YtaognlikgbcejaaW.PrintWords Go.Proofs.YtaognlikgbcejaaW.PrintLast Go.Proofs.YtaognlikgbcejaaW.PrintMore
attribute [local go_sem] max2_int min2_int max_two min_two max_three min_three max_four min_four max_five min_five max_six min_six   -- for this text's walks alone
set_option linter.unusedVariables false
set_option linter.unusedSimpArgs false

/-! ### fix_MulDiv: function 46 -/
def fix_MulDiv.j0 : Nat → Int → Int → Bool → Option (Int × Bool)
  | 0,_,_,_ => none
  | k + 1,x12,x13,x47 => if x47 = true then ((fix_narrowed.f x12 false).bind fun t131 => (if t131 = true then (some (wrap64 (x12),true)) else (some (0,false)))) else (if x13 > 0 then (if (IntKind.u64.wrap (x12 + 1)) = 0 then (some (0,false)) else ((fix_narrowed.f (IntKind.u64.wrap (x12 + 1)) true).bind fun t132 => (if t132 = true then (some (wrap64 (IntKind.u64.wrap (-(IntKind.u64.wrap (x12 + 1)))),true)) else (some (0,false))))) else ((fix_narrowed.f x12 true).bind fun t133 => (if t133 = true then (some (wrap64 (IntKind.u64.wrap (-x12)),true)) else (some (0,false)))))
def fix_MulDiv.f (k : Nat) (a0 : Int) (a1 : Int) (a2 : Int) : Option (Int × Bool):=if a2 = 0 then (some (0,false)) else ((fix_times.f a0 a1).bind fun bt123 => ((fix_wide_abs.f bt123.1 bt123.2).bind fun bt125 => ((fix_size.f a2).bind fun t128 => (if bt125.1 ≥ t128 then (some (0,false)) else ((bits_Div64.f k bt125.1 bt125.2.1 t128).bind fun bt129 => (if (bt125.2.2 == (decide (a2 < 0))) = true then (fix_MulDiv.j0 k bt129.1 bt129.2 true) else (if bt129.1 = 0 then (fix_MulDiv.j0 k bt129.1 bt129.2 (bt129.2 == 0)) else (fix_MulDiv.j0 k bt129.1 bt129.2 false))))))))
theorem fix_MulDiv.mono_l : ∀ k,(∀ y0 y1 y2,LeO (fix_MulDiv.j0 k y0 y1 y2) (fix_MulDiv.j0 (k + 1) y0 y1 y2))
  | 0 => fun _ _ _ r h => by simp [fix_MulDiv.j0] at h
  | k + 1 => by
    have ih0:=fix_MulDiv.mono_l k
    · intro y0 y1 y2
      unfold fix_MulDiv.j0
      repeat' first
      | (with_reducible exact ih0 _ _ _)
      | (with_reducible exact bits_Div64.mono _ _ _ _)
      | (with_reducible exact LeO.refl _)
      | (with_reducible exact LeO.none _)
      | (with_reducible refine LeO.ite ?_ ?_)
      | (with_reducible refine LeO.bind ?_ (fun _ => ?_))
      | exact ih0 _ _ _
      | exact bits_Div64.mono _ _ _ _
      | exact LeO.none _
      | refine LeO.ite ?_ ?_
      | refine LeO.bind ?_ (fun _ => ?_)
theorem fix_MulDiv.mono : ∀ a0 a1 a2 k,LeO (fix_MulDiv.f k a0 a1 a2) (fix_MulDiv.f (k + 1) a0 a1 a2):=by
  intro a0 a1 a2 k
  have ih0:=fix_MulDiv.mono_l k
  unfold fix_MulDiv.f
  repeat' first
      | (with_reducible exact ih0 _ _ _)
      | (with_reducible exact bits_Div64.mono _ _ _ _)
      | (with_reducible exact LeO.refl _)
      | (with_reducible exact LeO.none _)
      | (with_reducible refine LeO.ite ?_ ?_)
      | (with_reducible refine LeO.bind ?_ (fun _ => ?_))
      | exact ih0 _ _ _
      | exact bits_Div64.mono _ _ _ _
      | exact LeO.none _
      | refine LeO.ite ?_ ?_
      | refine LeO.bind ?_ (fun _ => ?_)
set_option maxHeartbeats 8000000 in
set_option maxRecDepth 100000 in
theorem fix_MulDiv.calls (k : Nat) (a0 : Int) (a1 : Int) (a2 : Int) (r1 : Int) (r2 : Bool) (w : World) (h : fix_MulDiv.f k a0 a1 a2 = some (r1,r2)) :
    Calls Try.prog 46 #[.int .i64 a0,.int .i64 a1,.int .i64 a2] w fun e w' => e = .returned (.tuple #[.int .i64 r1,.bool r2]) ∧ Below w.heap.size w w':=by
  have HB:=am (Below.refl w.heap.size w);have H : (if a2 = 0 then (some (0,false)) else ((fix_times.f a0 a1).bind fun bt123 => ((fix_wide_abs.f bt123.1 bt123.2).bind fun bt125 => ((fix_size.f a2).bind fun t128 => (if bt125.1 ≥ t128 then (some (0,false)) else ((bits_Div64.f k bt125.1 bt125.2.1 t128).bind fun bt129 => (if (bt125.2.2 == (decide (a2 < 0))) = true then (fix_MulDiv.j0 k bt129.1 bt129.2 true) else (if bt129.1 = 0 then (fix_MulDiv.j0 k bt129.1 bt129.2 (bt129.2 == 0)) else (fix_MulDiv.j0 k bt129.1 bt129.2 false))))))))) = some (r1,r2):=h;clear h
  by_cases c4 : a2 = 0
  · rw [if_pos c4] at H
    have c4b0 : (a2 == 0) = true:=beq_iff_eq.mpr c4;have c4b1 : (a2 != 0) = false:=bne_eq_false_iff_eq.mpr c4;clear c4;simp only [Option.some.injEq,Prod.mk.injEq] at H;obtain ⟨rfl,rfl⟩:=H
    go_enter Try.func46,Try.ntmps46
    go_wp2
    go_ret2
    exact ⟨by first|rfl|(simp [errW_none,errW_some] <;> rfl)|(simp [*,errW_none,errW_some] <;> rfl),by repeat (first|(with_reducible first|exact HB.out|apply sa|apply sn|apply sd)|exact HB.out)⟩
  · rw [if_neg c4] at H
    have c4b0 : (a2 == 0) = false:=beq_eq_false_iff_ne.mpr c4;have c4b1 : (a2 != 0) = true:=bne_iff_ne.mpr c4;replace H:=Option.bind_eq_some_iff.mp H;obtain ⟨⟨t123,t124⟩,A50,H⟩:=H;replace H : ((fix_wide_abs.f t123 t124).bind fun bt125 => ((fix_size.f a2).bind fun t128 => (if bt125.1 ≥ t128 then (some (0,false)) else ((bits_Div64.f k bt125.1 bt125.2.1 t128).bind fun bt129 => (if (bt125.2.2 == (decide (a2 < 0))) = true then (fix_MulDiv.j0 k bt129.1 bt129.2 true) else (if bt129.1 = 0 then (fix_MulDiv.j0 k bt129.1 bt129.2 (bt129.2 == 0)) else (fix_MulDiv.j0 k bt129.1 bt129.2 false))))))) = some (r1,r2):=H;have A5:=am A50;clear A50;replace H:=Option.bind_eq_some_iff.mp H;obtain ⟨⟨t125,t126,t127⟩,A60,H⟩:=H;replace H : ((fix_size.f a2).bind fun t128 => (if t125 ≥ t128 then (some (0,false)) else ((bits_Div64.f k t125 t126 t128).bind fun bt129 => (if (t127 == (decide (a2 < 0))) = true then (fix_MulDiv.j0 k bt129.1 bt129.2 true) else (if bt129.1 = 0 then (fix_MulDiv.j0 k bt129.1 bt129.2 (bt129.2 == 0)) else (fix_MulDiv.j0 k bt129.1 bt129.2 false)))))) = some (r1,r2):=H;have A6:=am A60;clear A60;replace H:=Option.bind_eq_some_iff.mp H;obtain ⟨t128,A70,H⟩:=H;replace H : (if t125 ≥ t128 then (some (0,false)) else ((bits_Div64.f k t125 t126 t128).bind fun bt129 => (if (t127 == (decide (a2 < 0))) = true then (fix_MulDiv.j0 k bt129.1 bt129.2 true) else (if bt129.1 = 0 then (fix_MulDiv.j0 k bt129.1 bt129.2 (bt129.2 == 0)) else (fix_MulDiv.j0 k bt129.1 bt129.2 false))))) = some (r1,r2):=H;have A7:=am A70;clear A70
    by_cases c8 : t125 ≥ t128
    · rw [if_pos c8] at H
      have c8b0 : decide (t128 ≤ t125) = true:=decide_eq_true c8;clear c8;simp only [Option.some.injEq,Prod.mk.injEq] at H;obtain ⟨rfl,rfl⟩:=H
      go_enter Try.func46,Try.ntmps46
      go_wp2_with (first|((with_reducible refine gate_callee (f:=50) rfl ?_);refine goesL_ (some 19) rfl rfl Try.func50 (by kernel_rfl) rfl #[.int .i64 a0,.int .i64 a1] rfl (by (try simp only [List.map_toArray,List.map_cons,List.map_nil]);first|done|rfl|(simp only [List.length_drop,List.length_take];rfl)) ?_;(with_reducible refine (fix_times.calls a0 a1 t123 t124 _ A5.out).mono ?_);rintro e w9 ⟨rfl,hb⟩;refine ⟨_,rfl,?_⟩;replace HB:=am (ss (by repeat (first|(with_reducible first|exact HB.out|apply sa|apply sn|apply sd)|exact HB.out)) hb);(try clear hb);(try clear hb2);(try clear hk);(try clear hi))|((with_reducible refine gate_callee (f:=51) rfl ?_);refine goesL_ (some 20) rfl rfl Try.func51 (by kernel_rfl) rfl #[.agg #[.int .i64 t123,.int .u64 t124]] rfl (by (try simp only [List.map_toArray,List.map_cons,List.map_nil]);first|done|rfl|(simp only [List.length_drop,List.length_take];rfl)) ?_;(with_reducible refine (fix_wide_abs.calls t123 t124 t125 t126 t127 _ A6.out).mono ?_);rintro e w10 ⟨rfl,hb⟩;refine ⟨_,rfl,?_⟩;replace HB:=am (ss (by repeat (first|(with_reducible first|exact HB.out|apply sa|apply sn|apply sd)|exact HB.out)) hb);(try clear hb);(try clear hb2);(try clear hk);(try clear hi))|((with_reducible refine gate_callee (f:=48) rfl ?_);refine goesL_ (some 25) rfl rfl Try.func48 (by kernel_rfl) rfl #[.int .i64 a2] rfl (by (try simp only [List.map_toArray,List.map_cons,List.map_nil]);first|done|rfl|(simp only [List.length_drop,List.length_take];rfl)) ?_;(with_reducible refine (fix_size.calls a2 t128 _ A7.out).mono ?_);rintro e w' ⟨rfl,⟨nd,rfl⟩⟩;refine ⟨_,rfl,?_⟩))
      go_ret2
      exact ⟨by first|rfl|(simp [errW_none,errW_some] <;> rfl)|(simp [*,errW_none,errW_some] <;> rfl),by repeat (first|(with_reducible first|exact HB.out|apply sa|apply sn|apply sd)|exact HB.out)⟩
    · rw [if_neg c8] at H
      have c8b0 : decide (t128 ≤ t125) = false:=decide_eq_false c8;clear c8;replace H:=Option.bind_eq_some_iff.mp H;obtain ⟨⟨t129,t130⟩,A110,H⟩:=H;replace H : (if (t127 == (decide (a2 < 0))) = true then (fix_MulDiv.j0 k t129 t130 true) else (if t129 = 0 then (fix_MulDiv.j0 k t129 t130 (t130 == 0)) else (fix_MulDiv.j0 k t129 t130 false))) = some (r1,r2):=H;have A11:=am A110;clear A110;have HC12:=am H;clear H
      go_enter Try.func46,Try.ntmps46
      go_upto_region 8 with (first|((with_reducible refine gate_callee (f:=50) rfl ?_);refine goesL_ (some 19) rfl rfl Try.func50 (by kernel_rfl) rfl #[.int .i64 a0,.int .i64 a1] rfl (by (try simp only [List.map_toArray,List.map_cons,List.map_nil]);first|done|rfl|(simp only [List.length_drop,List.length_take];rfl)) ?_;(with_reducible refine (fix_times.calls a0 a1 t123 t124 _ A5.out).mono ?_);rintro e w13 ⟨rfl,hb⟩;refine ⟨_,rfl,?_⟩;have n0_:=am (ss (by repeat (first|(with_reducible first|exact HB.out|apply sa|apply sn|apply sd)|exact HB.out)) hb);clear HB;have HB:=n0_;clear n0_;(try clear hb);(try clear hb2);(try clear hk);(try clear hi))|((with_reducible refine gate_callee (f:=51) rfl ?_);refine goesL_ (some 20) rfl rfl Try.func51 (by kernel_rfl) rfl #[.agg #[.int .i64 t123,.int .u64 t124]] rfl (by (try simp only [List.map_toArray,List.map_cons,List.map_nil]);first|done|rfl|(simp only [List.length_drop,List.length_take];rfl)) ?_;(with_reducible refine (fix_wide_abs.calls t123 t124 t125 t126 t127 _ A6.out).mono ?_);rintro e w14 ⟨rfl,hb⟩;refine ⟨_,rfl,?_⟩;have n0_:=am (ss (by repeat (first|(with_reducible first|exact HB.out|apply sa|apply sn|apply sd)|exact HB.out)) hb);clear HB;have HB:=n0_;clear n0_;(try clear hb);(try clear hb2);(try clear hk);(try clear hi))|((with_reducible refine gate_callee (f:=48) rfl ?_);refine goesL_ (some 25) rfl rfl Try.func48 (by kernel_rfl) rfl #[.int .i64 a2] rfl (by (try simp only [List.map_toArray,List.map_cons,List.map_nil]);first|done|rfl|(simp only [List.length_drop,List.length_take];rfl)) ?_;(with_reducible refine (fix_size.calls a2 t128 _ A7.out).mono ?_);rintro e w' ⟨rfl,⟨nd,rfl⟩⟩;refine ⟨_,rfl,?_⟩)|((with_reducible refine gate_callee (f:=52) rfl ?_);refine goesL_ (some 33) rfl rfl Try.func52 (by kernel_rfl) rfl #[.int .u64 t125,.int .u64 t126,.int .u64 t128] rfl (by (try simp only [List.map_toArray,List.map_cons,List.map_nil]);first|done|rfl|(simp only [List.length_drop,List.length_take];rfl)) ?_;(with_reducible refine (bits_Div64.calls k t125 t126 t128 t129 t130 _ A11.out).mono ?_);rintro e w' ⟨rfl,⟨nd,rfl⟩⟩;refine ⟨_,rfl,?_⟩))
      (try simp only [Act.put,q1,q2,q3])
      go_cut [47] (fun v47 wc => ∃ (kq : Nat) (x47_11 : Bool),v47 = .bool x47_11 ∧ Aside0 (fix_MulDiv.j0 kq t129 t130 x47_11 = some (r1,r2)) ∧ Aside0 (kq ≤ k) ∧ Aside0 (Below w.heap.size w wc))
      case first =>
        have H:=HC12.out;clear HC12
        by_cases c15 : (t127 == (decide (a2 < 0))) = true
        · rw [if_pos c15] at H
          have c15b0 : (t127 == (decide (a2 < 0))) = true:=c15
          (try (have c15b1 : decide (t127 = (decide (a2 < 0))) = true:=by simpa using c15))
          (try (have c15b2 : (t127 == (decide (a2 < 0))) = true:=by simpa using c15))
          clear c15
          (first|rw [c15b0]|(simp only [i64_w,i32_w];rw [c15b0])|skip)
          have H':=am H;clear H
          go_wp2
          go_meet
          case rel => exact ⟨_,(true),(by first|rfl|(simp;done)|(simp [*];done)),H',⟨by first|omega|exact Nat.le_refl _⟩,⟨by repeat (first|(with_reducible first|exact HB.out|apply sa|apply sn|apply sd)|exact HB.out)⟩⟩
        · rw [if_neg c15] at H
          have c15b0 : (t127 == (decide (a2 < 0))) = false:=by simpa using c15
          (try (have c15b1 : decide (t127 = (decide (a2 < 0))) = false:=by simpa using c15))
          (try (have c15b2 : (t127 == (decide (a2 < 0))) = false:=by simpa using c15))
          (try (have c15b3 : ¬ (t127 = (decide (a2 < 0))):=by simpa using c15))
          clear c15
          (first|rw [c15b0]|(simp only [i64_w,i32_w];rw [c15b0])|skip)
          by_cases c16 : t129 = 0
          · rw [if_pos c16] at H
            have c16b0 : (t129 == 0) = true:=beq_iff_eq.mpr c16;have c16b1 : (t129 != 0) = false:=bne_eq_false_iff_eq.mpr c16;clear c16;have H':=am H;clear H
            go_wp2
            go_meet
            case rel => exact ⟨_,((t130 == 0)),(by first|rfl|(simp;done)|(simp [*];done)),H',⟨by first|omega|exact Nat.le_refl _⟩,⟨by repeat (first|(with_reducible first|exact HB.out|apply sa|apply sn|apply sd)|exact HB.out)⟩⟩
          · rw [if_neg c16] at H
            have c16b0 : (t129 == 0) = false:=beq_eq_false_iff_ne.mpr c16;have c16b1 : (t129 != 0) = true:=bne_iff_ne.mpr c16;have H':=am H;clear H
            go_wp2
            go_meet
            case rel => exact ⟨_,(false),(by first|rfl|(simp;done)|(simp [*];done)),H',⟨by first|omega|exact Nat.le_refl _⟩,⟨by repeat (first|(with_reducible first|exact HB.out|apply sa|apply sn|apply sd)|exact HB.out)⟩⟩
      case rest =>
        clear HC12
        try clear c1
        try clear p2
        try clear c4
        try clear c4b0
        try clear c4b1
        try clear c5
        try clear c8
        try clear c8b0
        try clear c15
        try clear c15b0
        try clear c15b1
        try clear c15b2
        try clear c16
        try clear c16b0
        try clear c16b1
        obtain ⟨kq,x47_11,rfl,HA,HJ11,HB⟩:=hcut
        cases kq with
        | zero => exact absurd HA.out (by simp [fix_MulDiv.j0])
        | succ kj11 =>
          have H:=HA.out;clear HA;simp only [fix_MulDiv.j0] at H
          by_cases c17 : x47_11 = true
          · subst c17
            have H1 : ((fix_narrowed.f t129 false).bind fun t131 => (if t131 = true then (some (wrap64 (t129),true)) else (some (0,false)))) = some (r1,r2):=by rw [if_pos rfl] at H;exact H
            clear H;have H:=H1;clear H1;replace H:=Option.bind_eq_some_iff.mp H;obtain ⟨t131,A180,H⟩:=H;replace H : (if t131 = true then (some (wrap64 (t129),true)) else (some (0,false))) = some (r1,r2):=H;have A18:=am A180;clear A180
            by_cases c19 : t131 = true
            · subst c19
              have H1 : (some (wrap64 (t129),true)) = some (r1,r2):=by rw [if_pos rfl] at H;exact H
              clear H;have H:=H1;clear H1;simp only [Option.some.injEq,Prod.mk.injEq] at H;obtain ⟨rfl,rfl⟩:=H
              go_wp2_with (first|((with_reducible refine gate_callee (f:=53) rfl ?_);refine goesL_ (some 49) rfl rfl Try.func53 (by kernel_rfl) rfl #[.int .u64 t129,.bool false] rfl (by (try simp only [List.map_toArray,List.map_cons,List.map_nil]);first|done|rfl|(simp only [List.length_drop,List.length_take];rfl)) ?_;(with_reducible refine (fix_narrowed.calls t129 false true _ A18.out).mono ?_);rintro e w' ⟨rfl,⟨nd,rfl⟩⟩;refine ⟨_,rfl,?_⟩))
              go_ret2
              exact ⟨by first|rfl|(simp [errW_none,errW_some] <;> rfl)|(simp [*,errW_none,errW_some] <;> rfl),by repeat (first|(with_reducible first|exact HB.out|apply sa|apply sn|apply sd)|exact HB.out)⟩
            · replace c19:=Bool.eq_false_iff.mpr c19
              subst c19
              have H1 : (some (0,false)) = some (r1,r2):=by rw [if_neg (show ¬ (false = true) by decide)] at H;exact H
              clear H;have H:=H1;clear H1;simp only [Option.some.injEq,Prod.mk.injEq] at H;obtain ⟨rfl,rfl⟩:=H
              go_wp2_with (first|((with_reducible refine gate_callee (f:=53) rfl ?_);refine goesL_ (some 49) rfl rfl Try.func53 (by kernel_rfl) rfl #[.int .u64 t129,.bool false] rfl (by (try simp only [List.map_toArray,List.map_cons,List.map_nil]);first|done|rfl|(simp only [List.length_drop,List.length_take];rfl)) ?_;(with_reducible refine (fix_narrowed.calls t129 false false _ A18.out).mono ?_);rintro e w' ⟨rfl,⟨nd,rfl⟩⟩;refine ⟨_,rfl,?_⟩))
              go_ret2
              exact ⟨by first|rfl|(simp [errW_none,errW_some] <;> rfl)|(simp [*,errW_none,errW_some] <;> rfl),by repeat (first|(with_reducible first|exact HB.out|apply sa|apply sn|apply sd)|exact HB.out)⟩
          · replace c17:=Bool.eq_false_iff.mpr c17
            subst c17
            have H1 : (if t130 > 0 then (if (IntKind.u64.wrap (t129 + 1)) = 0 then (some (0,false)) else ((fix_narrowed.f (IntKind.u64.wrap (t129 + 1)) true).bind fun t132 => (if t132 = true then (some (wrap64 (IntKind.u64.wrap (-(IntKind.u64.wrap (t129 + 1)))),true)) else (some (0,false))))) else ((fix_narrowed.f t129 true).bind fun t133 => (if t133 = true then (some (wrap64 (IntKind.u64.wrap (-t129)),true)) else (some (0,false))))) = some (r1,r2):=by rw [if_neg (show ¬ (false = true) by decide)] at H;exact H
            clear H;have H:=H1;clear H1
            by_cases c20 : t130 > 0
            · rw [if_pos c20] at H
              have c20b0 : decide (0 < t130) = true:=decide_eq_true c20;clear c20
              by_cases c21 : (IntKind.u64.wrap (t129 + 1)) = 0
              · rw [if_pos c21] at H
                have c21b0 : ((IntKind.u64.wrap (t129 + 1)) == 0) = true:=beq_iff_eq.mpr c21;have c21b1 : ((IntKind.u64.wrap (t129 + 1)) != 0) = false:=bne_eq_false_iff_eq.mpr c21;clear c21;simp only [Option.some.injEq,Prod.mk.injEq] at H;obtain ⟨rfl,rfl⟩:=H
                go_wp2
                go_ret2
                exact ⟨by first|rfl|(simp [errW_none,errW_some] <;> rfl)|(simp [*,errW_none,errW_some] <;> rfl),by repeat (first|(with_reducible first|exact HB.out|apply sa|apply sn|apply sd)|exact HB.out)⟩
              · rw [if_neg c21] at H
                have c21b0 : ((IntKind.u64.wrap (t129 + 1)) == 0) = false:=beq_eq_false_iff_ne.mpr c21;have c21b1 : ((IntKind.u64.wrap (t129 + 1)) != 0) = true:=bne_iff_ne.mpr c21;replace H:=Option.bind_eq_some_iff.mp H;obtain ⟨t132,A220,H⟩:=H;replace H : (if t132 = true then (some (wrap64 (IntKind.u64.wrap (-(IntKind.u64.wrap (t129 + 1)))),true)) else (some (0,false))) = some (r1,r2):=H;have A22:=am A220;clear A220
                by_cases c23 : t132 = true
                · subst c23
                  have H1 : (some (wrap64 (IntKind.u64.wrap (-(IntKind.u64.wrap (t129 + 1)))),true)) = some (r1,r2):=by rw [if_pos rfl] at H;exact H
                  clear H;have H:=H1;clear H1;simp only [Option.some.injEq,Prod.mk.injEq] at H;obtain ⟨rfl,rfl⟩:=H
                  go_wp2_with (first|((with_reducible refine gate_callee (f:=53) rfl ?_);refine goesL_ (some 60) rfl rfl Try.func53 (by kernel_rfl) rfl #[.int .u64 (IntKind.u64.wrap (t129 + 1)),.bool true] rfl (by (try simp only [List.map_toArray,List.map_cons,List.map_nil]);first|done|rfl|(simp only [List.length_drop,List.length_take];rfl)) ?_;(with_reducible refine (fix_narrowed.calls (IntKind.u64.wrap (t129 + 1)) true true _ A22.out).mono ?_);rintro e w' ⟨rfl,⟨nd,rfl⟩⟩;refine ⟨_,rfl,?_⟩))
                  go_ret2
                  exact ⟨by first|rfl|(simp [errW_none,errW_some] <;> rfl)|(simp [*,errW_none,errW_some] <;> rfl),by repeat (first|(with_reducible first|exact HB.out|apply sa|apply sn|apply sd)|exact HB.out)⟩
                · replace c23:=Bool.eq_false_iff.mpr c23
                  subst c23
                  have H1 : (some (0,false)) = some (r1,r2):=by rw [if_neg (show ¬ (false = true) by decide)] at H;exact H
                  clear H;have H:=H1;clear H1;simp only [Option.some.injEq,Prod.mk.injEq] at H;obtain ⟨rfl,rfl⟩:=H
                  go_wp2_with (first|((with_reducible refine gate_callee (f:=53) rfl ?_);refine goesL_ (some 60) rfl rfl Try.func53 (by kernel_rfl) rfl #[.int .u64 (IntKind.u64.wrap (t129 + 1)),.bool true] rfl (by (try simp only [List.map_toArray,List.map_cons,List.map_nil]);first|done|rfl|(simp only [List.length_drop,List.length_take];rfl)) ?_;(with_reducible refine (fix_narrowed.calls (IntKind.u64.wrap (t129 + 1)) true false _ A22.out).mono ?_);rintro e w' ⟨rfl,⟨nd,rfl⟩⟩;refine ⟨_,rfl,?_⟩))
                  go_ret2
                  exact ⟨by first|rfl|(simp [errW_none,errW_some] <;> rfl)|(simp [*,errW_none,errW_some] <;> rfl),by repeat (first|(with_reducible first|exact HB.out|apply sa|apply sn|apply sd)|exact HB.out)⟩
            · rw [if_neg c20] at H
              have c20b0 : decide (0 < t130) = false:=decide_eq_false c20;clear c20;replace H:=Option.bind_eq_some_iff.mp H;obtain ⟨t133,A240,H⟩:=H;replace H : (if t133 = true then (some (wrap64 (IntKind.u64.wrap (-t129)),true)) else (some (0,false))) = some (r1,r2):=H;have A24:=am A240;clear A240
              by_cases c25 : t133 = true
              · subst c25
                have H1 : (some (wrap64 (IntKind.u64.wrap (-t129)),true)) = some (r1,r2):=by rw [if_pos rfl] at H;exact H
                clear H;have H:=H1;clear H1;simp only [Option.some.injEq,Prod.mk.injEq] at H;obtain ⟨rfl,rfl⟩:=H
                go_wp2_with (first|((with_reducible refine gate_callee (f:=53) rfl ?_);refine goesL_ (some 60) rfl rfl Try.func53 (by kernel_rfl) rfl #[.int .u64 t129,.bool true] rfl (by (try simp only [List.map_toArray,List.map_cons,List.map_nil]);first|done|rfl|(simp only [List.length_drop,List.length_take];rfl)) ?_;(with_reducible refine (fix_narrowed.calls t129 true true _ A24.out).mono ?_);rintro e w' ⟨rfl,⟨nd,rfl⟩⟩;refine ⟨_,rfl,?_⟩))
                go_ret2
                exact ⟨by first|rfl|(simp [errW_none,errW_some] <;> rfl)|(simp [*,errW_none,errW_some] <;> rfl),by repeat (first|(with_reducible first|exact HB.out|apply sa|apply sn|apply sd)|exact HB.out)⟩
              · replace c25:=Bool.eq_false_iff.mpr c25
                subst c25
                have H1 : (some (0,false)) = some (r1,r2):=by rw [if_neg (show ¬ (false = true) by decide)] at H;exact H
                clear H;have H:=H1;clear H1;simp only [Option.some.injEq,Prod.mk.injEq] at H;obtain ⟨rfl,rfl⟩:=H
                go_wp2_with (first|((with_reducible refine gate_callee (f:=53) rfl ?_);refine goesL_ (some 60) rfl rfl Try.func53 (by kernel_rfl) rfl #[.int .u64 t129,.bool true] rfl (by (try simp only [List.map_toArray,List.map_cons,List.map_nil]);first|done|rfl|(simp only [List.length_drop,List.length_take];rfl)) ?_;(with_reducible refine (fix_narrowed.calls t129 true false _ A24.out).mono ?_);rintro e w' ⟨rfl,⟨nd,rfl⟩⟩;refine ⟨_,rfl,?_⟩))
                go_ret2
                exact ⟨by first|rfl|(simp [errW_none,errW_some] <;> rfl)|(simp [*,errW_none,errW_some] <;> rfl),by repeat (first|(with_reducible first|exact HB.out|apply sa|apply sn|apply sd)|exact HB.out)⟩

/-! ### fix_Floor: function 35 -/
def fix_Floor.f (k : Nat) (a0 : Int) (a1 : Int) : Option (Int × Bool):=(fix_MulDiv.f k a0 1 a1).bind fun bt134 => (some (bt134.1,bt134.2))
theorem fix_Floor.mono : ∀ a0 a1 k,LeO (fix_Floor.f k a0 a1) (fix_Floor.f (k + 1) a0 a1):=by
  intro a0 a1 k
  unfold fix_Floor.f
  repeat' first
      | (with_reducible exact fix_MulDiv.mono _ _ _ _)
      | (with_reducible exact LeO.refl _)
      | (with_reducible exact LeO.none _)
      | (with_reducible refine LeO.ite ?_ ?_)
      | (with_reducible refine LeO.bind ?_ (fun _ => ?_))
      | exact fix_MulDiv.mono _ _ _ _
      | exact LeO.none _
      | refine LeO.ite ?_ ?_
      | refine LeO.bind ?_ (fun _ => ?_)
set_option maxHeartbeats 8000000 in
set_option maxRecDepth 100000 in
theorem fix_Floor.calls (k : Nat) (a0 : Int) (a1 : Int) (r1 : Int) (r2 : Bool) (w : World) (h : fix_Floor.f k a0 a1 = some (r1,r2)) :
    Calls Try.prog 35 #[.int .i64 a0,.int .i64 a1] w fun e w' => e = .returned (.tuple #[.int .i64 r1,.bool r2]) ∧ Below w.heap.size w w':=by
  have HB:=am (Below.refl w.heap.size w);have H : ((fix_MulDiv.f k a0 1 a1).bind fun bt134 => (some (bt134.1,bt134.2))) = some (r1,r2):=h;clear h;replace H:=Option.bind_eq_some_iff.mp H;obtain ⟨⟨t134,t135⟩,A30,H⟩:=H;replace H : (some (t134,t135)) = some (r1,r2):=H;have A3:=am A30;clear A30;simp only [Option.some.injEq,Prod.mk.injEq] at H;obtain ⟨rfl,rfl⟩:=H
  go_enter Try.func35,Try.ntmps35
  go_wp2_with (first|((with_reducible refine gate_callee (f:=46) rfl ?_);refine goesL_ (some 8) rfl rfl Try.func46 (by kernel_rfl) rfl #[.int .i64 a0,.int .i64 1,.int .i64 a1] rfl (by (try simp only [List.map_toArray,List.map_cons,List.map_nil]);first|done|rfl|(simp only [List.length_drop,List.length_take];rfl)) ?_;(with_reducible refine (fix_MulDiv.calls k a0 1 a1 t134 t135 _ A3.out).mono ?_);rintro e w4 ⟨rfl,hb⟩;refine ⟨_,rfl,?_⟩;replace HB:=am (ss (by repeat (first|(with_reducible first|exact HB.out|apply sa|apply sn|apply sd)|exact HB.out)) hb);(try clear hb);(try clear hb2);(try clear hk);(try clear hi)))
  go_ret2
  exact ⟨by first|rfl|(simp [errW_none,errW_some] <;> rfl)|(simp [*,errW_none,errW_some] <;> rfl),by repeat (first|(with_reducible first|exact HB.out|apply sa|apply sn|apply sd)|exact HB.out)⟩

/-! ### fix_Add: function 49 -/
def fix_Add.f (a0 : Int) (a1 : Int) : Option (Int × Bool):=if ((decide ((wrap64 (a0 + a1)) > a0)) != (decide (a1 > 0))) = true then (if a1 = 0 then (some (wrap64 (a0 + a1),true)) else (some (0,false))) else (some (wrap64 (a0 + a1),true))
set_option maxHeartbeats 8000000 in
set_option maxRecDepth 100000 in
theorem fix_Add.calls (a0 : Int) (a1 : Int) (r1 : Int) (r2 : Bool) (w : World) (h : fix_Add.f a0 a1 = some (r1,r2)) :
    Calls Try.prog 49 #[.int .i64 a0,.int .i64 a1] w fun e w' => e = .returned (.tuple #[.int .i64 r1,.bool r2]) ∧ Drawn0 w w':=by
  have H : (if ((decide ((wrap64 (a0 + a1)) > a0)) != (decide (a1 > 0))) = true then (if a1 = 0 then (some (wrap64 (a0 + a1),true)) else (some (0,false))) else (some (wrap64 (a0 + a1),true))) = some (r1,r2):=h;clear h
  by_cases c3 : ((decide ((wrap64 (a0 + a1)) > a0)) != (decide (a1 > 0))) = true
  · rw [if_pos c3] at H
    have c3b0 : ((decide ((wrap64 (a0 + a1)) > a0)) != (decide (a1 > 0))) = true:=c3
    (try (have c3b1 : decide ((decide ((wrap64 (a0 + a1)) > a0)) = (decide (a1 > 0))) = false:=by simpa using c3))
    (try (have c3b2 : ((decide ((wrap64 (a0 + a1)) > a0)) == (decide (a1 > 0))) = false:=by simpa using c3))
    (try (have c3b3 : ¬ ((decide ((wrap64 (a0 + a1)) > a0)) = (decide (a1 > 0))):=by simpa using c3))
    clear c3
    by_cases c4 : a1 = 0
    · rw [if_pos c4] at H
      have c4b0 : (a1 == 0) = true:=beq_iff_eq.mpr c4;have c4b1 : (a1 != 0) = false:=bne_eq_false_iff_eq.mpr c4;clear c4;simp only [Option.some.injEq,Prod.mk.injEq] at H;obtain ⟨rfl,rfl⟩:=H
      go_enter Try.func49,Try.ntmps49
      go_wp2
      go_ret2
      exact ⟨by first|rfl|(simp;done)|(simp [*];done),by repeat (first|exact Drawn0.refl _|apply Drawn0.step)⟩
    · rw [if_neg c4] at H
      have c4b0 : (a1 == 0) = false:=beq_eq_false_iff_ne.mpr c4;have c4b1 : (a1 != 0) = true:=bne_iff_ne.mpr c4;simp only [Option.some.injEq,Prod.mk.injEq] at H;obtain ⟨rfl,rfl⟩:=H
      go_enter Try.func49,Try.ntmps49
      go_wp2
      go_ret2
      exact ⟨by first|rfl|(simp;done)|(simp [*];done),by repeat (first|exact Drawn0.refl _|apply Drawn0.step)⟩
  · rw [if_neg c3] at H
    have c3b0 : ((decide ((wrap64 (a0 + a1)) > a0)) != (decide (a1 > 0))) = false:=by simpa using c3
    (try (have c3b1 : decide ((decide ((wrap64 (a0 + a1)) > a0)) = (decide (a1 > 0))) = true:=by simpa using c3))
    (try (have c3b2 : ((decide ((wrap64 (a0 + a1)) > a0)) == (decide (a1 > 0))) = true:=by simpa using c3))
    clear c3;simp only [Option.some.injEq,Prod.mk.injEq] at H;obtain ⟨rfl,rfl⟩:=H
    go_enter Try.func49,Try.ntmps49
    go_wp2
    go_ret2
    exact ⟨by first|rfl|(simp;done)|(simp [*];done),by repeat (first|exact Drawn0.refl _|apply Drawn0.step)⟩

/-! ### fix_Round: function 45 -/
def fix_Round.f (k : Nat) (a0 : Int) (a1 : Int) : Option (Int × Bool):=(fix_Floor.f k a0 a1).bind fun bt136 => (if bt136.2 = true then ((fix_size.f (wrap64 (a0 - (wrap64 (bt136.1 * a1))))).bind fun t138 => ((fix_size.f a1).bind fun t139 => ((fix_size.f (wrap64 (a0 - (wrap64 (bt136.1 * a1))))).bind fun t140 => (if t138 ≥ (IntKind.u64.wrap (t139 - t140)) then ((fix_Add.f bt136.1 1).bind fun bt141 => (some (bt141.1,bt141.2))) else (some (bt136.1,true)))))) else (some (0,false)))
theorem fix_Round.mono : ∀ a0 a1 k,LeO (fix_Round.f k a0 a1) (fix_Round.f (k + 1) a0 a1):=by
  intro a0 a1 k
  unfold fix_Round.f
  repeat' first
      | (with_reducible exact fix_Floor.mono _ _ _)
      | (with_reducible exact LeO.refl _)
      | (with_reducible exact LeO.none _)
      | (with_reducible refine LeO.ite ?_ ?_)
      | (with_reducible refine LeO.bind ?_ (fun _ => ?_))
      | exact fix_Floor.mono _ _ _
      | exact LeO.none _
      | refine LeO.ite ?_ ?_
      | refine LeO.bind ?_ (fun _ => ?_)
set_option maxHeartbeats 8000000 in
set_option maxRecDepth 100000 in
theorem fix_Round.calls (k : Nat) (a0 : Int) (a1 : Int) (r1 : Int) (r2 : Bool) (w : World) (h : fix_Round.f k a0 a1 = some (r1,r2)) :
    Calls Try.prog 45 #[.int .i64 a0,.int .i64 a1] w fun e w' => e = .returned (.tuple #[.int .i64 r1,.bool r2]) ∧ Below w.heap.size w w':=by
  have HB:=am (Below.refl w.heap.size w);have H : ((fix_Floor.f k a0 a1).bind fun bt136 => (if bt136.2 = true then ((fix_size.f (wrap64 (a0 - (wrap64 (bt136.1 * a1))))).bind fun t138 => ((fix_size.f a1).bind fun t139 => ((fix_size.f (wrap64 (a0 - (wrap64 (bt136.1 * a1))))).bind fun t140 => (if t138 ≥ (IntKind.u64.wrap (t139 - t140)) then ((fix_Add.f bt136.1 1).bind fun bt141 => (some (bt141.1,bt141.2))) else (some (bt136.1,true)))))) else (some (0,false)))) = some (r1,r2):=h;clear h;replace H:=Option.bind_eq_some_iff.mp H;obtain ⟨⟨t136,t137⟩,A30,H⟩:=H;replace H : (if t137 = true then ((fix_size.f (wrap64 (a0 - (wrap64 (t136 * a1))))).bind fun t138 => ((fix_size.f a1).bind fun t139 => ((fix_size.f (wrap64 (a0 - (wrap64 (t136 * a1))))).bind fun t140 => (if t138 ≥ (IntKind.u64.wrap (t139 - t140)) then ((fix_Add.f t136 1).bind fun bt141 => (some (bt141.1,bt141.2))) else (some (t136,true)))))) else (some (0,false))) = some (r1,r2):=H;have A3:=am A30;clear A30
  by_cases c4 : t137 = true
  · subst c4
    have H1 : ((fix_size.f (wrap64 (a0 - (wrap64 (t136 * a1))))).bind fun t138 => ((fix_size.f a1).bind fun t139 => ((fix_size.f (wrap64 (a0 - (wrap64 (t136 * a1))))).bind fun t140 => (if t138 ≥ (IntKind.u64.wrap (t139 - t140)) then ((fix_Add.f t136 1).bind fun bt141 => (some (bt141.1,bt141.2))) else (some (t136,true)))))) = some (r1,r2):=by rw [if_pos rfl] at H;exact H
    clear H;have H:=H1;clear H1;replace H:=Option.bind_eq_some_iff.mp H;obtain ⟨t138,A50,H⟩:=H;replace H : ((fix_size.f a1).bind fun t139 => ((fix_size.f (wrap64 (a0 - (wrap64 (t136 * a1))))).bind fun t140 => (if t138 ≥ (IntKind.u64.wrap (t139 - t140)) then ((fix_Add.f t136 1).bind fun bt141 => (some (bt141.1,bt141.2))) else (some (t136,true))))) = some (r1,r2):=H;have A5:=am A50;clear A50;replace H:=Option.bind_eq_some_iff.mp H;obtain ⟨t139,A60,H⟩:=H;replace H : ((fix_size.f (wrap64 (a0 - (wrap64 (t136 * a1))))).bind fun t140 => (if t138 ≥ (IntKind.u64.wrap (t139 - t140)) then ((fix_Add.f t136 1).bind fun bt141 => (some (bt141.1,bt141.2))) else (some (t136,true)))) = some (r1,r2):=H;have A6:=am A60;clear A60;replace H:=Option.bind_eq_some_iff.mp H;obtain ⟨t140,A70,H⟩:=H;replace H : (if t138 ≥ (IntKind.u64.wrap (t139 - t140)) then ((fix_Add.f t136 1).bind fun bt141 => (some (bt141.1,bt141.2))) else (some (t136,true))) = some (r1,r2):=H;have A7:=am A70;clear A70
    by_cases c8 : t138 ≥ (IntKind.u64.wrap (t139 - t140))
    · rw [if_pos c8] at H
      have c8b0 : decide ((IntKind.u64.wrap (t139 - t140)) ≤ t138) = true:=decide_eq_true c8;clear c8;replace H:=Option.bind_eq_some_iff.mp H;obtain ⟨⟨t141,t142⟩,A90,H⟩:=H;replace H : (some (t141,t142)) = some (r1,r2):=H;have A9:=am A90;clear A90;simp only [Option.some.injEq,Prod.mk.injEq] at H;obtain ⟨rfl,rfl⟩:=H
      go_enter Try.func45,Try.ntmps45
      go_wp2_with (first|((with_reducible refine gate_callee (f:=35) rfl ?_);refine goesL_ (some 12) rfl rfl Try.func35 (by kernel_rfl) rfl #[.int .i64 a0,.int .i64 a1] rfl (by (try simp only [List.map_toArray,List.map_cons,List.map_nil]);first|done|rfl|(simp only [List.length_drop,List.length_take];rfl)) ?_;(with_reducible refine (fix_Floor.calls k a0 a1 t136 true _ A3.out).mono ?_);rintro e w10 ⟨rfl,hb⟩;refine ⟨_,rfl,?_⟩;replace HB:=am (ss (by repeat (first|(with_reducible first|exact HB.out|apply sa|apply sn|apply sd)|exact HB.out)) hb);(try clear hb);(try clear hb2);(try clear hk);(try clear hi))|((with_reducible refine gate_callee (f:=48) rfl ?_);refine goesL_ (some 23) rfl rfl Try.func48 (by kernel_rfl) rfl #[.int .i64 (wrap64 (a0 - (wrap64 (t136 * a1))))] rfl (by (try simp only [List.map_toArray,List.map_cons,List.map_nil]);first|done|rfl|(simp only [List.length_drop,List.length_take];rfl)) ?_;(with_reducible refine (fix_size.calls (wrap64 (a0 - (wrap64 (t136 * a1)))) t138 _ A5.out).mono ?_);rintro e w' ⟨rfl,⟨nd,rfl⟩⟩;refine ⟨_,rfl,?_⟩)|((with_reducible refine gate_callee (f:=48) rfl ?_);refine goesL_ (some 25) rfl rfl Try.func48 (by kernel_rfl) rfl #[.int .i64 a1] rfl (by (try simp only [List.map_toArray,List.map_cons,List.map_nil]);first|done|rfl|(simp only [List.length_drop,List.length_take];rfl)) ?_;(with_reducible refine (fix_size.calls a1 t139 _ A6.out).mono ?_);rintro e w' ⟨rfl,⟨nd,rfl⟩⟩;refine ⟨_,rfl,?_⟩)|((with_reducible refine gate_callee (f:=48) rfl ?_);refine goesL_ (some 27) rfl rfl Try.func48 (by kernel_rfl) rfl #[.int .i64 (wrap64 (a0 - (wrap64 (t136 * a1))))] rfl (by (try simp only [List.map_toArray,List.map_cons,List.map_nil]);first|done|rfl|(simp only [List.length_drop,List.length_take];rfl)) ?_;(with_reducible refine (fix_size.calls (wrap64 (a0 - (wrap64 (t136 * a1)))) t140 _ A7.out).mono ?_);rintro e w' ⟨rfl,⟨nd,rfl⟩⟩;refine ⟨_,rfl,?_⟩)|((with_reducible refine gate_callee (f:=49) rfl ?_);refine goesL_ (some 31) rfl rfl Try.func49 (by kernel_rfl) rfl #[.int .i64 t136,.int .i64 1] rfl (by (try simp only [List.map_toArray,List.map_cons,List.map_nil]);first|done|rfl|(simp only [List.length_drop,List.length_take];rfl)) ?_;(with_reducible refine (fix_Add.calls t136 1 t141 t142 _ A9.out).mono ?_);rintro e w' ⟨rfl,⟨nd,rfl⟩⟩;refine ⟨_,rfl,?_⟩))
      go_ret2
      exact ⟨by first|rfl|(simp [errW_none,errW_some] <;> rfl)|(simp [*,errW_none,errW_some] <;> rfl),by repeat (first|(with_reducible first|exact HB.out|apply sa|apply sn|apply sd)|exact HB.out)⟩
    · rw [if_neg c8] at H
      have c8b0 : decide ((IntKind.u64.wrap (t139 - t140)) ≤ t138) = false:=decide_eq_false c8;clear c8;simp only [Option.some.injEq,Prod.mk.injEq] at H;obtain ⟨rfl,rfl⟩:=H
      go_enter Try.func45,Try.ntmps45
      go_wp2_with (first|((with_reducible refine gate_callee (f:=35) rfl ?_);refine goesL_ (some 12) rfl rfl Try.func35 (by kernel_rfl) rfl #[.int .i64 a0,.int .i64 a1] rfl (by (try simp only [List.map_toArray,List.map_cons,List.map_nil]);first|done|rfl|(simp only [List.length_drop,List.length_take];rfl)) ?_;(with_reducible refine (fix_Floor.calls k a0 a1 t136 true _ A3.out).mono ?_);rintro e w11 ⟨rfl,hb⟩;refine ⟨_,rfl,?_⟩;replace HB:=am (ss (by repeat (first|(with_reducible first|exact HB.out|apply sa|apply sn|apply sd)|exact HB.out)) hb);(try clear hb);(try clear hb2);(try clear hk);(try clear hi))|((with_reducible refine gate_callee (f:=48) rfl ?_);refine goesL_ (some 23) rfl rfl Try.func48 (by kernel_rfl) rfl #[.int .i64 (wrap64 (a0 - (wrap64 (t136 * a1))))] rfl (by (try simp only [List.map_toArray,List.map_cons,List.map_nil]);first|done|rfl|(simp only [List.length_drop,List.length_take];rfl)) ?_;(with_reducible refine (fix_size.calls (wrap64 (a0 - (wrap64 (t136 * a1)))) t138 _ A5.out).mono ?_);rintro e w' ⟨rfl,⟨nd,rfl⟩⟩;refine ⟨_,rfl,?_⟩)|((with_reducible refine gate_callee (f:=48) rfl ?_);refine goesL_ (some 25) rfl rfl Try.func48 (by kernel_rfl) rfl #[.int .i64 a1] rfl (by (try simp only [List.map_toArray,List.map_cons,List.map_nil]);first|done|rfl|(simp only [List.length_drop,List.length_take];rfl)) ?_;(with_reducible refine (fix_size.calls a1 t139 _ A6.out).mono ?_);rintro e w' ⟨rfl,⟨nd,rfl⟩⟩;refine ⟨_,rfl,?_⟩)|((with_reducible refine gate_callee (f:=48) rfl ?_);refine goesL_ (some 27) rfl rfl Try.func48 (by kernel_rfl) rfl #[.int .i64 (wrap64 (a0 - (wrap64 (t136 * a1))))] rfl (by (try simp only [List.map_toArray,List.map_cons,List.map_nil]);first|done|rfl|(simp only [List.length_drop,List.length_take];rfl)) ?_;(with_reducible refine (fix_size.calls (wrap64 (a0 - (wrap64 (t136 * a1)))) t140 _ A7.out).mono ?_);rintro e w' ⟨rfl,⟨nd,rfl⟩⟩;refine ⟨_,rfl,?_⟩))
      go_ret2
      exact ⟨by first|rfl|(simp [errW_none,errW_some] <;> rfl)|(simp [*,errW_none,errW_some] <;> rfl),by repeat (first|(with_reducible first|exact HB.out|apply sa|apply sn|apply sd)|exact HB.out)⟩
  · replace c4:=Bool.eq_false_iff.mpr c4
    subst c4
    have H1 : (some (0,false)) = some (r1,r2):=by rw [if_neg (show ¬ (false = true) by decide)] at H;exact H
    clear H;have H:=H1;clear H1;simp only [Option.some.injEq,Prod.mk.injEq] at H;obtain ⟨rfl,rfl⟩:=H
    go_enter Try.func45,Try.ntmps45
    go_wp2_with (first|((with_reducible refine gate_callee (f:=35) rfl ?_);refine goesL_ (some 12) rfl rfl Try.func35 (by kernel_rfl) rfl #[.int .i64 a0,.int .i64 a1] rfl (by (try simp only [List.map_toArray,List.map_cons,List.map_nil]);first|done|rfl|(simp only [List.length_drop,List.length_take];rfl)) ?_;(with_reducible refine (fix_Floor.calls k a0 a1 t136 false _ A3.out).mono ?_);rintro e w12 ⟨rfl,hb⟩;refine ⟨_,rfl,?_⟩;replace HB:=am (ss (by repeat (first|(with_reducible first|exact HB.out|apply sa|apply sn|apply sd)|exact HB.out)) hb);(try clear hb);(try clear hb2);(try clear hk);(try clear hi)))
    go_ret2
    exact ⟨by first|rfl|(simp [errW_none,errW_some] <;> rfl)|(simp [*,errW_none,errW_some] <;> rfl),by repeat (first|(with_reducible first|exact HB.out|apply sa|apply sn|apply sd)|exact HB.out)⟩

/-! ### affine_snap: function 33 -/
def affine_snap.f (k : Nat) (a0 : Int) : Option (Int):=(fix_Round.f k (wrap64 (a0 * 8)) 327680).bind fun bt143 => (some (wrap64 (2 * bt143.1)))
theorem affine_snap.mono : ∀ a0 k,LeO (affine_snap.f k a0) (affine_snap.f (k + 1) a0):=by
  intro a0 k
  unfold affine_snap.f
  repeat' first
      | (with_reducible exact fix_Round.mono _ _ _)
      | (with_reducible exact LeO.refl _)
      | (with_reducible exact LeO.none _)
      | (with_reducible refine LeO.ite ?_ ?_)
      | (with_reducible refine LeO.bind ?_ (fun _ => ?_))
      | exact fix_Round.mono _ _ _
      | exact LeO.none _
      | refine LeO.ite ?_ ?_
      | refine LeO.bind ?_ (fun _ => ?_)
set_option maxHeartbeats 8000000 in
set_option maxRecDepth 100000 in
theorem affine_snap.calls (k : Nat) (a0 : Int) (r : Int) (w : World) (h : affine_snap.f k a0 = some r) :
    Calls Try.prog 33 #[.int .i64 a0] w fun e w' => e = .returned (.int .i64 r) ∧ Below w.heap.size w w':=by
  have HB:=am (Below.refl w.heap.size w);have H : ((fix_Round.f k (wrap64 (a0 * 8)) 327680).bind fun bt143 => (some (wrap64 (2 * bt143.1)))) = some r:=h;clear h;replace H:=Option.bind_eq_some_iff.mp H;obtain ⟨⟨t143,t144⟩,A20,H⟩:=H;replace H : (some (wrap64 (2 * t143))) = some r:=H;have A2:=am A20;clear A20;obtain rfl:=Option.some.inj H
  go_enter Try.func33,Try.ntmps33
  go_wp2_with (first|((with_reducible refine gate_callee (f:=45) rfl ?_);refine goesL_ (some 8) rfl rfl Try.func45 (by kernel_rfl) rfl #[.int .i64 (wrap64 (a0 * 8)),.int .i64 327680] rfl (by (try simp only [List.map_toArray,List.map_cons,List.map_nil]);first|done|rfl|(simp only [List.length_drop,List.length_take];rfl)) ?_;(with_reducible refine (fix_Round.calls k (wrap64 (a0 * 8)) 327680 t143 t144 _ A2.out).mono ?_);rintro e w3 ⟨rfl,hb⟩;refine ⟨_,rfl,?_⟩;replace HB:=am (ss (by repeat (first|(with_reducible first|exact HB.out|apply sa|apply sn|apply sd)|exact HB.out)) hb);(try clear hb);(try clear hb2);(try clear hk);(try clear hi)))
  go_ret
  exact ⟨by first|rfl|(simp [errW_none,errW_some] <;> rfl)|(simp [*,errW_none,errW_some] <;> rfl),by repeat (first|(with_reducible first|exact HB.out|apply sa|apply sn|apply sd)|exact HB.out)⟩

/-! ### affine_Grid: function 11 -/
def affine_Grid.f (k : Nat) (a0_0 : Int) (a0_1 : Int) (a0_2 : Int) (a0_3 : Int) (a0_4 : Int) (a0_5 : Int) (a1_0 : Int) (a1_1 : Int) : Option (Int × Int × Int):=(affine_Apply.f k a0_0 a0_1 a0_2 a0_3 a0_4 a0_5 a1_0 a1_1).bind fun bt148 => (if bt148.2.2 = 0 then ((affine_snap.f k bt148.1).bind fun t152 => ((affine_snap.f k bt148.2.1).bind fun t153 => ((affine_within.f t152 t153 16777216).bind fun t154 => (if t154 = true then (some (t152,t153,0)) else (some (0,0,8)))))) else (some (0,0,bt148.2.2)))
theorem affine_Grid.mono : ∀ a0 a1 a2 a3 a4 a5 a6 a7 k,LeO (affine_Grid.f k a0 a1 a2 a3 a4 a5 a6 a7) (affine_Grid.f (k + 1) a0 a1 a2 a3 a4 a5 a6 a7):=by
  intro a0 a1 a2 a3 a4 a5 a6 a7 k
  unfold affine_Grid.f
  repeat' first
      | (with_reducible exact affine_Apply.mono _ _ _ _ _ _ _ _ _)
      | (with_reducible exact affine_snap.mono _ _)
      | (with_reducible exact LeO.refl _)
      | (with_reducible exact LeO.none _)
      | (with_reducible refine LeO.ite ?_ ?_)
      | (with_reducible refine LeO.bind ?_ (fun _ => ?_))
      | exact affine_Apply.mono _ _ _ _ _ _ _ _ _
      | exact affine_snap.mono _ _
      | exact LeO.none _
      | refine LeO.ite ?_ ?_
      | refine LeO.bind ?_ (fun _ => ?_)
def affine_Grid.T4 : Bool × List (List Nat × List Nat):=(true,[([],[]),([0],[0]),([1],[1]),([],[]),([3],[3]),([4,2],[4]),([2,5],[2,5]),([6,5,0,1,2,3,4,5,6],[6])])
def affine_Grid.B4 : List Nat:=[0,1,3,0,8,31,63,127]
theorem affine_Grid.tab4 : rtab .any (opsOf Try.f11 4) = affine_Grid.T4:=by kernel_rfl
theorem affine_Grid.bits4 : waitsOk affine_Grid.T4.2 affine_Grid.B4 = true:=by kernel_rfl
set_option maxHeartbeats 8000000 in
set_option maxRecDepth 100000 in
theorem affine_Grid.calls (k : Nat) (a0_0 : Int) (a0_1 : Int) (a0_2 : Int) (a0_3 : Int) (a0_4 : Int) (a0_5 : Int) (a1_0 : Int) (a1_1 : Int) (r1 : Int) (r2 : Int) (r3 : Int) (w : World) (h : affine_Grid.f k a0_0 a0_1 a0_2 a0_3 a0_4 a0_5 a1_0 a1_1 = some (r1,r2,r3)) :
    Calls Try.prog 11 #[.agg #[.int .i64 a0_0,.int .i64 a0_1,.int .i64 a0_2,.int .i64 a0_3,.int .i64 a0_4,.int .i64 a0_5],.agg #[.int .i64 a1_0,.int .i64 a1_1]] w fun e w' => e = .returned (.tuple #[.agg #[.int .i64 r1,.int .i64 r2],.int .i64 r3]) ∧ Below w.heap.size w w':=by
  have hu23:=Try.underlying23;have hu25:=Try.underlying25;have HB:=am (Below.refl w.heap.size w);have H : ((affine_Apply.f k a0_0 a0_1 a0_2 a0_3 a0_4 a0_5 a1_0 a1_1).bind fun bt148 => (if bt148.2.2 = 0 then ((affine_snap.f k bt148.1).bind fun t152 => ((affine_snap.f k bt148.2.1).bind fun t153 => ((affine_within.f t152 t153 16777216).bind fun t154 => (if t154 = true then (some (t152,t153,0)) else (some (0,0,8)))))) else (some (0,0,bt148.2.2)))) = some (r1,r2,r3):=h;clear h;replace H:=Option.bind_eq_some_iff.mp H;obtain ⟨⟨t148,t149,t150⟩,A30,H⟩:=H;replace H : (if t150 = 0 then ((affine_snap.f k t148).bind fun t152 => ((affine_snap.f k t149).bind fun t153 => ((affine_within.f t152 t153 16777216).bind fun t154 => (if t154 = true then (some (t152,t153,0)) else (some (0,0,8)))))) else (some (0,0,t150))) = some (r1,r2,r3):=H;have A3:=am A30;clear A30
  by_cases c4 : t150 = 0
  · rw [if_pos c4] at H
    have c4b0 : (t150 == 0) = true:=beq_iff_eq.mpr c4;have c4b1 : (t150 != 0) = false:=bne_eq_false_iff_eq.mpr c4;clear c4;replace H:=Option.bind_eq_some_iff.mp H;obtain ⟨t152,A50,H⟩:=H;replace H : ((affine_snap.f k t149).bind fun t153 => ((affine_within.f t152 t153 16777216).bind fun t154 => (if t154 = true then (some (t152,t153,0)) else (some (0,0,8))))) = some (r1,r2,r3):=H;have A5:=am A50;clear A50;replace H:=Option.bind_eq_some_iff.mp H;obtain ⟨t153,A60,H⟩:=H;replace H : ((affine_within.f t152 t153 16777216).bind fun t154 => (if t154 = true then (some (t152,t153,0)) else (some (0,0,8)))) = some (r1,r2,r3):=H;have A6:=am A60;clear A60;replace H:=Option.bind_eq_some_iff.mp H;obtain ⟨t154,A70,H⟩:=H;replace H : (if t154 = true then (some (t152,t153,0)) else (some (0,0,8))) = some (r1,r2,r3):=H;have A7:=am A70;clear A70
    by_cases c8 : t154 = true
    · subst c8
      have H1 : (some (t152,t153,0)) = some (r1,r2,r3):=by rw [if_pos rfl] at H;exact H
      clear H;have H:=H1;clear H1;simp only [Option.some.injEq,Prod.mk.injEq] at H;obtain ⟨rfl,rfl,rfl⟩:=H
      go_enter Try.func11,Try.ntmps11
      try go_wp2_with (first|((with_reducible refine gate_dst (N:=2) rfl ?_);refine box_event ?hg (N:=2) ?hd (cs:=#[.int .i64 a0_0,.int .i64 a0_1,.int .i64 a0_2,.int .i64 a0_3,.int .i64 a0_4,.int .i64 a0_5]) (t:=23) ?hr ?_;(case hd => rfl);(case hg => rfl);(case hr => first|(go_simp;done)|(go_simp;rfl));intro gb145 hg w9 hbox hb;have BK145:=am (hbox);have GW145:=am ((by rw [hg];exact (sz (by repeat (first|(with_reducible first|exact HB.out|apply sa|apply sn|apply sd)|exact HB.out))) : w.heap.size ≤ gb145));have GE145:=am ((by rw [hg];exact (sz (by repeat (first|(with_reducible first|exact HB.out|apply sa|apply sn|apply sd)|exact HB.out))) : w.heap.size ≤ gb145));replace HB:=am (ss (by repeat (first|(with_reducible first|exact HB.out|apply sa|apply sn|apply sd)|exact HB.out)) hb);clear hb hbox hg)|((with_reducible refine gate_dst (N:=3) rfl ?_);refine box_event ?hg (N:=3) ?hd (cs:=#[.int .i64 a1_0,.int .i64 a1_1]) (t:=25) ?hr ?_;(case hd => rfl);(case hg => rfl);(case hr => first|(go_simp;done)|(go_simp;rfl));intro gb146 hg w10 hbox hb;have BK146:=am (hbox);obtain ⟨h1_,GW146⟩:=sg (by repeat (first|(with_reducible first|exact HB.out|apply sa|apply sn|apply sd|refine sx ?_ GE145.out)|exact HB.out)) hb hg;replace HB:=h1_;clear h1_;have GE146:=GW146;have NB145_146:=nb (by exact BK145.out) hg;have NB146_145:=ng (by exact BK145.out) hg;replace BK145:=am (bw (by exact BK145.out) hb);clear hb hbox hg)|((with_reducible refine gate_dst (N:=4) rfl ?_);refine box_event ?hg (N:=4) ?hd (cs:=#[.int .i64 0,.int .i64 0]) (t:=25) ?hr ?_;(case hd => rfl);(case hg => rfl);(case hr => first|(go_simp;done)|(go_simp;rfl));intro gb147 hg w11 hbox hb;have BK147:=am (hbox);obtain ⟨h1_,GW147⟩:=sg (by repeat (first|(with_reducible first|exact HB.out|apply sa|apply sn|apply sd|refine sy ?_ (by assumption))|exact HB.out)) hb hg;replace HB:=h1_;clear h1_;have GE147:=GW147;have NB145_147:=nb (by exact BK145.out) hg;replace BK145:=am (bw (by exact BK145.out) hb);have NB147_145:=am (Ne.symm NB145_147.out);have NB146_147:=nb (by exact BK146.out) hg;have NB147_146:=ng (by exact BK146.out) hg;replace BK146:=am (bw (by exact BK146.out) hb);clear hb hbox hg;have hnb12:=NB145_146.out;have hnc12:=NB146_145.out;have hnb13:=NB145_147.out;have hnc13:=NB147_145.out;obtain ⟨hcz14_0,hcz14_1,hcz14_2,hcz14_3,hcz14_4,hcz14_5⟩:=cq6 BK145.out;obtain ⟨hfz14_0,hfz14_1,hfz14_2,hfz14_3,hfz14_4,hfz14_5⟩:=fq6 BK145.out;have hnb15:=NB146_147.out;have hnc15:=NB147_146.out;obtain ⟨hcz16_0,hcz16_1⟩:=cq2 BK146.out;obtain ⟨hfz16_0,hfz16_1⟩:=fq2 BK146.out)|((with_reducible refine gate_callee (f:=10) rfl ?_);refine goesL_ (some 11) rfl rfl Try.func10 (by kernel_rfl) rfl #[.agg #[.int .i64 a0_0,.int .i64 a0_1,.int .i64 a0_2,.int .i64 a0_3,.int .i64 a0_4,.int .i64 a0_5],.agg #[.int .i64 a1_0,.int .i64 a1_1]] rfl (by (try simp only [List.map_toArray,List.map_cons,List.map_nil]);first|done|rfl|(simp only [List.length_drop,List.length_take];rfl)) ?_;(with_reducible refine (affine_Apply.calls k a0_0 a0_1 a0_2 a0_3 a0_4 a0_5 a1_0 a1_1 t148 t149 t150 _ A3.out).mono ?_);rintro e w17 ⟨rfl,hb⟩;refine ⟨_,rfl,?_⟩;replace BK145:=am (bw (by exact BK145.out) hb);replace BK146:=am (bw (by exact BK146.out) hb);replace BK147:=am (bw (by exact BK147.out) hb);replace HB:=am (ss (by repeat (first|(with_reducible first|exact HB.out|apply sa|apply sn|apply sd|refine sy ?_ (by assumption))|exact HB.out)) hb);(try clear hb);(try clear hb2);(try clear hk);(try clear hi))|((with_reducible refine gate_dst (N:=6) rfl ?_);refine box_event ?hg (N:=6) ?hd (cs:=#[.int .i64 0,.int .i64 0]) (t:=25) ?hr ?_;(case hd => rfl);(case hg => rfl);(case hr => first|(go_simp;done)|(go_simp;rfl));intro gb151 hg w18 hbox hb;have BK151:=am (hbox);obtain ⟨h1_,GW151⟩:=sg (by repeat (first|(with_reducible first|exact HB.out|apply sa|apply sn|apply sd|refine sy ?_ (by assumption))|exact HB.out)) hb hg;replace HB:=h1_;clear h1_;have GE151:=GW151;have NB145_151:=nb (by exact BK145.out) hg;replace BK145:=am (bw (by exact BK145.out) hb);have NB151_145:=am (Ne.symm NB145_151.out);have NB146_151:=nb (by exact BK146.out) hg;replace BK146:=am (bw (by exact BK146.out) hb);have NB151_146:=am (Ne.symm NB146_151.out);have NB147_151:=nb (by exact BK147.out) hg;have NB151_147:=ng (by exact BK147.out) hg;replace BK147:=am (bw (by exact BK147.out) hb);clear hb hbox hg;have hnb19:=NB151_145.out;have hnc19:=NB145_151.out;have hnb20:=NB151_146.out;have hnc20:=NB146_151.out;have hnb21:=NB151_147.out;have hnc21:=NB147_151.out;obtain ⟨hcz22_0,hcz22_1⟩:=cq2 BK151.out;obtain ⟨hfz22_0,hfz22_1⟩:=fq2 BK151.out))
      have n0_ : Aside0 (((w18.setCell ⟨gb151,0,none⟩ (.int .i64 t148)).setCell ⟨gb151,1,none⟩ (.int .i64 t149)).heap[gb145]? = some (.cells #[.int .i64 a0_0,.int .i64 a0_1,.int .i64 a0_2,.int .i64 a0_3,.int .i64 a0_4,.int .i64 a0_5] 23 (0,0))):=⟨by (with_reducible repeat (first|refine bn ?_ _|refine bd ?_|refine ba ?_ _|refine bf ?_ NB145_151.out _));exact BK145.out⟩;have n1_ : Aside0 (((w18.setCell ⟨gb151,0,none⟩ (.int .i64 t148)).setCell ⟨gb151,1,none⟩ (.int .i64 t149)).heap[gb146]? = some (.cells #[.int .i64 a1_0,.int .i64 a1_1] 25 (0,0))):=⟨by (with_reducible repeat (first|refine bn ?_ _|refine bd ?_|refine ba ?_ _|refine bf ?_ NB146_151.out _));exact BK146.out⟩;have n2_ : Aside0 (((w18.setCell ⟨gb151,0,none⟩ (.int .i64 t148)).setCell ⟨gb151,1,none⟩ (.int .i64 t149)).heap[gb147]? = some (.cells #[.int .i64 0,.int .i64 0] 25 (0,0))):=⟨by (with_reducible repeat (first|refine bn ?_ _|refine bd ?_|refine ba ?_ _|refine bf ?_ NB147_151.out _));exact BK147.out⟩;have n3_ : Aside0 (((w18.setCell ⟨gb151,0,none⟩ (.int .i64 t148)).setCell ⟨gb151,1,none⟩ (.int .i64 t149)).heap[gb151]? = some (.cells #[.int .i64 t148,.int .i64 t149] 25 (0,0))):=⟨by (with_reducible repeat (first|refine bn ?_ _|refine bd ?_|refine ba ?_ _));refine bp (cs:=#[.int .i64 t148,.int .i64 0]) ?_ 1 _ rfl;(with_reducible repeat (first|refine bn ?_ _|refine bd ?_|refine ba ?_ _));refine bp (cs:=#[.int .i64 0,.int .i64 0]) ?_ 0 _ rfl;(with_reducible repeat (first|refine bn ?_ _|refine bd ?_|refine ba ?_ _));exact BK151.out⟩;have n4_ : Aside0 (Below w.heap.size w ((w18.setCell ⟨gb151,0,none⟩ (.int .i64 t148)).setCell ⟨gb151,1,none⟩ (.int .i64 t149))):=⟨by repeat (first|(with_reducible first|exact HB.out|apply sa|apply sn|apply sd|refine sy ?_ (by assumption))|exact HB.out)⟩;(try clear BK145);(try clear BK146);(try clear BK147);(try clear BK151);(try clear HB);generalize ((w18.setCell ⟨gb151,0,none⟩ (.int .i64 t148)).setCell ⟨gb151,1,none⟩ (.int .i64 t149)) = w23 at n0_ n1_ n2_ n3_ n4_ ⊢;have BK145:=n0_;have BK146:=n1_;have BK147:=n2_;have BK151:=n3_;have HB:=n4_;clear n0_ n1_ n2_ n3_ n4_;replace BK145:=am (bd BK145.out);replace BK146:=am (bd BK146.out);replace BK147:=am (bd BK147.out);replace BK151:=am (bd BK151.out);replace HB:=am (sd HB.out);refine start_ (n:=8) (S:=fun w' => w'.cell? ⟨gb151,0,none⟩ = some (.int .i64 t148) ∧ w'.cell? ⟨gb151,1,none⟩ = some (.int .i64 t149)) (ds:=[7]) #[false,false,false,false,false,false,false,false] (by kernel_rfl) rfl rfl ⟨(bc BK151.out 0).trans rfl,(bc BK151.out 1).trans rfl⟩ (fun hHeld => ?_);refine with_tabW affine_Grid.tab4 affine_Grid.bits4 (fun HT_ HW_ => ?_);generalize w23.drew = w24 at BK145 BK146 BK147 BK151 HB hHeld ⊢;refine pure_ (i:=0) (N:=some 18) (v:=?_) (a':=?_) #[true,false,false,false,false,false,false,false] rfl rfl (any_of HT_.out (by kernel_rfl)) (fun _ _ _ h => h) (Or.inl ⟨by rfl,?_⟩) ?_ ?_
      rotate_left
      · intro w'
        go_simp
        with_reducible rfl
      rotate_left
      · simp only [Act.put,q1,q2,q3,i64_w,i32_w]
        rfl
      refine pure_ (i:=3) (N:=some 21) (v:=?_) (a':=?_) #[true,false,false,true,false,false,false,false] rfl rfl (any_of HT_.out (by kernel_rfl)) (fun _ _ _ h => h) (Or.inl ⟨by rfl,?_⟩) ?_ ?_
      rotate_left
      · intro w'
        go_simp
        with_reducible rfl
      rotate_left
      · simp only [Act.put,q1,q2,q3,i64_w,i32_w]
        rfl
      refine take_ (i:=1) (N:=some 19) (v:=?_) (a':=?_) #[true,true,false,true,false,false,false,false] rfl rfl (take_ofW HT_.out HW_.out (by kernel_rfl)) (fun _ _ _ h => h) (Or.inl ⟨by rfl,?_⟩) hHeld ?_ ?_
      rotate_left
      · rintro w' ⟨s0,s1⟩
        go_simp
        with_reducible rfl
      rotate_left
      · simp only [Act.put,q1,q2,q3,i64_w,i32_w]
        rfl
      refine take_ (i:=4) (N:=some 22) (v:=?_) (a':=?_) #[true,true,false,true,true,false,false,false] rfl rfl (take_ofW HT_.out HW_.out (by kernel_rfl)) (fun _ _ _ h => h) (Or.inl ⟨by rfl,?_⟩) hHeld ?_ ?_
      rotate_left
      · rintro w' ⟨s0,s1⟩
        go_simp
        with_reducible rfl
      rotate_left
      · simp only [Act.put,q1,q2,q3,i64_w,i32_w]
        rfl
      refine one_ (i:=2) (N:=some 20) #[true,true,true,true,true,false,false,false] rfl rfl (one_of HT_.out (by kernel_rfl)) (by decide) (fun K hK => ?_);refine goes_ Try.func33 (by kernel_rfl) rfl #[.int .i64 t148] (by rfl) rfl rfl (by (try simp only [List.map_toArray,List.map_cons,List.map_nil]);first|done|rfl|(simp only [List.length_drop,List.length_take];rfl)) ?_
      with_reducible refine (affine_snap.calls k t148 t152 _ A5.out).mono ?_
      rintro e w25 ⟨rfl,hb⟩
      refine ⟨_,rfl,?_⟩;replace BK145:=am (bw (by exact BK145.out) hb);replace BK146:=am (bw (by exact BK146.out) hb);replace BK147:=am (bw (by exact BK147.out) hb);replace BK151:=am (bw (by exact BK151.out) hb);replace HB:=am (ss (by repeat (first|(with_reducible first|exact HB.out|apply sa|apply sn|apply sd|refine sy ?_ (by assumption))|exact HB.out)) hb);(try clear hb);(try clear hb2);(try clear hk);(try clear hi);refine hK.out _ _ ⟨(bc BK151.out 0).trans rfl,(bc BK151.out 1).trans rfl⟩ (fun hHeld => ?_);clear hK K;refine norm_ (a':=?_) ?_ ?_
      rotate_left
      · show Act.put _ (some 20) _ = _
        simp only [Act.put,q1,q2,q3,i64_w,i32_w]
        rfl
      refine one_ (i:=5) (N:=some 23) #[true,true,true,true,true,true,false,false] rfl rfl (one_of HT_.out (by kernel_rfl)) (by decide) (fun K hK => ?_);refine goes_ Try.func33 (by kernel_rfl) rfl #[.int .i64 t149] (by rfl) rfl rfl (by (try simp only [List.map_toArray,List.map_cons,List.map_nil]);first|done|rfl|(simp only [List.length_drop,List.length_take];rfl)) ?_
      with_reducible refine (affine_snap.calls k t149 t153 _ A6.out).mono ?_
      rintro e w26 ⟨rfl,hb⟩
      refine ⟨_,rfl,?_⟩;replace BK145:=am (bw (by exact BK145.out) hb);replace BK146:=am (bw (by exact BK146.out) hb);replace BK147:=am (bw (by exact BK147.out) hb);replace BK151:=am (bw (by exact BK151.out) hb);replace HB:=am (ss (by repeat (first|(with_reducible first|exact HB.out|apply sa|apply sn|apply sd|refine sy ?_ (by assumption))|exact HB.out)) hb);(try clear hb);(try clear hb2);(try clear hk);(try clear hi);refine hK.out _ _ ⟨(bc BK151.out 0).trans rfl,(bc BK151.out 1).trans rfl⟩ (fun hHeld => ?_);clear hK K;refine norm_ (a':=?_) ?_ ?_
      rotate_left
      · show Act.put _ (some 23) _ = _
        simp only [Act.put,q1,q2,q3,i64_w,i32_w]
        rfl
      refine pure_ (i:=6) (N:=some 24) (v:=?_) (a':=?_) #[true,true,true,true,true,true,true,false] rfl rfl (any_of HT_.out (by kernel_rfl)) (fun _ _ _ h => h) (Or.inl ⟨by rfl,?_⟩) ?_ ?_
      rotate_left
      · intro w'
        go_simp
        with_reducible rfl
      rotate_left
      · simp only [Act.put,q1,q2,q3,i64_w,i32_w]
        rfl
      refine last_ (i:=7) (N:=none) #[true,true,true,true,true,true,true,true] rfl rfl (one_of HT_.out (by kernel_rfl)) (by decide) (fun K hK => ?_);have hs27 : w26.cell? ⟨gb151,0,none⟩ = some (.int .i64 t148):=(bc BK151.out 0).trans rfl;have hfs27:=bz BK151.out 0;have hns27_0:=NB145_151.out;have hns27_1:=NB146_151.out;have hns27_2:=NB147_151.out;have hms27_0:=NB151_145.out;have hms27_1:=NB151_146.out;have hms27_2:=NB151_147.out;have hs28 : w26.cell? ⟨gb151,1,none⟩ = some (.int .i64 t149):=(bc BK151.out 1).trans rfl;have hfs28:=bz BK151.out 1;have hns28_0:=NB145_151.out;have hns28_1:=NB146_151.out;have hns28_2:=NB147_151.out;have hms28_0:=NB151_145.out;have hms28_1:=NB151_146.out;have hms28_2:=NB151_147.out;refine skip_ (w1:=?_) (by rfl) rfl ?_ ?_
      rotate_left
      · go_simp
        rfl
      refine hK.out _ _ ?_;clear hK K;refine done_ (done_of HT_.out (by kernel_rfl)) ?_;have hcz29_0 : w26.cell? ⟨gb151,0,none⟩ = some (.int .i64 t148):=(bc BK151.out 0).trans rfl;have hcz29_1 : w26.cell? ⟨gb151,1,none⟩ = some (.int .i64 t149):=(bc BK151.out 1).trans rfl;have hfz29_0:=bz BK151.out 0;have hfz29_1:=bz BK151.out 1
      try go_wp2_with (first|((with_reducible refine gate_callee (f:=32) rfl ?_);refine goesL_ (some 26) rfl rfl Try.func32 (by kernel_rfl) rfl #[.agg #[.int .i64 t152,.int .i64 t153],.int .i64 16777216] rfl (by (try simp only [List.map_toArray,List.map_cons,List.map_nil]);first|done|rfl|(simp only [List.length_drop,List.length_take];rfl)) ?_;(with_reducible refine (affine_within.calls t152 t153 16777216 true _ A7.out).mono ?_);rintro e w30 ⟨rfl,hb⟩;refine ⟨_,rfl,?_⟩;replace BK145:=am (wz BK145.out (by (with_reducible repeat (first|refine bn ?_ _|refine bd ?_|refine ba ?_ _|refine bf ?_ NB145_151.out _));exact BK145.out) hb);replace BK146:=am (wz BK146.out (by (with_reducible repeat (first|refine bn ?_ _|refine bd ?_|refine ba ?_ _|refine bf ?_ NB146_151.out _));exact BK146.out) hb);replace BK147:=am (wz BK147.out (by (with_reducible repeat (first|refine bn ?_ _|refine bd ?_|refine ba ?_ _|refine bf ?_ NB147_151.out _));exact BK147.out) hb);replace BK151:=am (bw (g:=gb151) (o:=.cells #[.int .i64 t152,.int .i64 t153] 25 (0,0)) (by (with_reducible repeat (first|refine bn ?_ _|refine bd ?_|refine ba ?_ _));refine bp (cs:=#[.int .i64 t152,.int .i64 t149]) ?_ 1 _ rfl;(with_reducible repeat (first|refine bn ?_ _|refine bd ?_|refine ba ?_ _));refine bp (cs:=#[.int .i64 t148,.int .i64 t149]) ?_ 0 _ rfl;(with_reducible repeat (first|refine bn ?_ _|refine bd ?_|refine ba ?_ _));exact BK151.out) hb);replace HB:=am (ss (by repeat (first|(with_reducible first|exact HB.out|apply sa|apply sn|apply sd|refine sy ?_ (by assumption))|exact HB.out)) hb);(try clear hb);(try clear hb2);(try clear hk);(try clear hi);have hcz31_0 : w30.cell? ⟨gb151,0,none⟩ = some (.int .i64 t152):=(bc BK151.out 0).trans rfl;have hcz31_1 : w30.cell? ⟨gb151,1,none⟩ = some (.int .i64 t153):=(bc BK151.out 1).trans rfl;obtain ⟨hfz31_0,hfz31_1⟩:=fq2 BK151.out;obtain ⟨hcz32_0,hcz32_1⟩:=cq2 BK147.out;obtain ⟨hfz32_0,hfz32_1⟩:=fq2 BK147.out))
      refine bodyPost_ret (results_ct rfl _ _ gb147 25 #[.int .i64 t152,.int .i64 t153] (0,0) _ rfl (by (with_reducible repeat (first|refine bn ?_ _|refine bd ?_|refine ba ?_ _));refine bp (cs:=#[.int .i64 t152,.int .i64 0]) ?_ 1 _ rfl;(with_reducible repeat (first|refine bn ?_ _|refine bd ?_|refine ba ?_ _));refine bp (cs:=#[.int .i64 0,.int .i64 0]) ?_ 0 _ rfl;(with_reducible repeat (first|refine bn ?_ _|refine bd ?_|refine ba ?_ _));exact BK147.out) Try.underlying25 rfl (by kernel_rfl)) rfl ?_
      exact ⟨by first|rfl|(simp [errW_none,errW_some] <;> rfl)|(simp [*,errW_none,errW_some] <;> rfl),by repeat (first|(with_reducible first|exact HB.out|apply sa|apply sn|apply sd|refine sy ?_ (by assumption))|exact HB.out)⟩
    · replace c8:=Bool.eq_false_iff.mpr c8
      subst c8
      have H1 : (some (0,0,8)) = some (r1,r2,r3):=by rw [if_neg (show ¬ (false = true) by decide)] at H;exact H
      clear H;have H:=H1;clear H1;simp only [Option.some.injEq,Prod.mk.injEq] at H;obtain ⟨rfl,rfl,rfl⟩:=H
      go_enter Try.func11,Try.ntmps11
      try go_wp2_with (first|((with_reducible refine gate_dst (N:=2) rfl ?_);refine box_event ?hg (N:=2) ?hd (cs:=#[.int .i64 a0_0,.int .i64 a0_1,.int .i64 a0_2,.int .i64 a0_3,.int .i64 a0_4,.int .i64 a0_5]) (t:=23) ?hr ?_;(case hd => rfl);(case hg => rfl);(case hr => first|(go_simp;done)|(go_simp;rfl));intro gb145 hg w33 hbox hb;have BK145:=am (hbox);have GW145:=am ((by rw [hg];exact (sz (by repeat (first|(with_reducible first|exact HB.out|apply sa|apply sn|apply sd)|exact HB.out))) : w.heap.size ≤ gb145));have GE145:=am ((by rw [hg];exact (sz (by repeat (first|(with_reducible first|exact HB.out|apply sa|apply sn|apply sd)|exact HB.out))) : w.heap.size ≤ gb145));replace HB:=am (ss (by repeat (first|(with_reducible first|exact HB.out|apply sa|apply sn|apply sd)|exact HB.out)) hb);clear hb hbox hg)|((with_reducible refine gate_dst (N:=3) rfl ?_);refine box_event ?hg (N:=3) ?hd (cs:=#[.int .i64 a1_0,.int .i64 a1_1]) (t:=25) ?hr ?_;(case hd => rfl);(case hg => rfl);(case hr => first|(go_simp;done)|(go_simp;rfl));intro gb146 hg w34 hbox hb;have BK146:=am (hbox);obtain ⟨h1_,GW146⟩:=sg (by repeat (first|(with_reducible first|exact HB.out|apply sa|apply sn|apply sd|refine sx ?_ GE145.out)|exact HB.out)) hb hg;replace HB:=h1_;clear h1_;have GE146:=GW146;have NB145_146:=nb (by exact BK145.out) hg;have NB146_145:=ng (by exact BK145.out) hg;replace BK145:=am (bw (by exact BK145.out) hb);clear hb hbox hg)|((with_reducible refine gate_dst (N:=4) rfl ?_);refine box_event ?hg (N:=4) ?hd (cs:=#[.int .i64 0,.int .i64 0]) (t:=25) ?hr ?_;(case hd => rfl);(case hg => rfl);(case hr => first|(go_simp;done)|(go_simp;rfl));intro gb147 hg w35 hbox hb;have BK147:=am (hbox);obtain ⟨h1_,GW147⟩:=sg (by repeat (first|(with_reducible first|exact HB.out|apply sa|apply sn|apply sd|refine sy ?_ (by assumption))|exact HB.out)) hb hg;replace HB:=h1_;clear h1_;have GE147:=GW147;have NB145_147:=nb (by exact BK145.out) hg;replace BK145:=am (bw (by exact BK145.out) hb);have NB147_145:=am (Ne.symm NB145_147.out);have NB146_147:=nb (by exact BK146.out) hg;have NB147_146:=ng (by exact BK146.out) hg;replace BK146:=am (bw (by exact BK146.out) hb);clear hb hbox hg;have hnb36:=NB145_146.out;have hnc36:=NB146_145.out;have hnb37:=NB145_147.out;have hnc37:=NB147_145.out;obtain ⟨hcz38_0,hcz38_1,hcz38_2,hcz38_3,hcz38_4,hcz38_5⟩:=cq6 BK145.out;obtain ⟨hfz38_0,hfz38_1,hfz38_2,hfz38_3,hfz38_4,hfz38_5⟩:=fq6 BK145.out;have hnb39:=NB146_147.out;have hnc39:=NB147_146.out;obtain ⟨hcz40_0,hcz40_1⟩:=cq2 BK146.out;obtain ⟨hfz40_0,hfz40_1⟩:=fq2 BK146.out)|((with_reducible refine gate_callee (f:=10) rfl ?_);refine goesL_ (some 11) rfl rfl Try.func10 (by kernel_rfl) rfl #[.agg #[.int .i64 a0_0,.int .i64 a0_1,.int .i64 a0_2,.int .i64 a0_3,.int .i64 a0_4,.int .i64 a0_5],.agg #[.int .i64 a1_0,.int .i64 a1_1]] rfl (by (try simp only [List.map_toArray,List.map_cons,List.map_nil]);first|done|rfl|(simp only [List.length_drop,List.length_take];rfl)) ?_;(with_reducible refine (affine_Apply.calls k a0_0 a0_1 a0_2 a0_3 a0_4 a0_5 a1_0 a1_1 t148 t149 t150 _ A3.out).mono ?_);rintro e w41 ⟨rfl,hb⟩;refine ⟨_,rfl,?_⟩;replace BK145:=am (bw (by exact BK145.out) hb);replace BK146:=am (bw (by exact BK146.out) hb);replace BK147:=am (bw (by exact BK147.out) hb);replace HB:=am (ss (by repeat (first|(with_reducible first|exact HB.out|apply sa|apply sn|apply sd|refine sy ?_ (by assumption))|exact HB.out)) hb);(try clear hb);(try clear hb2);(try clear hk);(try clear hi))|((with_reducible refine gate_dst (N:=6) rfl ?_);refine box_event ?hg (N:=6) ?hd (cs:=#[.int .i64 0,.int .i64 0]) (t:=25) ?hr ?_;(case hd => rfl);(case hg => rfl);(case hr => first|(go_simp;done)|(go_simp;rfl));intro gb151 hg w42 hbox hb;have BK151:=am (hbox);obtain ⟨h1_,GW151⟩:=sg (by repeat (first|(with_reducible first|exact HB.out|apply sa|apply sn|apply sd|refine sy ?_ (by assumption))|exact HB.out)) hb hg;replace HB:=h1_;clear h1_;have GE151:=GW151;have NB145_151:=nb (by exact BK145.out) hg;replace BK145:=am (bw (by exact BK145.out) hb);have NB151_145:=am (Ne.symm NB145_151.out);have NB146_151:=nb (by exact BK146.out) hg;replace BK146:=am (bw (by exact BK146.out) hb);have NB151_146:=am (Ne.symm NB146_151.out);have NB147_151:=nb (by exact BK147.out) hg;have NB151_147:=ng (by exact BK147.out) hg;replace BK147:=am (bw (by exact BK147.out) hb);clear hb hbox hg;have hnb43:=NB151_145.out;have hnc43:=NB145_151.out;have hnb44:=NB151_146.out;have hnc44:=NB146_151.out;have hnb45:=NB151_147.out;have hnc45:=NB147_151.out;have hcz46_0 : w42.cell? ⟨gb151,0,none⟩ = some (.int .i64 0):=(bc BK151.out 0).trans rfl;have hcz46_1 : w42.cell? ⟨gb151,1,none⟩ = some (.int .i64 0):=(bc BK151.out 1).trans rfl;obtain ⟨hfz46_0,hfz46_1⟩:=fq2 BK151.out))
      have n0_ : Aside0 (((w42.setCell ⟨gb151,0,none⟩ (.int .i64 t148)).setCell ⟨gb151,1,none⟩ (.int .i64 t149)).heap[gb145]? = some (.cells #[.int .i64 a0_0,.int .i64 a0_1,.int .i64 a0_2,.int .i64 a0_3,.int .i64 a0_4,.int .i64 a0_5] 23 (0,0))):=⟨by (with_reducible repeat (first|refine bn ?_ _|refine bd ?_|refine ba ?_ _|refine bf ?_ NB145_151.out _));exact BK145.out⟩;have n1_ : Aside0 (((w42.setCell ⟨gb151,0,none⟩ (.int .i64 t148)).setCell ⟨gb151,1,none⟩ (.int .i64 t149)).heap[gb146]? = some (.cells #[.int .i64 a1_0,.int .i64 a1_1] 25 (0,0))):=⟨by (with_reducible repeat (first|refine bn ?_ _|refine bd ?_|refine ba ?_ _|refine bf ?_ NB146_151.out _));exact BK146.out⟩;have n2_ : Aside0 (((w42.setCell ⟨gb151,0,none⟩ (.int .i64 t148)).setCell ⟨gb151,1,none⟩ (.int .i64 t149)).heap[gb147]? = some (.cells #[.int .i64 0,.int .i64 0] 25 (0,0))):=⟨by (with_reducible repeat (first|refine bn ?_ _|refine bd ?_|refine ba ?_ _|refine bf ?_ NB147_151.out _));exact BK147.out⟩;have n3_ : Aside0 (((w42.setCell ⟨gb151,0,none⟩ (.int .i64 t148)).setCell ⟨gb151,1,none⟩ (.int .i64 t149)).heap[gb151]? = some (.cells #[.int .i64 t148,.int .i64 t149] 25 (0,0))):=⟨by (with_reducible repeat (first|refine bn ?_ _|refine bd ?_|refine ba ?_ _));refine bp (cs:=#[.int .i64 t148,.int .i64 0]) ?_ 1 _ rfl;(with_reducible repeat (first|refine bn ?_ _|refine bd ?_|refine ba ?_ _));refine bp (cs:=#[.int .i64 0,.int .i64 0]) ?_ 0 _ rfl;(with_reducible repeat (first|refine bn ?_ _|refine bd ?_|refine ba ?_ _));exact BK151.out⟩;have n4_ : Aside0 (Below w.heap.size w ((w42.setCell ⟨gb151,0,none⟩ (.int .i64 t148)).setCell ⟨gb151,1,none⟩ (.int .i64 t149))):=⟨by repeat (first|(with_reducible first|exact HB.out|apply sa|apply sn|apply sd|refine sy ?_ (by assumption))|exact HB.out)⟩;(try clear BK145);(try clear BK146);(try clear BK147);(try clear BK151);(try clear HB);generalize ((w42.setCell ⟨gb151,0,none⟩ (.int .i64 t148)).setCell ⟨gb151,1,none⟩ (.int .i64 t149)) = w47 at n0_ n1_ n2_ n3_ n4_ ⊢;have BK145:=n0_;have BK146:=n1_;have BK147:=n2_;have BK151:=n3_;have HB:=n4_;clear n0_ n1_ n2_ n3_ n4_;replace BK145:=am (bd BK145.out);replace BK146:=am (bd BK146.out);replace BK147:=am (bd BK147.out);replace BK151:=am (bd BK151.out);replace HB:=am (sd HB.out);refine start_ (n:=8) (S:=fun w' => w'.cell? ⟨gb151,0,none⟩ = some (.int .i64 t148) ∧ w'.cell? ⟨gb151,1,none⟩ = some (.int .i64 t149)) (ds:=[7]) #[false,false,false,false,false,false,false,false] (by kernel_rfl) rfl rfl ⟨(bc BK151.out 0).trans rfl,(bc BK151.out 1).trans rfl⟩ (fun hHeld => ?_);refine with_tabW affine_Grid.tab4 affine_Grid.bits4 (fun HT_ HW_ => ?_);generalize w47.drew = w48 at BK145 BK146 BK147 BK151 HB hHeld ⊢;refine pure_ (i:=0) (N:=some 18) (v:=?_) (a':=?_) #[true,false,false,false,false,false,false,false] rfl rfl (any_of HT_.out (by kernel_rfl)) (fun _ _ _ h => h) (Or.inl ⟨by rfl,?_⟩) ?_ ?_
      rotate_left
      · intro w'
        go_simp
        with_reducible rfl
      rotate_left
      · simp only [Act.put,q1,q2,q3,i64_w,i32_w]
        rfl
      refine pure_ (i:=3) (N:=some 21) (v:=?_) (a':=?_) #[true,false,false,true,false,false,false,false] rfl rfl (any_of HT_.out (by kernel_rfl)) (fun _ _ _ h => h) (Or.inl ⟨by rfl,?_⟩) ?_ ?_
      rotate_left
      · intro w'
        go_simp
        with_reducible rfl
      rotate_left
      · simp only [Act.put,q1,q2,q3,i64_w,i32_w]
        rfl
      refine take_ (i:=1) (N:=some 19) (v:=?_) (a':=?_) #[true,true,false,true,false,false,false,false] rfl rfl (take_ofW HT_.out HW_.out (by kernel_rfl)) (fun _ _ _ h => h) (Or.inl ⟨by rfl,?_⟩) hHeld ?_ ?_
      rotate_left
      · rintro w' ⟨s0,s1⟩
        go_simp
        with_reducible rfl
      rotate_left
      · simp only [Act.put,q1,q2,q3,i64_w,i32_w]
        rfl
      refine take_ (i:=4) (N:=some 22) (v:=?_) (a':=?_) #[true,true,false,true,true,false,false,false] rfl rfl (take_ofW HT_.out HW_.out (by kernel_rfl)) (fun _ _ _ h => h) (Or.inl ⟨by rfl,?_⟩) hHeld ?_ ?_
      rotate_left
      · rintro w' ⟨s0,s1⟩
        go_simp
        with_reducible rfl
      rotate_left
      · simp only [Act.put,q1,q2,q3,i64_w,i32_w]
        rfl
      refine one_ (i:=2) (N:=some 20) #[true,true,true,true,true,false,false,false] rfl rfl (one_of HT_.out (by kernel_rfl)) (by decide) (fun K hK => ?_);refine goes_ Try.func33 (by kernel_rfl) rfl #[.int .i64 t148] (by rfl) rfl rfl (by (try simp only [List.map_toArray,List.map_cons,List.map_nil]);first|done|rfl|(simp only [List.length_drop,List.length_take];rfl)) ?_
      with_reducible refine (affine_snap.calls k t148 t152 _ A5.out).mono ?_
      rintro e w49 ⟨rfl,hb⟩
      refine ⟨_,rfl,?_⟩;replace BK145:=am (bw (by exact BK145.out) hb);replace BK146:=am (bw (by exact BK146.out) hb);replace BK147:=am (bw (by exact BK147.out) hb);replace BK151:=am (bw (by exact BK151.out) hb);replace HB:=am (ss (by repeat (first|(with_reducible first|exact HB.out|apply sa|apply sn|apply sd|refine sy ?_ (by assumption))|exact HB.out)) hb);(try clear hb);(try clear hb2);(try clear hk);(try clear hi);refine hK.out _ _ ⟨(bc BK151.out 0).trans rfl,(bc BK151.out 1).trans rfl⟩ (fun hHeld => ?_);clear hK K;refine norm_ (a':=?_) ?_ ?_
      rotate_left
      · show Act.put _ (some 20) _ = _
        simp only [Act.put,q1,q2,q3,i64_w,i32_w]
        rfl
      refine one_ (i:=5) (N:=some 23) #[true,true,true,true,true,true,false,false] rfl rfl (one_of HT_.out (by kernel_rfl)) (by decide) (fun K hK => ?_);refine goes_ Try.func33 (by kernel_rfl) rfl #[.int .i64 t149] (by rfl) rfl rfl (by (try simp only [List.map_toArray,List.map_cons,List.map_nil]);first|done|rfl|(simp only [List.length_drop,List.length_take];rfl)) ?_
      with_reducible refine (affine_snap.calls k t149 t153 _ A6.out).mono ?_
      rintro e w50 ⟨rfl,hb⟩
      refine ⟨_,rfl,?_⟩;replace BK145:=am (bw (by exact BK145.out) hb);replace BK146:=am (bw (by exact BK146.out) hb);replace BK147:=am (bw (by exact BK147.out) hb);replace BK151:=am (bw (by exact BK151.out) hb);replace HB:=am (ss (by repeat (first|(with_reducible first|exact HB.out|apply sa|apply sn|apply sd|refine sy ?_ (by assumption))|exact HB.out)) hb);(try clear hb);(try clear hb2);(try clear hk);(try clear hi);refine hK.out _ _ ⟨(bc BK151.out 0).trans rfl,(bc BK151.out 1).trans rfl⟩ (fun hHeld => ?_);clear hK K;refine norm_ (a':=?_) ?_ ?_
      rotate_left
      · show Act.put _ (some 23) _ = _
        simp only [Act.put,q1,q2,q3,i64_w,i32_w]
        rfl
      refine pure_ (i:=6) (N:=some 24) (v:=?_) (a':=?_) #[true,true,true,true,true,true,true,false] rfl rfl (any_of HT_.out (by kernel_rfl)) (fun _ _ _ h => h) (Or.inl ⟨by rfl,?_⟩) ?_ ?_
      rotate_left
      · intro w'
        go_simp
        with_reducible rfl
      rotate_left
      · simp only [Act.put,q1,q2,q3,i64_w,i32_w]
        rfl
      refine last_ (i:=7) (N:=none) #[true,true,true,true,true,true,true,true] rfl rfl (one_of HT_.out (by kernel_rfl)) (by decide) (fun K hK => ?_);have hs51 : w50.cell? ⟨gb151,0,none⟩ = some (.int .i64 t148):=(bc BK151.out 0).trans rfl;have hfs51:=bz BK151.out 0;have hns51_0:=NB145_151.out;have hns51_1:=NB146_151.out;have hns51_2:=NB147_151.out;have hms51_0:=NB151_145.out;have hms51_1:=NB151_146.out;have hms51_2:=NB151_147.out;have hs52 : w50.cell? ⟨gb151,1,none⟩ = some (.int .i64 t149):=(bc BK151.out 1).trans rfl;have hfs52:=bz BK151.out 1;have hns52_0:=NB145_151.out;have hns52_1:=NB146_151.out;have hns52_2:=NB147_151.out;have hms52_0:=NB151_145.out;have hms52_1:=NB151_146.out;have hms52_2:=NB151_147.out;refine skip_ (w1:=?_) (by rfl) rfl ?_ ?_
      rotate_left
      · go_simp
        rfl
      refine hK.out _ _ ?_;clear hK K;refine done_ (done_of HT_.out (by kernel_rfl)) ?_;have hcz53_0 : w50.cell? ⟨gb151,0,none⟩ = some (.int .i64 t148):=(bc BK151.out 0).trans rfl;have hcz53_1 : w50.cell? ⟨gb151,1,none⟩ = some (.int .i64 t149):=(bc BK151.out 1).trans rfl;have hfz53_0:=bz BK151.out 0;have hfz53_1:=bz BK151.out 1
      try go_wp2_with (first|((with_reducible refine gate_callee (f:=32) rfl ?_);refine goesL_ (some 26) rfl rfl Try.func32 (by kernel_rfl) rfl #[.agg #[.int .i64 t152,.int .i64 t153],.int .i64 16777216] rfl (by (try simp only [List.map_toArray,List.map_cons,List.map_nil]);first|done|rfl|(simp only [List.length_drop,List.length_take];rfl)) ?_;(with_reducible refine (affine_within.calls t152 t153 16777216 false _ A7.out).mono ?_);rintro e w54 ⟨rfl,hb⟩;refine ⟨_,rfl,?_⟩;replace BK145:=am (wz BK145.out (by (with_reducible repeat (first|refine bn ?_ _|refine bd ?_|refine ba ?_ _|refine bf ?_ NB145_151.out _));exact BK145.out) hb);replace BK146:=am (wz BK146.out (by (with_reducible repeat (first|refine bn ?_ _|refine bd ?_|refine ba ?_ _|refine bf ?_ NB146_151.out _));exact BK146.out) hb);replace BK147:=am (wz BK147.out (by (with_reducible repeat (first|refine bn ?_ _|refine bd ?_|refine ba ?_ _|refine bf ?_ NB147_151.out _));exact BK147.out) hb);replace BK151:=am (bw (g:=gb151) (o:=.cells #[.int .i64 t152,.int .i64 t153] 25 (0,0)) (by (with_reducible repeat (first|refine bn ?_ _|refine bd ?_|refine ba ?_ _));refine bp (cs:=#[.int .i64 t152,.int .i64 t149]) ?_ 1 _ rfl;(with_reducible repeat (first|refine bn ?_ _|refine bd ?_|refine ba ?_ _));refine bp (cs:=#[.int .i64 t148,.int .i64 t149]) ?_ 0 _ rfl;(with_reducible repeat (first|refine bn ?_ _|refine bd ?_|refine ba ?_ _));exact BK151.out) hb);replace HB:=am (ss (by repeat (first|(with_reducible first|exact HB.out|apply sa|apply sn|apply sd|refine sy ?_ (by assumption))|exact HB.out)) hb);(try clear hb);(try clear hb2);(try clear hk);(try clear hi);obtain ⟨hcz55_0,hcz55_1⟩:=cq2 BK147.out;obtain ⟨hfz55_0,hfz55_1⟩:=fq2 BK147.out))
      refine bodyPost_ret (results_ct rfl _ _ gb147 25 #[.int .i64 0,.int .i64 0] (0,0) _ rfl (by (with_reducible repeat (first|refine bn ?_ _|refine bd ?_|refine ba ?_ _));refine bp (cs:=#[.int .i64 0,.int .i64 0]) ?_ 1 _ rfl;(with_reducible repeat (first|refine bn ?_ _|refine bd ?_|refine ba ?_ _));refine bp (cs:=#[.int .i64 0,.int .i64 0]) ?_ 0 _ rfl;(with_reducible repeat (first|refine bn ?_ _|refine bd ?_|refine ba ?_ _));exact BK147.out) Try.underlying25 rfl (by kernel_rfl)) rfl ?_
      exact ⟨by first|rfl|(simp [errW_none,errW_some] <;> rfl)|(simp [*,errW_none,errW_some] <;> rfl),by repeat (first|(with_reducible first|exact HB.out|apply sa|apply sn|apply sd|refine sy ?_ (by assumption))|exact HB.out)⟩
  · rw [if_neg c4] at H
    have c4b0 : (t150 == 0) = false:=beq_eq_false_iff_ne.mpr c4;have c4b1 : (t150 != 0) = true:=bne_iff_ne.mpr c4;simp only [Option.some.injEq,Prod.mk.injEq] at H;obtain ⟨rfl,rfl,rfl⟩:=H
    go_enter Try.func11,Try.ntmps11
    go_wp2_with (first|((with_reducible refine gate_dst (N:=2) rfl ?_);refine box_event ?hg (N:=2) ?hd (cs:=#[.int .i64 a0_0,.int .i64 a0_1,.int .i64 a0_2,.int .i64 a0_3,.int .i64 a0_4,.int .i64 a0_5]) (t:=23) ?hr ?_;(case hd => rfl);(case hg => rfl);(case hr => first|(go_simp;done)|(go_simp;rfl));intro gb145 hg w56 hbox hb;have BK145:=am (hbox);have GW145:=am ((by rw [hg];exact (sz (by repeat (first|(with_reducible first|exact HB.out|apply sa|apply sn|apply sd)|exact HB.out))) : w.heap.size ≤ gb145));have GE145:=am ((by rw [hg];exact (sz (by repeat (first|(with_reducible first|exact HB.out|apply sa|apply sn|apply sd)|exact HB.out))) : w.heap.size ≤ gb145));replace HB:=am (ss (by repeat (first|(with_reducible first|exact HB.out|apply sa|apply sn|apply sd)|exact HB.out)) hb);clear hb hbox hg)|((with_reducible refine gate_dst (N:=3) rfl ?_);refine box_event ?hg (N:=3) ?hd (cs:=#[.int .i64 a1_0,.int .i64 a1_1]) (t:=25) ?hr ?_;(case hd => rfl);(case hg => rfl);(case hr => first|(go_simp;done)|(go_simp;rfl));intro gb146 hg w57 hbox hb;have BK146:=am (hbox);obtain ⟨h1_,GW146⟩:=sg (by repeat (first|(with_reducible first|exact HB.out|apply sa|apply sn|apply sd|refine sx ?_ GE145.out)|exact HB.out)) hb hg;replace HB:=h1_;clear h1_;have GE146:=GW146;have NB145_146:=nb (by exact BK145.out) hg;have NB146_145:=ng (by exact BK145.out) hg;replace BK145:=am (bw (by exact BK145.out) hb);clear hb hbox hg)|((with_reducible refine gate_dst (N:=4) rfl ?_);refine box_event ?hg (N:=4) ?hd (cs:=#[.int .i64 0,.int .i64 0]) (t:=25) ?hr ?_;(case hd => rfl);(case hg => rfl);(case hr => first|(go_simp;done)|(go_simp;rfl));intro gb147 hg w58 hbox hb;have BK147:=am (hbox);obtain ⟨h1_,GW147⟩:=sg (by repeat (first|(with_reducible first|exact HB.out|apply sa|apply sn|apply sd|refine sy ?_ (by assumption))|exact HB.out)) hb hg;replace HB:=h1_;clear h1_;have GE147:=GW147;have NB145_147:=nb (by exact BK145.out) hg;replace BK145:=am (bw (by exact BK145.out) hb);have NB147_145:=am (Ne.symm NB145_147.out);have NB146_147:=nb (by exact BK146.out) hg;have NB147_146:=ng (by exact BK146.out) hg;replace BK146:=am (bw (by exact BK146.out) hb);clear hb hbox hg;have hnb59:=NB145_146.out;have hnc59:=NB146_145.out;have hnb60:=NB145_147.out;have hnc60:=NB147_145.out;obtain ⟨hcz61_0,hcz61_1,hcz61_2,hcz61_3,hcz61_4,hcz61_5⟩:=cq6 BK145.out;obtain ⟨hfz61_0,hfz61_1,hfz61_2,hfz61_3,hfz61_4,hfz61_5⟩:=fq6 BK145.out;have hnb62:=NB146_147.out;have hnc62:=NB147_146.out;obtain ⟨hcz63_0,hcz63_1⟩:=cq2 BK146.out;obtain ⟨hfz63_0,hfz63_1⟩:=fq2 BK146.out)|((with_reducible refine gate_callee (f:=10) rfl ?_);refine goesL_ (some 11) rfl rfl Try.func10 (by kernel_rfl) rfl #[.agg #[.int .i64 a0_0,.int .i64 a0_1,.int .i64 a0_2,.int .i64 a0_3,.int .i64 a0_4,.int .i64 a0_5],.agg #[.int .i64 a1_0,.int .i64 a1_1]] rfl (by (try simp only [List.map_toArray,List.map_cons,List.map_nil]);first|done|rfl|(simp only [List.length_drop,List.length_take];rfl)) ?_;(with_reducible refine (affine_Apply.calls k a0_0 a0_1 a0_2 a0_3 a0_4 a0_5 a1_0 a1_1 t148 t149 t150 _ A3.out).mono ?_);rintro e w64 ⟨rfl,hb⟩;refine ⟨_,rfl,?_⟩;replace BK145:=am (bw (by exact BK145.out) hb);replace BK146:=am (bw (by exact BK146.out) hb);replace BK147:=am (bw (by exact BK147.out) hb);replace HB:=am (ss (by repeat (first|(with_reducible first|exact HB.out|apply sa|apply sn|apply sd|refine sy ?_ (by assumption))|exact HB.out)) hb);(try clear hb);(try clear hb2);(try clear hk);(try clear hi))|((with_reducible refine gate_dst (N:=6) rfl ?_);refine box_event ?hg (N:=6) ?hd (cs:=#[.int .i64 0,.int .i64 0]) (t:=25) ?hr ?_;(case hd => rfl);(case hg => rfl);(case hr => first|(go_simp;done)|(go_simp;rfl));intro gb151 hg w65 hbox hb;have BK151:=am (hbox);obtain ⟨h1_,GW151⟩:=sg (by repeat (first|(with_reducible first|exact HB.out|apply sa|apply sn|apply sd|refine sy ?_ (by assumption))|exact HB.out)) hb hg;replace HB:=h1_;clear h1_;have GE151:=GW151;have NB145_151:=nb (by exact BK145.out) hg;replace BK145:=am (bw (by exact BK145.out) hb);have NB151_145:=am (Ne.symm NB145_151.out);have NB146_151:=nb (by exact BK146.out) hg;replace BK146:=am (bw (by exact BK146.out) hb);have NB151_146:=am (Ne.symm NB146_151.out);have NB147_151:=nb (by exact BK147.out) hg;have NB151_147:=ng (by exact BK147.out) hg;replace BK147:=am (bw (by exact BK147.out) hb);clear hb hbox hg;have hnb66:=NB151_145.out;have hnc66:=NB145_151.out;have hnb67:=NB151_146.out;have hnc67:=NB146_151.out;have hnb68:=NB151_147.out;have hnc68:=NB147_151.out;have hcz69_0 : w65.cell? ⟨gb151,0,none⟩ = some (.int .i64 0):=(bc BK151.out 0).trans rfl;have hcz69_1 : w65.cell? ⟨gb151,1,none⟩ = some (.int .i64 0):=(bc BK151.out 1).trans rfl;obtain ⟨hfz69_0,hfz69_1⟩:=fq2 BK151.out;obtain ⟨hcz70_0,hcz70_1⟩:=cq2 BK147.out;obtain ⟨hfz70_0,hfz70_1⟩:=fq2 BK147.out))
    refine bodyPost_ret (results_ct rfl _ _ gb147 25 #[.int .i64 0,.int .i64 0] (0,0) _ rfl (by (with_reducible repeat (first|refine bn ?_ _|refine bd ?_|refine ba ?_ _));refine bp (cs:=#[.int .i64 0,.int .i64 0]) ?_ 1 _ rfl;(with_reducible repeat (first|refine bn ?_ _|refine bd ?_|refine ba ?_ _));refine bp (cs:=#[.int .i64 0,.int .i64 0]) ?_ 0 _ rfl;(with_reducible repeat (first|refine bn ?_ _|refine bd ?_|refine ba ?_ _));refine bf ?_ NB147_151.out _;(with_reducible repeat (first|refine bn ?_ _|refine bd ?_|refine ba ?_ _));refine bf ?_ NB147_151.out _;(with_reducible repeat (first|refine bn ?_ _|refine bd ?_|refine ba ?_ _));exact BK147.out) Try.underlying25 rfl (by kernel_rfl)) rfl ?_
    exact ⟨by first|rfl|(simp [errW_none,errW_some] <;> rfl)|(simp [*,errW_none,errW_some] <;> rfl),by repeat (first|(with_reducible first|exact HB.out|apply sa|apply sn|apply sd|refine sy ?_ (by assumption))|exact HB.out)⟩

end Go.Proofs.Ytaognlikgbcejaa.P
