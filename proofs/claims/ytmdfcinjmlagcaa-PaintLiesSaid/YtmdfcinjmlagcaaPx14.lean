/- Printed by printx.py (wip/tool) out of the translation: plain functions that tell what the program answers,and the proofs that the program comes to these answers,for all arguments of their kinds. Lean checks it. -/
import Derived.Test.YtmdfcinjmlagcaaShort
import Derived.Test.YtmdfcinjmlagcaaPx0
import Derived.Test.YtmdfcinjmlagcaaPx8
import Derived.Test.YtmdfcinjmlagcaaPx13
namespace Go.Proofs.Ytmdfcinjmlagcaa.P
open Go.RowKit Go.Proofs.YtmdfcinjmlagcaaW.PrintWords Go.Proofs.YtmdfcinjmlagcaaW.PrintLast Go.Proofs.YtmdfcinjmlagcaaW.PrintMore
attribute [local go_sem] max2_int min2_int max_two min_two max_three min_three max_four min_four max_five min_five max_six min_six   -- for this text's walks alone
set_option linter.unusedVariables false
set_option linter.unusedSimpArgs false

/-! ### fix_MulDiv: function 72 -/
def fix_MulDiv.j0 : Nat → Int → Int → Bool → Option (Int × Bool)
  | 0,_,_,_ => none
  | k + 1,x12,x13,x47 => if x47 = true then ((fix_narrowed.f x12 false).bind fun t257 => (if t257 = true then (some (wrap64 (x12),true)) else (some (0,false)))) else (if x13 > 0 then (if (IntKind.u64.wrap (x12 + 1)) = 0 then (some (0,false)) else ((fix_narrowed.f (IntKind.u64.wrap (x12 + 1)) true).bind fun t258 => (if t258 = true then (some (wrap64 (IntKind.u64.wrap (-(IntKind.u64.wrap (x12 + 1)))),true)) else (some (0,false))))) else ((fix_narrowed.f x12 true).bind fun t259 => (if t259 = true then (some (wrap64 (IntKind.u64.wrap (-x12)),true)) else (some (0,false)))))
def fix_MulDiv.f (k : Nat) (a0 : Int) (a1 : Int) (a2 : Int) : Option (Int × Bool):=if a2 = 0 then (some (0,false)) else ((fix_times.f a0 a1).bind fun bt249 => ((fix_wide_abs.f bt249.1 bt249.2).bind fun bt251 => ((fix_size.f a2).bind fun t254 => (if bt251.1 ≥ t254 then (some (0,false)) else ((bits_Div64.f k bt251.1 bt251.2.1 t254).bind fun bt255 => (if (bt251.2.2 == (decide (a2 < 0))) = true then (fix_MulDiv.j0 k bt255.1 bt255.2 true) else (if bt255.1 = 0 then (fix_MulDiv.j0 k bt255.1 bt255.2 (bt255.2 == 0)) else (fix_MulDiv.j0 k bt255.1 bt255.2 false))))))))
theorem fix_MulDiv.mono_l : ∀ k,(∀ y0 y1 y2,LeO (fix_MulDiv.j0 k y0 y1 y2) (fix_MulDiv.j0 (k + 1) y0 y1 y2))
  | 0 => fun _ _ _ r h => by simp [fix_MulDiv.j0] at h
  | k + 1 => by
    have ih0:=fix_MulDiv.mono_l k
    · intro y0 y1 y2
      unfold fix_MulDiv.j0
      repeat' first
      | (with_reducible exact ih0 _ _ _)
      | (with_reducible exact bits_Div64.mono _ _ _ _)
      | (with_reducible exact LeO.refl _)
      | (with_reducible exact LeO.none _)
      | (with_reducible refine LeO.ite ?_ ?_)
      | (with_reducible refine LeO.bind ?_ (fun _ => ?_))
      | exact ih0 _ _ _
      | exact bits_Div64.mono _ _ _ _
      | exact LeO.none _
      | refine LeO.ite ?_ ?_
      | refine LeO.bind ?_ (fun _ => ?_)
theorem fix_MulDiv.mono : ∀ a0 a1 a2 k,LeO (fix_MulDiv.f k a0 a1 a2) (fix_MulDiv.f (k + 1) a0 a1 a2):=by
  intro a0 a1 a2 k
  have ih0:=fix_MulDiv.mono_l k
  unfold fix_MulDiv.f
  repeat' first
      | (with_reducible exact ih0 _ _ _)
      | (with_reducible exact bits_Div64.mono _ _ _ _)
      | (with_reducible exact LeO.refl _)
      | (with_reducible exact LeO.none _)
      | (with_reducible refine LeO.ite ?_ ?_)
      | (with_reducible refine LeO.bind ?_ (fun _ => ?_))
      | exact ih0 _ _ _
      | exact bits_Div64.mono _ _ _ _
      | exact LeO.none _
      | refine LeO.ite ?_ ?_
      | refine LeO.bind ?_ (fun _ => ?_)
set_option maxHeartbeats 8000000 in
set_option maxRecDepth 100000 in
theorem fix_MulDiv.calls (k : Nat) (a0 : Int) (a1 : Int) (a2 : Int) (r1 : Int) (r2 : Bool) (w : World) (h : fix_MulDiv.f k a0 a1 a2 = some (r1,r2)) :
    Calls Try.prog 72 #[.int .i64 a0,.int .i64 a1,.int .i64 a2] w fun e w' => e = .returned (.tuple #[.int .i64 r1,.bool r2]) ∧ Below w.heap.size w w':=by
  have HB:=am (Below.refl w.heap.size w);have H : (if a2 = 0 then (some (0,false)) else ((fix_times.f a0 a1).bind fun bt249 => ((fix_wide_abs.f bt249.1 bt249.2).bind fun bt251 => ((fix_size.f a2).bind fun t254 => (if bt251.1 ≥ t254 then (some (0,false)) else ((bits_Div64.f k bt251.1 bt251.2.1 t254).bind fun bt255 => (if (bt251.2.2 == (decide (a2 < 0))) = true then (fix_MulDiv.j0 k bt255.1 bt255.2 true) else (if bt255.1 = 0 then (fix_MulDiv.j0 k bt255.1 bt255.2 (bt255.2 == 0)) else (fix_MulDiv.j0 k bt255.1 bt255.2 false))))))))) = some (r1,r2):=h;clear h
  by_cases c4 : a2 = 0
  · rw [if_pos c4] at H
    have c4b0 : (a2 == 0) = true:=beq_iff_eq.mpr c4;have c4b1 : (a2 != 0) = false:=bne_eq_false_iff_eq.mpr c4;clear c4;simp only [Option.some.injEq,Prod.mk.injEq] at H;obtain ⟨rfl,rfl⟩:=H
    go_enter Try.func72,Try.ntmps72
    go_wp2
    go_ret2
    exact ⟨by first|rfl|(simp [errW_none,errW_some] <;> rfl)|(simp [*,errW_none,errW_some] <;> rfl),by repeat (first|(with_reducible first|exact HB.out|apply sa|apply sn|apply sd)|exact HB.out)⟩
  · rw [if_neg c4] at H
    have c4b0 : (a2 == 0) = false:=beq_eq_false_iff_ne.mpr c4;have c4b1 : (a2 != 0) = true:=bne_iff_ne.mpr c4;replace H:=Option.bind_eq_some_iff.mp H;obtain ⟨⟨t249,t250⟩,A50,H⟩:=H;replace H : ((fix_wide_abs.f t249 t250).bind fun bt251 => ((fix_size.f a2).bind fun t254 => (if bt251.1 ≥ t254 then (some (0,false)) else ((bits_Div64.f k bt251.1 bt251.2.1 t254).bind fun bt255 => (if (bt251.2.2 == (decide (a2 < 0))) = true then (fix_MulDiv.j0 k bt255.1 bt255.2 true) else (if bt255.1 = 0 then (fix_MulDiv.j0 k bt255.1 bt255.2 (bt255.2 == 0)) else (fix_MulDiv.j0 k bt255.1 bt255.2 false))))))) = some (r1,r2):=H;have A5:=am A50;clear A50;replace H:=Option.bind_eq_some_iff.mp H;obtain ⟨⟨t251,t252,t253⟩,A60,H⟩:=H;replace H : ((fix_size.f a2).bind fun t254 => (if t251 ≥ t254 then (some (0,false)) else ((bits_Div64.f k t251 t252 t254).bind fun bt255 => (if (t253 == (decide (a2 < 0))) = true then (fix_MulDiv.j0 k bt255.1 bt255.2 true) else (if bt255.1 = 0 then (fix_MulDiv.j0 k bt255.1 bt255.2 (bt255.2 == 0)) else (fix_MulDiv.j0 k bt255.1 bt255.2 false)))))) = some (r1,r2):=H;have A6:=am A60;clear A60;replace H:=Option.bind_eq_some_iff.mp H;obtain ⟨t254,A70,H⟩:=H;replace H : (if t251 ≥ t254 then (some (0,false)) else ((bits_Div64.f k t251 t252 t254).bind fun bt255 => (if (t253 == (decide (a2 < 0))) = true then (fix_MulDiv.j0 k bt255.1 bt255.2 true) else (if bt255.1 = 0 then (fix_MulDiv.j0 k bt255.1 bt255.2 (bt255.2 == 0)) else (fix_MulDiv.j0 k bt255.1 bt255.2 false))))) = some (r1,r2):=H;have A7:=am A70;clear A70
    by_cases c8 : t251 ≥ t254
    · rw [if_pos c8] at H
      have c8b0 : decide (t254 ≤ t251) = true:=decide_eq_true c8;clear c8;simp only [Option.some.injEq,Prod.mk.injEq] at H;obtain ⟨rfl,rfl⟩:=H
      go_enter Try.func72,Try.ntmps72
      go_wp2_with (first|((with_reducible refine gate_callee (f:=79) rfl ?_);refine goesL_ (some 19) rfl rfl Try.func79 (by kernel_rfl) rfl #[.int .i64 a0,.int .i64 a1] rfl (by (try simp only [List.map_toArray,List.map_cons,List.map_nil]);first|done|rfl|(simp only [List.length_drop,List.length_take];rfl)) ?_;(with_reducible refine (fix_times.calls a0 a1 t249 t250 _ A5.out).mono ?_);rintro e w9 ⟨rfl,hb⟩;refine ⟨_,rfl,?_⟩;replace HB:=am (ss (by repeat (first|(with_reducible first|exact HB.out|apply sa|apply sn|apply sd)|exact HB.out)) hb);(try clear hb);(try clear hb2);(try clear hk);(try clear hi))|((with_reducible refine gate_callee (f:=80) rfl ?_);refine goesL_ (some 20) rfl rfl Try.func80 (by kernel_rfl) rfl #[.agg #[.int .i64 t249,.int .u64 t250]] rfl (by (try simp only [List.map_toArray,List.map_cons,List.map_nil]);first|done|rfl|(simp only [List.length_drop,List.length_take];rfl)) ?_;(with_reducible refine (fix_wide_abs.calls t249 t250 t251 t252 t253 _ A6.out).mono ?_);rintro e w10 ⟨rfl,hb⟩;refine ⟨_,rfl,?_⟩;replace HB:=am (ss (by repeat (first|(with_reducible first|exact HB.out|apply sa|apply sn|apply sd)|exact HB.out)) hb);(try clear hb);(try clear hb2);(try clear hk);(try clear hi))|((with_reducible refine gate_callee (f:=81) rfl ?_);refine goesL_ (some 25) rfl rfl Try.func81 (by kernel_rfl) rfl #[.int .i64 a2] rfl (by (try simp only [List.map_toArray,List.map_cons,List.map_nil]);first|done|rfl|(simp only [List.length_drop,List.length_take];rfl)) ?_;(with_reducible refine (fix_size.calls a2 t254 _ A7.out).mono ?_);rintro e w' ⟨rfl,⟨nd,rfl⟩⟩;refine ⟨_,rfl,?_⟩))
      go_ret2
      exact ⟨by first|rfl|(simp [errW_none,errW_some] <;> rfl)|(simp [*,errW_none,errW_some] <;> rfl),by repeat (first|(with_reducible first|exact HB.out|apply sa|apply sn|apply sd)|exact HB.out)⟩
    · rw [if_neg c8] at H
      have c8b0 : decide (t254 ≤ t251) = false:=decide_eq_false c8;clear c8;replace H:=Option.bind_eq_some_iff.mp H;obtain ⟨⟨t255,t256⟩,A110,H⟩:=H;replace H : (if (t253 == (decide (a2 < 0))) = true then (fix_MulDiv.j0 k t255 t256 true) else (if t255 = 0 then (fix_MulDiv.j0 k t255 t256 (t256 == 0)) else (fix_MulDiv.j0 k t255 t256 false))) = some (r1,r2):=H;have A11:=am A110;clear A110;have HC12:=am H;clear H
      go_enter Try.func72,Try.ntmps72
      go_upto_region 8 with (first|((with_reducible refine gate_callee (f:=79) rfl ?_);refine goesL_ (some 19) rfl rfl Try.func79 (by kernel_rfl) rfl #[.int .i64 a0,.int .i64 a1] rfl (by (try simp only [List.map_toArray,List.map_cons,List.map_nil]);first|done|rfl|(simp only [List.length_drop,List.length_take];rfl)) ?_;(with_reducible refine (fix_times.calls a0 a1 t249 t250 _ A5.out).mono ?_);rintro e w13 ⟨rfl,hb⟩;refine ⟨_,rfl,?_⟩;have n0_:=am (ss (by repeat (first|(with_reducible first|exact HB.out|apply sa|apply sn|apply sd)|exact HB.out)) hb);clear HB;have HB:=n0_;clear n0_;(try clear hb);(try clear hb2);(try clear hk);(try clear hi))|((with_reducible refine gate_callee (f:=80) rfl ?_);refine goesL_ (some 20) rfl rfl Try.func80 (by kernel_rfl) rfl #[.agg #[.int .i64 t249,.int .u64 t250]] rfl (by (try simp only [List.map_toArray,List.map_cons,List.map_nil]);first|done|rfl|(simp only [List.length_drop,List.length_take];rfl)) ?_;(with_reducible refine (fix_wide_abs.calls t249 t250 t251 t252 t253 _ A6.out).mono ?_);rintro e w14 ⟨rfl,hb⟩;refine ⟨_,rfl,?_⟩;have n0_:=am (ss (by repeat (first|(with_reducible first|exact HB.out|apply sa|apply sn|apply sd)|exact HB.out)) hb);clear HB;have HB:=n0_;clear n0_;(try clear hb);(try clear hb2);(try clear hk);(try clear hi))|((with_reducible refine gate_callee (f:=81) rfl ?_);refine goesL_ (some 25) rfl rfl Try.func81 (by kernel_rfl) rfl #[.int .i64 a2] rfl (by (try simp only [List.map_toArray,List.map_cons,List.map_nil]);first|done|rfl|(simp only [List.length_drop,List.length_take];rfl)) ?_;(with_reducible refine (fix_size.calls a2 t254 _ A7.out).mono ?_);rintro e w' ⟨rfl,⟨nd,rfl⟩⟩;refine ⟨_,rfl,?_⟩)|((with_reducible refine gate_callee (f:=82) rfl ?_);refine goesL_ (some 33) rfl rfl Try.func82 (by kernel_rfl) rfl #[.int .u64 t251,.int .u64 t252,.int .u64 t254] rfl (by (try simp only [List.map_toArray,List.map_cons,List.map_nil]);first|done|rfl|(simp only [List.length_drop,List.length_take];rfl)) ?_;(with_reducible refine (bits_Div64.calls k t251 t252 t254 t255 t256 _ A11.out).mono ?_);rintro e w' ⟨rfl,⟨nd,rfl⟩⟩;refine ⟨_,rfl,?_⟩))
      (try simp only [Act.put,q1,q2,q3])
      go_cut [47] (fun v47 wc => ∃ (kq : Nat) (x47_11 : Bool),v47 = .bool x47_11 ∧ Aside0 (fix_MulDiv.j0 kq t255 t256 x47_11 = some (r1,r2)) ∧ Aside0 (kq ≤ k) ∧ Aside0 (Below w.heap.size w wc))
      case first =>
        have H:=HC12.out;clear HC12
        by_cases c15 : (t253 == (decide (a2 < 0))) = true
        · rw [if_pos c15] at H
          have c15b0 : (t253 == (decide (a2 < 0))) = true:=c15
          (try (have c15b1 : decide (t253 = (decide (a2 < 0))) = true:=by simpa using c15))
          (try (have c15b2 : (t253 == (decide (a2 < 0))) = true:=by simpa using c15))
          clear c15
          (first|rw [c15b0]|(simp only [i64_w,i32_w];rw [c15b0])|skip)
          have H':=am H;clear H
          go_wp2
          go_meet
          case rel => exact ⟨_,(true),(by first|rfl|(simp;done)|(simp [*];done)),H',⟨by first|omega|exact Nat.le_refl _⟩,⟨by repeat (first|(with_reducible first|exact HB.out|apply sa|apply sn|apply sd)|exact HB.out)⟩⟩
        · rw [if_neg c15] at H
          have c15b0 : (t253 == (decide (a2 < 0))) = false:=by simpa using c15
          (try (have c15b1 : decide (t253 = (decide (a2 < 0))) = false:=by simpa using c15))
          (try (have c15b2 : (t253 == (decide (a2 < 0))) = false:=by simpa using c15))
          (try (have c15b3 : ¬ (t253 = (decide (a2 < 0))):=by simpa using c15))
          clear c15
          (first|rw [c15b0]|(simp only [i64_w,i32_w];rw [c15b0])|skip)
          by_cases c16 : t255 = 0
          · rw [if_pos c16] at H
            have c16b0 : (t255 == 0) = true:=beq_iff_eq.mpr c16;have c16b1 : (t255 != 0) = false:=bne_eq_false_iff_eq.mpr c16;clear c16;have H':=am H;clear H
            go_wp2
            go_meet
            case rel => exact ⟨_,((t256 == 0)),(by first|rfl|(simp;done)|(simp [*];done)),H',⟨by first|omega|exact Nat.le_refl _⟩,⟨by repeat (first|(with_reducible first|exact HB.out|apply sa|apply sn|apply sd)|exact HB.out)⟩⟩
          · rw [if_neg c16] at H
            have c16b0 : (t255 == 0) = false:=beq_eq_false_iff_ne.mpr c16;have c16b1 : (t255 != 0) = true:=bne_iff_ne.mpr c16;have H':=am H;clear H
            go_wp2
            go_meet
            case rel => exact ⟨_,(false),(by first|rfl|(simp;done)|(simp [*];done)),H',⟨by first|omega|exact Nat.le_refl _⟩,⟨by repeat (first|(with_reducible first|exact HB.out|apply sa|apply sn|apply sd)|exact HB.out)⟩⟩
      case rest =>
        clear HC12
        try clear c1
        try clear p2
        try clear c4
        try clear c4b0
        try clear c4b1
        try clear c7
        try clear c8
        try clear c8b0
        try clear c15
        try clear c15b0
        try clear c15b1
        try clear c15b2
        try clear c16
        try clear c16b0
        try clear c16b1
        obtain ⟨kq,x47_11,rfl,HA,HJ11,HB⟩:=hcut
        cases kq with
        | zero => exact absurd HA.out (by simp [fix_MulDiv.j0])
        | succ kj11 =>
          have H:=HA.out;clear HA;simp only [fix_MulDiv.j0] at H
          by_cases c17 : x47_11 = true
          · subst c17
            have H1 : ((fix_narrowed.f t255 false).bind fun t257 => (if t257 = true then (some (wrap64 (t255),true)) else (some (0,false)))) = some (r1,r2):=by rw [if_pos rfl] at H;exact H
            clear H;have H:=H1;clear H1;replace H:=Option.bind_eq_some_iff.mp H;obtain ⟨t257,A180,H⟩:=H;replace H : (if t257 = true then (some (wrap64 (t255),true)) else (some (0,false))) = some (r1,r2):=H;have A18:=am A180;clear A180
            by_cases c19 : t257 = true
            · subst c19
              have H1 : (some (wrap64 (t255),true)) = some (r1,r2):=by rw [if_pos rfl] at H;exact H
              clear H;have H:=H1;clear H1;simp only [Option.some.injEq,Prod.mk.injEq] at H;obtain ⟨rfl,rfl⟩:=H
              go_wp2_with (first|((with_reducible refine gate_callee (f:=83) rfl ?_);refine goesL_ (some 49) rfl rfl Try.func83 (by kernel_rfl) rfl #[.int .u64 t255,.bool false] rfl (by (try simp only [List.map_toArray,List.map_cons,List.map_nil]);first|done|rfl|(simp only [List.length_drop,List.length_take];rfl)) ?_;(with_reducible refine (fix_narrowed.calls t255 false true _ A18.out).mono ?_);rintro e w' ⟨rfl,⟨nd,rfl⟩⟩;refine ⟨_,rfl,?_⟩))
              go_ret2
              exact ⟨by first|rfl|(simp [errW_none,errW_some] <;> rfl)|(simp [*,errW_none,errW_some] <;> rfl),by repeat (first|(with_reducible first|exact HB.out|apply sa|apply sn|apply sd)|exact HB.out)⟩
            · replace c19:=Bool.eq_false_iff.mpr c19
              subst c19
              have H1 : (some (0,false)) = some (r1,r2):=by rw [if_neg (show ¬ (false = true) by decide)] at H;exact H
              clear H;have H:=H1;clear H1;simp only [Option.some.injEq,Prod.mk.injEq] at H;obtain ⟨rfl,rfl⟩:=H
              go_wp2_with (first|((with_reducible refine gate_callee (f:=83) rfl ?_);refine goesL_ (some 49) rfl rfl Try.func83 (by kernel_rfl) rfl #[.int .u64 t255,.bool false] rfl (by (try simp only [List.map_toArray,List.map_cons,List.map_nil]);first|done|rfl|(simp only [List.length_drop,List.length_take];rfl)) ?_;(with_reducible refine (fix_narrowed.calls t255 false false _ A18.out).mono ?_);rintro e w' ⟨rfl,⟨nd,rfl⟩⟩;refine ⟨_,rfl,?_⟩))
              go_ret2
              exact ⟨by first|rfl|(simp [errW_none,errW_some] <;> rfl)|(simp [*,errW_none,errW_some] <;> rfl),by repeat (first|(with_reducible first|exact HB.out|apply sa|apply sn|apply sd)|exact HB.out)⟩
          · replace c17:=Bool.eq_false_iff.mpr c17
            subst c17
            have H1 : (if t256 > 0 then (if (IntKind.u64.wrap (t255 + 1)) = 0 then (some (0,false)) else ((fix_narrowed.f (IntKind.u64.wrap (t255 + 1)) true).bind fun t258 => (if t258 = true then (some (wrap64 (IntKind.u64.wrap (-(IntKind.u64.wrap (t255 + 1)))),true)) else (some (0,false))))) else ((fix_narrowed.f t255 true).bind fun t259 => (if t259 = true then (some (wrap64 (IntKind.u64.wrap (-t255)),true)) else (some (0,false))))) = some (r1,r2):=by rw [if_neg (show ¬ (false = true) by decide)] at H;exact H
            clear H;have H:=H1;clear H1
            by_cases c20 : t256 > 0
            · rw [if_pos c20] at H
              have c20b0 : decide (0 < t256) = true:=decide_eq_true c20;clear c20
              by_cases c21 : (IntKind.u64.wrap (t255 + 1)) = 0
              · rw [if_pos c21] at H
                have c21b0 : ((IntKind.u64.wrap (t255 + 1)) == 0) = true:=beq_iff_eq.mpr c21;have c21b1 : ((IntKind.u64.wrap (t255 + 1)) != 0) = false:=bne_eq_false_iff_eq.mpr c21;clear c21;simp only [Option.some.injEq,Prod.mk.injEq] at H;obtain ⟨rfl,rfl⟩:=H
                go_wp2
                go_ret2
                exact ⟨by first|rfl|(simp [errW_none,errW_some] <;> rfl)|(simp [*,errW_none,errW_some] <;> rfl),by repeat (first|(with_reducible first|exact HB.out|apply sa|apply sn|apply sd)|exact HB.out)⟩
              · rw [if_neg c21] at H
                have c21b0 : ((IntKind.u64.wrap (t255 + 1)) == 0) = false:=beq_eq_false_iff_ne.mpr c21;have c21b1 : ((IntKind.u64.wrap (t255 + 1)) != 0) = true:=bne_iff_ne.mpr c21;replace H:=Option.bind_eq_some_iff.mp H;obtain ⟨t258,A220,H⟩:=H;replace H : (if t258 = true then (some (wrap64 (IntKind.u64.wrap (-(IntKind.u64.wrap (t255 + 1)))),true)) else (some (0,false))) = some (r1,r2):=H;have A22:=am A220;clear A220
                by_cases c23 : t258 = true
                · subst c23
                  have H1 : (some (wrap64 (IntKind.u64.wrap (-(IntKind.u64.wrap (t255 + 1)))),true)) = some (r1,r2):=by rw [if_pos rfl] at H;exact H
                  clear H;have H:=H1;clear H1;simp only [Option.some.injEq,Prod.mk.injEq] at H;obtain ⟨rfl,rfl⟩:=H
                  go_wp2_with (first|((with_reducible refine gate_callee (f:=83) rfl ?_);refine goesL_ (some 60) rfl rfl Try.func83 (by kernel_rfl) rfl #[.int .u64 (IntKind.u64.wrap (t255 + 1)),.bool true] rfl (by (try simp only [List.map_toArray,List.map_cons,List.map_nil]);first|done|rfl|(simp only [List.length_drop,List.length_take];rfl)) ?_;(with_reducible refine (fix_narrowed.calls (IntKind.u64.wrap (t255 + 1)) true true _ A22.out).mono ?_);rintro e w' ⟨rfl,⟨nd,rfl⟩⟩;refine ⟨_,rfl,?_⟩))
                  go_ret2
                  exact ⟨by first|rfl|(simp [errW_none,errW_some] <;> rfl)|(simp [*,errW_none,errW_some] <;> rfl),by repeat (first|(with_reducible first|exact HB.out|apply sa|apply sn|apply sd)|exact HB.out)⟩
                · replace c23:=Bool.eq_false_iff.mpr c23
                  subst c23
                  have H1 : (some (0,false)) = some (r1,r2):=by rw [if_neg (show ¬ (false = true) by decide)] at H;exact H
                  clear H;have H:=H1;clear H1;simp only [Option.some.injEq,Prod.mk.injEq] at H;obtain ⟨rfl,rfl⟩:=H
                  go_wp2_with (first|((with_reducible refine gate_callee (f:=83) rfl ?_);refine goesL_ (some 60) rfl rfl Try.func83 (by kernel_rfl) rfl #[.int .u64 (IntKind.u64.wrap (t255 + 1)),.bool true] rfl (by (try simp only [List.map_toArray,List.map_cons,List.map_nil]);first|done|rfl|(simp only [List.length_drop,List.length_take];rfl)) ?_;(with_reducible refine (fix_narrowed.calls (IntKind.u64.wrap (t255 + 1)) true false _ A22.out).mono ?_);rintro e w' ⟨rfl,⟨nd,rfl⟩⟩;refine ⟨_,rfl,?_⟩))
                  go_ret2
                  exact ⟨by first|rfl|(simp [errW_none,errW_some] <;> rfl)|(simp [*,errW_none,errW_some] <;> rfl),by repeat (first|(with_reducible first|exact HB.out|apply sa|apply sn|apply sd)|exact HB.out)⟩
            · rw [if_neg c20] at H
              have c20b0 : decide (0 < t256) = false:=decide_eq_false c20;clear c20;replace H:=Option.bind_eq_some_iff.mp H;obtain ⟨t259,A240,H⟩:=H;replace H : (if t259 = true then (some (wrap64 (IntKind.u64.wrap (-t255)),true)) else (some (0,false))) = some (r1,r2):=H;have A24:=am A240;clear A240
              by_cases c25 : t259 = true
              · subst c25
                have H1 : (some (wrap64 (IntKind.u64.wrap (-t255)),true)) = some (r1,r2):=by rw [if_pos rfl] at H;exact H
                clear H;have H:=H1;clear H1;simp only [Option.some.injEq,Prod.mk.injEq] at H;obtain ⟨rfl,rfl⟩:=H
                go_wp2_with (first|((with_reducible refine gate_callee (f:=83) rfl ?_);refine goesL_ (some 60) rfl rfl Try.func83 (by kernel_rfl) rfl #[.int .u64 t255,.bool true] rfl (by (try simp only [List.map_toArray,List.map_cons,List.map_nil]);first|done|rfl|(simp only [List.length_drop,List.length_take];rfl)) ?_;(with_reducible refine (fix_narrowed.calls t255 true true _ A24.out).mono ?_);rintro e w' ⟨rfl,⟨nd,rfl⟩⟩;refine ⟨_,rfl,?_⟩))
                go_ret2
                exact ⟨by first|rfl|(simp [errW_none,errW_some] <;> rfl)|(simp [*,errW_none,errW_some] <;> rfl),by repeat (first|(with_reducible first|exact HB.out|apply sa|apply sn|apply sd)|exact HB.out)⟩
              · replace c25:=Bool.eq_false_iff.mpr c25
                subst c25
                have H1 : (some (0,false)) = some (r1,r2):=by rw [if_neg (show ¬ (false = true) by decide)] at H;exact H
                clear H;have H:=H1;clear H1;simp only [Option.some.injEq,Prod.mk.injEq] at H;obtain ⟨rfl,rfl⟩:=H
                go_wp2_with (first|((with_reducible refine gate_callee (f:=83) rfl ?_);refine goesL_ (some 60) rfl rfl Try.func83 (by kernel_rfl) rfl #[.int .u64 t255,.bool true] rfl (by (try simp only [List.map_toArray,List.map_cons,List.map_nil]);first|done|rfl|(simp only [List.length_drop,List.length_take];rfl)) ?_;(with_reducible refine (fix_narrowed.calls t255 true false _ A24.out).mono ?_);rintro e w' ⟨rfl,⟨nd,rfl⟩⟩;refine ⟨_,rfl,?_⟩))
                go_ret2
                exact ⟨by first|rfl|(simp [errW_none,errW_some] <;> rfl)|(simp [*,errW_none,errW_some] <;> rfl),by repeat (first|(with_reducible first|exact HB.out|apply sa|apply sn|apply sd)|exact HB.out)⟩

/-! ### fix_Floor: function 53 -/
def fix_Floor.f (k : Nat) (a0 : Int) (a1 : Int) : Option (Int × Bool):=(fix_MulDiv.f k a0 1 a1).bind fun bt260 => (some (bt260.1,bt260.2))
theorem fix_Floor.mono : ∀ a0 a1 k,LeO (fix_Floor.f k a0 a1) (fix_Floor.f (k + 1) a0 a1):=by
  intro a0 a1 k
  unfold fix_Floor.f
  repeat' first
      | (with_reducible exact fix_MulDiv.mono _ _ _ _)
      | (with_reducible exact LeO.refl _)
      | (with_reducible exact LeO.none _)
      | (with_reducible refine LeO.ite ?_ ?_)
      | (with_reducible refine LeO.bind ?_ (fun _ => ?_))
      | exact fix_MulDiv.mono _ _ _ _
      | exact LeO.none _
      | refine LeO.ite ?_ ?_
      | refine LeO.bind ?_ (fun _ => ?_)
set_option maxHeartbeats 8000000 in
set_option maxRecDepth 100000 in
theorem fix_Floor.calls (k : Nat) (a0 : Int) (a1 : Int) (r1 : Int) (r2 : Bool) (w : World) (h : fix_Floor.f k a0 a1 = some (r1,r2)) :
    Calls Try.prog 53 #[.int .i64 a0,.int .i64 a1] w fun e w' => e = .returned (.tuple #[.int .i64 r1,.bool r2]) ∧ Below w.heap.size w w':=by
  have HB:=am (Below.refl w.heap.size w);have H : ((fix_MulDiv.f k a0 1 a1).bind fun bt260 => (some (bt260.1,bt260.2))) = some (r1,r2):=h;clear h;replace H:=Option.bind_eq_some_iff.mp H;obtain ⟨⟨t260,t261⟩,A30,H⟩:=H;replace H : (some (t260,t261)) = some (r1,r2):=H;have A3:=am A30;clear A30;simp only [Option.some.injEq,Prod.mk.injEq] at H;obtain ⟨rfl,rfl⟩:=H
  go_enter Try.func53,Try.ntmps53
  go_wp2_with (first|((with_reducible refine gate_callee (f:=72) rfl ?_);refine goesL_ (some 8) rfl rfl Try.func72 (by kernel_rfl) rfl #[.int .i64 a0,.int .i64 1,.int .i64 a1] rfl (by (try simp only [List.map_toArray,List.map_cons,List.map_nil]);first|done|rfl|(simp only [List.length_drop,List.length_take];rfl)) ?_;(with_reducible refine (fix_MulDiv.calls k a0 1 a1 t260 t261 _ A3.out).mono ?_);rintro e w4 ⟨rfl,hb⟩;refine ⟨_,rfl,?_⟩;replace HB:=am (ss (by repeat (first|(with_reducible first|exact HB.out|apply sa|apply sn|apply sd)|exact HB.out)) hb);(try clear hb);(try clear hb2);(try clear hk);(try clear hi)))
  go_ret2
  exact ⟨by first|rfl|(simp [errW_none,errW_some] <;> rfl)|(simp [*,errW_none,errW_some] <;> rfl),by repeat (first|(with_reducible first|exact HB.out|apply sa|apply sn|apply sd)|exact HB.out)⟩

/-! ### affine_Back: function 31 -/
def affine_Back.j0 : Nat → Int → Bool → Int → Int → Int → Int → Int → Int → Int → Int → Option (Int × Int × Bool)
  | 0,_,_,_,_,_,_,_,_,_,_ => none
  | k + 1,x6,x35,x263000,x263001,x263002,x263003,x263004,x263005,x264000,x264001 => if x35 = true then (some (0,0,false)) else ((fix_Floor.f k (wrap64 ((wrap64 (x263003 * (wrap64 ((wrap64 (x264000 * 20480)) - (wrap64 (x263004 * 65536)))))) - (wrap64 (x263002 * (wrap64 ((wrap64 (x264001 * 20480)) - (wrap64 (x263005 * 65536)))))))) x6).bind fun bt267 => ((fix_Floor.f k (wrap64 ((wrap64 (x263000 * (wrap64 ((wrap64 (x264001 * 20480)) - (wrap64 (x263005 * 65536)))))) - (wrap64 (x263001 * (wrap64 ((wrap64 (x264000 * 20480)) - (wrap64 (x263004 * 65536)))))))) x6).bind fun bt269 => (some (bt267.1,bt269.1,true))))
def affine_Back.f (k : Nat) (a0_0 : Int) (a0_1 : Int) (a0_2 : Int) (a0_3 : Int) (a0_4 : Int) (a0_5 : Int) (a1_0 : Int) (a1_1 : Int) : Option (Int × Int × Bool):=(field_RightMatrix.f k a0_0 a0_1 a0_2 a0_3 a0_4 a0_5).bind fun t265 => (if t265 = true then ((affine_within.f a1_0 a1_1 16777216).bind fun t266 => (if t266 = true then (affine_Back.j0 k (wrap64 ((wrap64 (a0_0 * a0_3)) - (wrap64 (a0_1 * a0_2)))) ((wrap64 ((wrap64 (a0_0 * a0_3)) - (wrap64 (a0_1 * a0_2)))) == 0) a0_0 a0_1 a0_2 a0_3 a0_4 a0_5 a1_0 a1_1) else (affine_Back.j0 k (wrap64 ((wrap64 (a0_0 * a0_3)) - (wrap64 (a0_1 * a0_2)))) true a0_0 a0_1 a0_2 a0_3 a0_4 a0_5 a1_0 a1_1))) else (affine_Back.j0 k (wrap64 ((wrap64 (a0_0 * a0_3)) - (wrap64 (a0_1 * a0_2)))) true a0_0 a0_1 a0_2 a0_3 a0_4 a0_5 a1_0 a1_1))
theorem affine_Back.mono_l : ∀ k,(∀ y0 y1 y2 y3 y4 y5 y6 y7 y8 y9,LeO (affine_Back.j0 k y0 y1 y2 y3 y4 y5 y6 y7 y8 y9) (affine_Back.j0 (k + 1) y0 y1 y2 y3 y4 y5 y6 y7 y8 y9))
  | 0 => fun _ _ _ _ _ _ _ _ _ _ r h => by simp [affine_Back.j0] at h
  | k + 1 => by
    have ih0:=affine_Back.mono_l k
    · intro y0 y1 y2 y3 y4 y5 y6 y7 y8 y9
      unfold affine_Back.j0
      repeat' first
      | (with_reducible exact ih0 _ _ _ _ _ _ _ _ _ _)
      | (with_reducible exact field_RightMatrix.mono _ _ _ _ _ _ _)
      | (with_reducible exact fix_Floor.mono _ _ _)
      | (with_reducible exact LeO.refl _)
      | (with_reducible exact LeO.none _)
      | (with_reducible refine LeO.ite ?_ ?_)
      | (with_reducible refine LeO.bind ?_ (fun _ => ?_))
      | exact ih0 _ _ _ _ _ _ _ _ _ _
      | exact field_RightMatrix.mono _ _ _ _ _ _ _
      | exact fix_Floor.mono _ _ _
      | exact LeO.none _
      | refine LeO.ite ?_ ?_
      | refine LeO.bind ?_ (fun _ => ?_)
theorem affine_Back.mono : ∀ a0 a1 a2 a3 a4 a5 a6 a7 k,LeO (affine_Back.f k a0 a1 a2 a3 a4 a5 a6 a7) (affine_Back.f (k + 1) a0 a1 a2 a3 a4 a5 a6 a7):=by
  intro a0 a1 a2 a3 a4 a5 a6 a7 k
  have ih0:=affine_Back.mono_l k
  unfold affine_Back.f
  repeat' first
      | (with_reducible exact ih0 _ _ _ _ _ _ _ _ _ _)
      | (with_reducible exact field_RightMatrix.mono _ _ _ _ _ _ _)
      | (with_reducible exact fix_Floor.mono _ _ _)
      | (with_reducible exact LeO.refl _)
      | (with_reducible exact LeO.none _)
      | (with_reducible refine LeO.ite ?_ ?_)
      | (with_reducible refine LeO.bind ?_ (fun _ => ?_))
      | exact ih0 _ _ _ _ _ _ _ _ _ _
      | exact field_RightMatrix.mono _ _ _ _ _ _ _
      | exact fix_Floor.mono _ _ _
      | exact LeO.none _
      | refine LeO.ite ?_ ?_
      | refine LeO.bind ?_ (fun _ => ?_)
set_option maxHeartbeats 8000000 in
set_option maxRecDepth 100000 in
theorem affine_Back.calls (k : Nat) (a0_0 : Int) (a0_1 : Int) (a0_2 : Int) (a0_3 : Int) (a0_4 : Int) (a0_5 : Int) (a1_0 : Int) (a1_1 : Int) (r1 : Int) (r2 : Int) (r3 : Bool) (w : World) (h : affine_Back.f k a0_0 a0_1 a0_2 a0_3 a0_4 a0_5 a1_0 a1_1 = some (r1,r2,r3)) :
    Calls Try.prog 31 #[.agg #[.int .i64 a0_0,.int .i64 a0_1,.int .i64 a0_2,.int .i64 a0_3,.int .i64 a0_4,.int .i64 a0_5],.agg #[.int .i64 a1_0,.int .i64 a1_1]] w fun e w' => e = .returned (.tuple #[.agg #[.int .i64 r1,.int .i64 r2],.bool r3]) ∧ Below w.heap.size w w':=by
  have hu28:=Try.underlying28;have hu37:=Try.underlying37;have HB:=am (Below.refl w.heap.size w);have H : ((field_RightMatrix.f k a0_0 a0_1 a0_2 a0_3 a0_4 a0_5).bind fun t265 => (if t265 = true then ((affine_within.f a1_0 a1_1 16777216).bind fun t266 => (if t266 = true then (affine_Back.j0 k (wrap64 ((wrap64 (a0_0 * a0_3)) - (wrap64 (a0_1 * a0_2)))) ((wrap64 ((wrap64 (a0_0 * a0_3)) - (wrap64 (a0_1 * a0_2)))) == 0) a0_0 a0_1 a0_2 a0_3 a0_4 a0_5 a1_0 a1_1) else (affine_Back.j0 k (wrap64 ((wrap64 (a0_0 * a0_3)) - (wrap64 (a0_1 * a0_2)))) true a0_0 a0_1 a0_2 a0_3 a0_4 a0_5 a1_0 a1_1))) else (affine_Back.j0 k (wrap64 ((wrap64 (a0_0 * a0_3)) - (wrap64 (a0_1 * a0_2)))) true a0_0 a0_1 a0_2 a0_3 a0_4 a0_5 a1_0 a1_1))) = some (r1,r2,r3):=h;clear h;have HC3:=am H;clear H
  go_enter Try.func31,Try.ntmps31
  go_upto_region 2 with (first|((with_reducible refine gate_dst (N:=2) rfl ?_);refine box_event ?hg (N:=2) ?hd (cs:=#[.int .i64 a0_0,.int .i64 a0_1,.int .i64 a0_2,.int .i64 a0_3,.int .i64 a0_4,.int .i64 a0_5]) (t:=28) ?hr ?_;(case hd => rfl);(case hg => rfl);(case hr => first|(go_simp;done)|(go_simp;rfl));intro gb262 hg w4 hbox hb;have n0_:=am (ss (by repeat (first|(with_reducible first|exact HB.out|apply sa|apply sn|apply sd)|exact HB.out)) hb);have n1_:=am (hbox);have n2_:=am ((by rw [hg];exact (sz (by repeat (first|(with_reducible first|exact HB.out|apply sa|apply sn|apply sd)|exact HB.out))) : w.heap.size ≤ gb262));have n3_:=am ((by rw [hg];exact (sz (by repeat (first|(with_reducible first|exact HB.out|apply sa|apply sn|apply sd)|exact HB.out))) : w.heap.size ≤ gb262));clear HB;have HB:=n0_;have BK262:=n1_;have GW262:=n2_;have GE262:=n3_;clear n0_ n1_ n2_ n3_;clear hb hbox hg)|((with_reducible refine gate_dst (N:=3) rfl ?_);refine box_event ?hg (N:=3) ?hd (cs:=#[.int .i64 a1_0,.int .i64 a1_1]) (t:=37) ?hr ?_;(case hd => rfl);(case hg => rfl);(case hr => first|(go_simp;done)|(go_simp;rfl));intro gb263 hg w5 hbox hb;have n0_:=am (bw (by exact BK262.out) hb);have n1_:=am (ss (by repeat (first|(with_reducible first|exact HB.out|apply sa|apply sn|apply sd|refine sx ?_ GE262.out)|exact HB.out)) hb);have n2_:=am (hbox);have n3_:=am ((by rw [hg];exact (sz (by repeat (first|(with_reducible first|exact HB.out|apply sa|apply sn|apply sd|refine sx ?_ GE262.out)|exact HB.out))) : w.heap.size ≤ gb263));have n4_:=n3_;have n5_:=nb (by exact BK262.out) hg;have n6_:=ng (by exact BK262.out) hg;clear BK262;clear HB;have BK262:=n0_;have HB:=n1_;have BK263:=n2_;have GW263:=n3_;have GE263:=n4_;have NB262_263:=n5_;have NB263_262:=n6_;clear n0_ n1_ n2_ n3_ n4_ n5_ n6_;clear hb hbox hg)|((with_reducible refine gate_dst (N:=4) rfl ?_);refine box_event ?hg (N:=4) ?hd (cs:=#[.int .i64 0,.int .i64 0]) (t:=37) ?hr ?_;(case hd => rfl);(case hg => rfl);(case hr => first|(go_simp;done)|(go_simp;rfl));intro gb264 hg w6 hbox hb;have n0_:=am (bw (by exact BK262.out) hb);have n1_:=am (bw (by exact BK263.out) hb);have n2_:=am (ss (by repeat (first|(with_reducible first|exact HB.out|apply sa|apply sn|apply sd|refine sy ?_ (by assumption))|exact HB.out)) hb);have n3_:=am (hbox);have n4_:=am ((by rw [hg];exact (sz (by repeat (first|(with_reducible first|exact HB.out|apply sa|apply sn|apply sd|refine sy ?_ (by assumption))|exact HB.out))) : w.heap.size ≤ gb264));have n5_:=n4_;have n6_:=nb (by exact BK262.out) hg;have n7_:=am (Ne.symm n6_.out);have n8_:=nb (by exact BK263.out) hg;have n9_:=ng (by exact BK263.out) hg;clear BK262;clear BK263;clear HB;have BK262:=n0_;have BK263:=n1_;have HB:=n2_;have BK264:=n3_;have GW264:=n4_;have GE264:=n5_;have NB262_264:=n6_;have NB264_262:=n7_;have NB263_264:=n8_;have NB264_263:=n9_;clear n0_ n1_ n2_ n3_ n4_ n5_ n6_ n7_ n8_ n9_;clear hb hbox hg;have hnb7:=NB262_263.out;have hnc7:=NB263_262.out;have hnb8:=NB262_264.out;have hnc8:=NB264_262.out;obtain ⟨hcz9_0,hcz9_1,hcz9_2,hcz9_3,hcz9_4,hcz9_5⟩:=cq6 BK262.out;obtain ⟨hfz9_0,hfz9_1,hfz9_2,hfz9_3,hfz9_4,hfz9_5⟩:=fq6 BK262.out))
  repeat (go_quiet (first|((with_reducible refine gate_dst (N:=2) rfl ?_);refine box_event ?hg (N:=2) ?hd (cs:=#[.int .i64 a0_0,.int .i64 a0_1,.int .i64 a0_2,.int .i64 a0_3,.int .i64 a0_4,.int .i64 a0_5]) (t:=28) ?hr ?_;(case hd => rfl);(case hg => rfl);(case hr => first|(go_simp;done)|(go_simp;rfl));intro gb262 hg w4 hbox hb;have n0_:=am (ss (by repeat (first|(with_reducible first|exact HB.out|apply sa|apply sn|apply sd)|exact HB.out)) hb);have n1_:=am (hbox);have n2_:=am ((by rw [hg];exact (sz (by repeat (first|(with_reducible first|exact HB.out|apply sa|apply sn|apply sd)|exact HB.out))) : w.heap.size ≤ gb262));have n3_:=am ((by rw [hg];exact (sz (by repeat (first|(with_reducible first|exact HB.out|apply sa|apply sn|apply sd)|exact HB.out))) : w.heap.size ≤ gb262));clear HB;have HB:=n0_;have BK262:=n1_;have GW262:=n2_;have GE262:=n3_;clear n0_ n1_ n2_ n3_;clear hb hbox hg)|((with_reducible refine gate_dst (N:=3) rfl ?_);refine box_event ?hg (N:=3) ?hd (cs:=#[.int .i64 a1_0,.int .i64 a1_1]) (t:=37) ?hr ?_;(case hd => rfl);(case hg => rfl);(case hr => first|(go_simp;done)|(go_simp;rfl));intro gb263 hg w5 hbox hb;have n0_:=am (bw (by exact BK262.out) hb);have n1_:=am (ss (by repeat (first|(with_reducible first|exact HB.out|apply sa|apply sn|apply sd|refine sx ?_ GE262.out)|exact HB.out)) hb);have n2_:=am (hbox);have n3_:=am ((by rw [hg];exact (sz (by repeat (first|(with_reducible first|exact HB.out|apply sa|apply sn|apply sd|refine sx ?_ GE262.out)|exact HB.out))) : w.heap.size ≤ gb263));have n4_:=n3_;have n5_:=nb (by exact BK262.out) hg;have n6_:=ng (by exact BK262.out) hg;clear BK262;clear HB;have BK262:=n0_;have HB:=n1_;have BK263:=n2_;have GW263:=n3_;have GE263:=n4_;have NB262_263:=n5_;have NB263_262:=n6_;clear n0_ n1_ n2_ n3_ n4_ n5_ n6_;clear hb hbox hg)|((with_reducible refine gate_dst (N:=4) rfl ?_);refine box_event ?hg (N:=4) ?hd (cs:=#[.int .i64 0,.int .i64 0]) (t:=37) ?hr ?_;(case hd => rfl);(case hg => rfl);(case hr => first|(go_simp;done)|(go_simp;rfl));intro gb264 hg w6 hbox hb;have n0_:=am (bw (by exact BK262.out) hb);have n1_:=am (bw (by exact BK263.out) hb);have n2_:=am (ss (by repeat (first|(with_reducible first|exact HB.out|apply sa|apply sn|apply sd|refine sy ?_ (by assumption))|exact HB.out)) hb);have n3_:=am (hbox);have n4_:=am ((by rw [hg];exact (sz (by repeat (first|(with_reducible first|exact HB.out|apply sa|apply sn|apply sd|refine sy ?_ (by assumption))|exact HB.out))) : w.heap.size ≤ gb264));have n5_:=n4_;have n6_:=nb (by exact BK262.out) hg;have n7_:=am (Ne.symm n6_.out);have n8_:=nb (by exact BK263.out) hg;have n9_:=ng (by exact BK263.out) hg;clear BK262;clear BK263;clear HB;have BK262:=n0_;have BK263:=n1_;have HB:=n2_;have BK264:=n3_;have GW264:=n4_;have GE264:=n5_;have NB262_264:=n6_;have NB264_262:=n7_;have NB263_264:=n8_;have NB264_263:=n9_;clear n0_ n1_ n2_ n3_ n4_ n5_ n6_ n7_ n8_ n9_;clear hb hbox hg;have hnb7:=NB262_263.out;have hnc7:=NB263_262.out;have hnb8:=NB262_264.out;have hnc8:=NB264_262.out;obtain ⟨hcz9_0,hcz9_1,hcz9_2,hcz9_3,hcz9_4,hcz9_5⟩:=cq6 BK262.out;obtain ⟨hfz9_0,hfz9_1,hfz9_2,hfz9_3,hfz9_4,hfz9_5⟩:=fq6 BK262.out));go_upto_region 2 with (first|((with_reducible refine gate_dst (N:=2) rfl ?_);refine box_event ?hg (N:=2) ?hd (cs:=#[.int .i64 a0_0,.int .i64 a0_1,.int .i64 a0_2,.int .i64 a0_3,.int .i64 a0_4,.int .i64 a0_5]) (t:=28) ?hr ?_;(case hd => rfl);(case hg => rfl);(case hr => first|(go_simp;done)|(go_simp;rfl));intro gb262 hg w4 hbox hb;have n0_:=am (ss (by repeat (first|(with_reducible first|exact HB.out|apply sa|apply sn|apply sd)|exact HB.out)) hb);have n1_:=am (hbox);have n2_:=am ((by rw [hg];exact (sz (by repeat (first|(with_reducible first|exact HB.out|apply sa|apply sn|apply sd)|exact HB.out))) : w.heap.size ≤ gb262));have n3_:=am ((by rw [hg];exact (sz (by repeat (first|(with_reducible first|exact HB.out|apply sa|apply sn|apply sd)|exact HB.out))) : w.heap.size ≤ gb262));clear HB;have HB:=n0_;have BK262:=n1_;have GW262:=n2_;have GE262:=n3_;clear n0_ n1_ n2_ n3_;clear hb hbox hg)|((with_reducible refine gate_dst (N:=3) rfl ?_);refine box_event ?hg (N:=3) ?hd (cs:=#[.int .i64 a1_0,.int .i64 a1_1]) (t:=37) ?hr ?_;(case hd => rfl);(case hg => rfl);(case hr => first|(go_simp;done)|(go_simp;rfl));intro gb263 hg w5 hbox hb;have n0_:=am (bw (by exact BK262.out) hb);have n1_:=am (ss (by repeat (first|(with_reducible first|exact HB.out|apply sa|apply sn|apply sd|refine sx ?_ GE262.out)|exact HB.out)) hb);have n2_:=am (hbox);have n3_:=am ((by rw [hg];exact (sz (by repeat (first|(with_reducible first|exact HB.out|apply sa|apply sn|apply sd|refine sx ?_ GE262.out)|exact HB.out))) : w.heap.size ≤ gb263));have n4_:=n3_;have n5_:=nb (by exact BK262.out) hg;have n6_:=ng (by exact BK262.out) hg;clear BK262;clear HB;have BK262:=n0_;have HB:=n1_;have BK263:=n2_;have GW263:=n3_;have GE263:=n4_;have NB262_263:=n5_;have NB263_262:=n6_;clear n0_ n1_ n2_ n3_ n4_ n5_ n6_;clear hb hbox hg)|((with_reducible refine gate_dst (N:=4) rfl ?_);refine box_event ?hg (N:=4) ?hd (cs:=#[.int .i64 0,.int .i64 0]) (t:=37) ?hr ?_;(case hd => rfl);(case hg => rfl);(case hr => first|(go_simp;done)|(go_simp;rfl));intro gb264 hg w6 hbox hb;have n0_:=am (bw (by exact BK262.out) hb);have n1_:=am (bw (by exact BK263.out) hb);have n2_:=am (ss (by repeat (first|(with_reducible first|exact HB.out|apply sa|apply sn|apply sd|refine sy ?_ (by assumption))|exact HB.out)) hb);have n3_:=am (hbox);have n4_:=am ((by rw [hg];exact (sz (by repeat (first|(with_reducible first|exact HB.out|apply sa|apply sn|apply sd|refine sy ?_ (by assumption))|exact HB.out))) : w.heap.size ≤ gb264));have n5_:=n4_;have n6_:=nb (by exact BK262.out) hg;have n7_:=am (Ne.symm n6_.out);have n8_:=nb (by exact BK263.out) hg;have n9_:=ng (by exact BK263.out) hg;clear BK262;clear BK263;clear HB;have BK262:=n0_;have BK263:=n1_;have HB:=n2_;have BK264:=n3_;have GW264:=n4_;have GE264:=n5_;have NB262_264:=n6_;have NB264_262:=n7_;have NB263_264:=n8_;have NB264_263:=n9_;clear n0_ n1_ n2_ n3_ n4_ n5_ n6_ n7_ n8_ n9_;clear hb hbox hg;have hnb7:=NB262_263.out;have hnc7:=NB263_262.out;have hnb8:=NB262_264.out;have hnc8:=NB264_262.out;obtain ⟨hcz9_0,hcz9_1,hcz9_2,hcz9_3,hcz9_4,hcz9_5⟩:=cq6 BK262.out;obtain ⟨hfz9_0,hfz9_1,hfz9_2,hfz9_3,hfz9_4,hfz9_5⟩:=fq6 BK262.out)))
  (try simp only [Act.put,q1,q2,q3])
  go_cut [35] (fun v35 wc => ∃ (kq : Nat) (x35_2 : Bool),v35 = .bool x35_2 ∧ Aside0 (affine_Back.j0 kq (wrap64 ((wrap64 (a0_0 * a0_3)) - (wrap64 (a0_1 * a0_2)))) x35_2 a0_0 a0_1 a0_2 a0_3 a0_4 a0_5 a1_0 a1_1 = some (r1,r2,r3)) ∧ Aside0 (kq ≤ k) ∧ Aside0 (wc.heap[gb262]? = some (.cells #[.int .i64 a0_0,.int .i64 a0_1,.int .i64 a0_2,.int .i64 a0_3,.int .i64 a0_4,.int .i64 a0_5] 28 (0,0))) ∧ Aside0 (wc.heap[gb263]? = some (.cells #[.int .i64 a1_0,.int .i64 a1_1] 37 (0,0))) ∧ Aside0 (wc.heap[gb264]? = some (.cells #[.int .i64 0,.int .i64 0] 37 (0,0))) ∧ Aside0 (Below w.heap.size w wc))
  case first =>
    have H:=HC3.out;clear HC3;replace H:=Option.bind_eq_some_iff.mp H;obtain ⟨t265,A100,H⟩:=H;replace H : (if t265 = true then ((affine_within.f a1_0 a1_1 16777216).bind fun t266 => (if t266 = true then (affine_Back.j0 k (wrap64 ((wrap64 (a0_0 * a0_3)) - (wrap64 (a0_1 * a0_2)))) ((wrap64 ((wrap64 (a0_0 * a0_3)) - (wrap64 (a0_1 * a0_2)))) == 0) a0_0 a0_1 a0_2 a0_3 a0_4 a0_5 a1_0 a1_1) else (affine_Back.j0 k (wrap64 ((wrap64 (a0_0 * a0_3)) - (wrap64 (a0_1 * a0_2)))) true a0_0 a0_1 a0_2 a0_3 a0_4 a0_5 a1_0 a1_1))) else (affine_Back.j0 k (wrap64 ((wrap64 (a0_0 * a0_3)) - (wrap64 (a0_1 * a0_2)))) true a0_0 a0_1 a0_2 a0_3 a0_4 a0_5 a1_0 a1_1)) = some (r1,r2,r3):=H;have A10:=am A100;clear A100
    by_cases c11 : t265 = true
    · subst c11
      have H1 : ((affine_within.f a1_0 a1_1 16777216).bind fun t266 => (if t266 = true then (affine_Back.j0 k (wrap64 ((wrap64 (a0_0 * a0_3)) - (wrap64 (a0_1 * a0_2)))) ((wrap64 ((wrap64 (a0_0 * a0_3)) - (wrap64 (a0_1 * a0_2)))) == 0) a0_0 a0_1 a0_2 a0_3 a0_4 a0_5 a1_0 a1_1) else (affine_Back.j0 k (wrap64 ((wrap64 (a0_0 * a0_3)) - (wrap64 (a0_1 * a0_2)))) true a0_0 a0_1 a0_2 a0_3 a0_4 a0_5 a1_0 a1_1))) = some (r1,r2,r3):=by rw [if_pos rfl] at H;exact H
      clear H;have H:=H1;clear H1;replace H:=Option.bind_eq_some_iff.mp H;obtain ⟨t266,A120,H⟩:=H;replace H : (if t266 = true then (affine_Back.j0 k (wrap64 ((wrap64 (a0_0 * a0_3)) - (wrap64 (a0_1 * a0_2)))) ((wrap64 ((wrap64 (a0_0 * a0_3)) - (wrap64 (a0_1 * a0_2)))) == 0) a0_0 a0_1 a0_2 a0_3 a0_4 a0_5 a1_0 a1_1) else (affine_Back.j0 k (wrap64 ((wrap64 (a0_0 * a0_3)) - (wrap64 (a0_1 * a0_2)))) true a0_0 a0_1 a0_2 a0_3 a0_4 a0_5 a1_0 a1_1)) = some (r1,r2,r3):=H;have A12:=am A120;clear A120
      by_cases c13 : t266 = true
      · subst c13
        have H1 : (affine_Back.j0 k (wrap64 ((wrap64 (a0_0 * a0_3)) - (wrap64 (a0_1 * a0_2)))) ((wrap64 ((wrap64 (a0_0 * a0_3)) - (wrap64 (a0_1 * a0_2)))) == 0) a0_0 a0_1 a0_2 a0_3 a0_4 a0_5 a1_0 a1_1) = some (r1,r2,r3):=by rw [if_pos rfl] at H;exact H
        clear H;have H:=H1;clear H1;have H':=am H;clear H;have hnb14:=NB262_263.out;have hnc14:=NB263_262.out;have hnb15:=NB262_264.out;have hnc15:=NB264_262.out;have hcz16_0 : w6.cell? ⟨gb262,0,none⟩ = some (.int .i64 a0_0):=(bc BK262.out 0).trans rfl;have hcz16_1 : w6.cell? ⟨gb262,1,none⟩ = some (.int .i64 a0_1):=(bc BK262.out 1).trans rfl;have hcz16_2 : w6.cell? ⟨gb262,2,none⟩ = some (.int .i64 a0_2):=(bc BK262.out 2).trans rfl;have hcz16_3 : w6.cell? ⟨gb262,3,none⟩ = some (.int .i64 a0_3):=(bc BK262.out 3).trans rfl;have hcz16_4 : w6.cell? ⟨gb262,4,none⟩ = some (.int .i64 a0_4):=(bc BK262.out 4).trans rfl;have hcz16_5 : w6.cell? ⟨gb262,5,none⟩ = some (.int .i64 a0_5):=(bc BK262.out 5).trans rfl;have hfz16_0:=bz BK262.out 0;have hfz16_1:=bz BK262.out 1;have hfz16_2:=bz BK262.out 2;have hfz16_3:=bz BK262.out 3;have hfz16_4:=bz BK262.out 4;have hfz16_5:=bz BK262.out 5
        go_wp2_with (first|(go_at_call 47;(with_reducible refine (field_RightMatrix.calls k a0_0 a0_1 a0_2 a0_3 a0_4 a0_5 true _ A10.out).mono ?_);rintro e w17 ⟨rfl,hb⟩;replace BK262:=am (bw (by exact BK262.out) hb);replace BK263:=am (bw (by exact BK263.out) hb);replace BK264:=am (bw (by exact BK264.out) hb);replace HB:=am (ss (by repeat (first|(with_reducible first|exact HB.out|apply sa|apply sn|apply sd|refine sy ?_ (by assumption))|exact HB.out)) hb);(try clear hb);(try clear hb2);(try clear hk);(try clear hi);have hnb18:=NB263_264.out;have hnc18:=NB264_263.out;obtain ⟨hcz19_0,hcz19_1⟩:=cq2 BK263.out;obtain ⟨hfz19_0,hfz19_1⟩:=fq2 BK263.out)|(go_at_call 52;(with_reducible refine (affine_within.calls a1_0 a1_1 16777216 true _ A12.out).mono ?_);rintro e w20 ⟨rfl,hb⟩;replace BK262:=am (bw (by exact BK262.out) hb);replace BK263:=am (bw (by exact BK263.out) hb);replace BK264:=am (bw (by exact BK264.out) hb);replace HB:=am (ss (by repeat (first|(with_reducible first|exact HB.out|apply sa|apply sn|apply sd|refine sy ?_ (by assumption))|exact HB.out)) hb);(try clear hb);(try clear hb2);(try clear hk);(try clear hi)))
        repeat (go_quiet (first|(go_at_call 47;(with_reducible refine (field_RightMatrix.calls k a0_0 a0_1 a0_2 a0_3 a0_4 a0_5 true _ A10.out).mono ?_);rintro e w17 ⟨rfl,hb⟩;have n0_:=am (bw (by exact BK262.out) hb);have n1_:=am (bw (by exact BK263.out) hb);have n2_:=am (bw (by exact BK264.out) hb);have n3_:=am (ss (by repeat (first|(with_reducible first|exact HB.out|apply sa|apply sn|apply sd|refine sy ?_ (by assumption))|exact HB.out)) hb);clear BK262;clear BK263;clear BK264;clear HB;have BK262:=n0_;have BK263:=n1_;have BK264:=n2_;have HB:=n3_;clear n0_ n1_ n2_ n3_;(try clear hb);(try clear hb2);(try clear hk);(try clear hi);have hnb18:=NB263_264.out;have hnc18:=NB264_263.out;obtain ⟨hcz19_0,hcz19_1⟩:=cq2 BK263.out;obtain ⟨hfz19_0,hfz19_1⟩:=fq2 BK263.out)|(go_at_call 52;(with_reducible refine (affine_within.calls a1_0 a1_1 16777216 true _ A12.out).mono ?_);rintro e w20 ⟨rfl,hb⟩;have n0_:=am (bw (by exact BK262.out) hb);have n1_:=am (bw (by exact BK263.out) hb);have n2_:=am (bw (by exact BK264.out) hb);have n3_:=am (ss (by repeat (first|(with_reducible first|exact HB.out|apply sa|apply sn|apply sd|refine sy ?_ (by assumption))|exact HB.out)) hb);clear BK262;clear BK263;clear BK264;clear HB;have BK262:=n0_;have BK263:=n1_;have BK264:=n2_;have HB:=n3_;clear n0_ n1_ n2_ n3_;(try clear hb);(try clear hb2);(try clear hk);(try clear hi)));try go_wp2_with (first|(go_at_call 47;(with_reducible refine (field_RightMatrix.calls k a0_0 a0_1 a0_2 a0_3 a0_4 a0_5 true _ A10.out).mono ?_);rintro e w17 ⟨rfl,hb⟩;have n0_:=am (bw (by exact BK262.out) hb);have n1_:=am (bw (by exact BK263.out) hb);have n2_:=am (bw (by exact BK264.out) hb);have n3_:=am (ss (by repeat (first|(with_reducible first|exact HB.out|apply sa|apply sn|apply sd|refine sy ?_ (by assumption))|exact HB.out)) hb);clear BK262;clear BK263;clear BK264;clear HB;have BK262:=n0_;have BK263:=n1_;have BK264:=n2_;have HB:=n3_;clear n0_ n1_ n2_ n3_;(try clear hb);(try clear hb2);(try clear hk);(try clear hi);have hnb18:=NB263_264.out;have hnc18:=NB264_263.out;obtain ⟨hcz19_0,hcz19_1⟩:=cq2 BK263.out;obtain ⟨hfz19_0,hfz19_1⟩:=fq2 BK263.out)|(go_at_call 52;(with_reducible refine (affine_within.calls a1_0 a1_1 16777216 true _ A12.out).mono ?_);rintro e w20 ⟨rfl,hb⟩;have n0_:=am (bw (by exact BK262.out) hb);have n1_:=am (bw (by exact BK263.out) hb);have n2_:=am (bw (by exact BK264.out) hb);have n3_:=am (ss (by repeat (first|(with_reducible first|exact HB.out|apply sa|apply sn|apply sd|refine sy ?_ (by assumption))|exact HB.out)) hb);clear BK262;clear BK263;clear BK264;clear HB;have BK262:=n0_;have BK263:=n1_;have BK264:=n2_;have HB:=n3_;clear n0_ n1_ n2_ n3_;(try clear hb);(try clear hb2);(try clear hk);(try clear hi))))
        go_meet
        case rel => exact ⟨_,(((wrap64 ((wrap64 (a0_0 * a0_3)) - (wrap64 (a0_1 * a0_2)))) == 0)),(by first|rfl|(simp;done)|(simp [*];done)),H',⟨by first|omega|exact Nat.le_refl _⟩,⟨by exact BK262.out⟩,⟨by exact BK263.out⟩,⟨by exact BK264.out⟩,⟨by repeat (first|(with_reducible first|exact HB.out|apply sa|apply sn|apply sd|refine sy ?_ (by assumption))|exact HB.out)⟩⟩
      · replace c13:=Bool.eq_false_iff.mpr c13
        subst c13
        have H1 : (affine_Back.j0 k (wrap64 ((wrap64 (a0_0 * a0_3)) - (wrap64 (a0_1 * a0_2)))) true a0_0 a0_1 a0_2 a0_3 a0_4 a0_5 a1_0 a1_1) = some (r1,r2,r3):=by rw [if_neg (show ¬ (false = true) by decide)] at H;exact H
        clear H;have H:=H1;clear H1;have H':=am H;clear H;have hnb21:=NB262_263.out;have hnc21:=NB263_262.out;have hnb22:=NB262_264.out;have hnc22:=NB264_262.out;have hcz23_0 : w6.cell? ⟨gb262,0,none⟩ = some (.int .i64 a0_0):=(bc BK262.out 0).trans rfl;have hcz23_1 : w6.cell? ⟨gb262,1,none⟩ = some (.int .i64 a0_1):=(bc BK262.out 1).trans rfl;have hcz23_2 : w6.cell? ⟨gb262,2,none⟩ = some (.int .i64 a0_2):=(bc BK262.out 2).trans rfl;have hcz23_3 : w6.cell? ⟨gb262,3,none⟩ = some (.int .i64 a0_3):=(bc BK262.out 3).trans rfl;have hcz23_4 : w6.cell? ⟨gb262,4,none⟩ = some (.int .i64 a0_4):=(bc BK262.out 4).trans rfl;have hcz23_5 : w6.cell? ⟨gb262,5,none⟩ = some (.int .i64 a0_5):=(bc BK262.out 5).trans rfl;have hfz23_0:=bz BK262.out 0;have hfz23_1:=bz BK262.out 1;have hfz23_2:=bz BK262.out 2;have hfz23_3:=bz BK262.out 3;have hfz23_4:=bz BK262.out 4;have hfz23_5:=bz BK262.out 5
        go_wp2_with (first|(go_at_call 47;(with_reducible refine (field_RightMatrix.calls k a0_0 a0_1 a0_2 a0_3 a0_4 a0_5 true _ A10.out).mono ?_);rintro e w24 ⟨rfl,hb⟩;replace BK262:=am (bw (by exact BK262.out) hb);replace BK263:=am (bw (by exact BK263.out) hb);replace BK264:=am (bw (by exact BK264.out) hb);replace HB:=am (ss (by repeat (first|(with_reducible first|exact HB.out|apply sa|apply sn|apply sd|refine sy ?_ (by assumption))|exact HB.out)) hb);(try clear hb);(try clear hb2);(try clear hk);(try clear hi);have hnb25:=NB263_264.out;have hnc25:=NB264_263.out;obtain ⟨hcz26_0,hcz26_1⟩:=cq2 BK263.out;obtain ⟨hfz26_0,hfz26_1⟩:=fq2 BK263.out)|(go_at_call 52;(with_reducible refine (affine_within.calls a1_0 a1_1 16777216 false _ A12.out).mono ?_);rintro e w27 ⟨rfl,hb⟩;replace BK262:=am (bw (by exact BK262.out) hb);replace BK263:=am (bw (by exact BK263.out) hb);replace BK264:=am (bw (by exact BK264.out) hb);replace HB:=am (ss (by repeat (first|(with_reducible first|exact HB.out|apply sa|apply sn|apply sd|refine sy ?_ (by assumption))|exact HB.out)) hb);(try clear hb);(try clear hb2);(try clear hk);(try clear hi)))
        repeat (go_quiet (first|(go_at_call 47;(with_reducible refine (field_RightMatrix.calls k a0_0 a0_1 a0_2 a0_3 a0_4 a0_5 true _ A10.out).mono ?_);rintro e w24 ⟨rfl,hb⟩;have n0_:=am (bw (by exact BK262.out) hb);have n1_:=am (bw (by exact BK263.out) hb);have n2_:=am (bw (by exact BK264.out) hb);have n3_:=am (ss (by repeat (first|(with_reducible first|exact HB.out|apply sa|apply sn|apply sd|refine sy ?_ (by assumption))|exact HB.out)) hb);clear BK262;clear BK263;clear BK264;clear HB;have BK262:=n0_;have BK263:=n1_;have BK264:=n2_;have HB:=n3_;clear n0_ n1_ n2_ n3_;(try clear hb);(try clear hb2);(try clear hk);(try clear hi);have hnb25:=NB263_264.out;have hnc25:=NB264_263.out;obtain ⟨hcz26_0,hcz26_1⟩:=cq2 BK263.out;obtain ⟨hfz26_0,hfz26_1⟩:=fq2 BK263.out)|(go_at_call 52;(with_reducible refine (affine_within.calls a1_0 a1_1 16777216 false _ A12.out).mono ?_);rintro e w27 ⟨rfl,hb⟩;have n0_:=am (bw (by exact BK262.out) hb);have n1_:=am (bw (by exact BK263.out) hb);have n2_:=am (bw (by exact BK264.out) hb);have n3_:=am (ss (by repeat (first|(with_reducible first|exact HB.out|apply sa|apply sn|apply sd|refine sy ?_ (by assumption))|exact HB.out)) hb);clear BK262;clear BK263;clear BK264;clear HB;have BK262:=n0_;have BK263:=n1_;have BK264:=n2_;have HB:=n3_;clear n0_ n1_ n2_ n3_;(try clear hb);(try clear hb2);(try clear hk);(try clear hi)));try go_wp2_with (first|(go_at_call 47;(with_reducible refine (field_RightMatrix.calls k a0_0 a0_1 a0_2 a0_3 a0_4 a0_5 true _ A10.out).mono ?_);rintro e w24 ⟨rfl,hb⟩;have n0_:=am (bw (by exact BK262.out) hb);have n1_:=am (bw (by exact BK263.out) hb);have n2_:=am (bw (by exact BK264.out) hb);have n3_:=am (ss (by repeat (first|(with_reducible first|exact HB.out|apply sa|apply sn|apply sd|refine sy ?_ (by assumption))|exact HB.out)) hb);clear BK262;clear BK263;clear BK264;clear HB;have BK262:=n0_;have BK263:=n1_;have BK264:=n2_;have HB:=n3_;clear n0_ n1_ n2_ n3_;(try clear hb);(try clear hb2);(try clear hk);(try clear hi);have hnb25:=NB263_264.out;have hnc25:=NB264_263.out;obtain ⟨hcz26_0,hcz26_1⟩:=cq2 BK263.out;obtain ⟨hfz26_0,hfz26_1⟩:=fq2 BK263.out)|(go_at_call 52;(with_reducible refine (affine_within.calls a1_0 a1_1 16777216 false _ A12.out).mono ?_);rintro e w27 ⟨rfl,hb⟩;have n0_:=am (bw (by exact BK262.out) hb);have n1_:=am (bw (by exact BK263.out) hb);have n2_:=am (bw (by exact BK264.out) hb);have n3_:=am (ss (by repeat (first|(with_reducible first|exact HB.out|apply sa|apply sn|apply sd|refine sy ?_ (by assumption))|exact HB.out)) hb);clear BK262;clear BK263;clear BK264;clear HB;have BK262:=n0_;have BK263:=n1_;have BK264:=n2_;have HB:=n3_;clear n0_ n1_ n2_ n3_;(try clear hb);(try clear hb2);(try clear hk);(try clear hi))))
        go_meet
        case rel => exact ⟨_,(true),(by first|rfl|(simp;done)|(simp [*];done)),H',⟨by first|omega|exact Nat.le_refl _⟩,⟨by exact BK262.out⟩,⟨by exact BK263.out⟩,⟨by exact BK264.out⟩,⟨by repeat (first|(with_reducible first|exact HB.out|apply sa|apply sn|apply sd|refine sy ?_ (by assumption))|exact HB.out)⟩⟩
    · replace c11:=Bool.eq_false_iff.mpr c11
      subst c11
      have H1 : (affine_Back.j0 k (wrap64 ((wrap64 (a0_0 * a0_3)) - (wrap64 (a0_1 * a0_2)))) true a0_0 a0_1 a0_2 a0_3 a0_4 a0_5 a1_0 a1_1) = some (r1,r2,r3):=by rw [if_neg (show ¬ (false = true) by decide)] at H;exact H
      clear H;have H:=H1;clear H1;have H':=am H;clear H;have hnb28:=NB262_263.out;have hnc28:=NB263_262.out;have hnb29:=NB262_264.out;have hnc29:=NB264_262.out;have hcz30_0 : w6.cell? ⟨gb262,0,none⟩ = some (.int .i64 a0_0):=(bc BK262.out 0).trans rfl;have hcz30_1 : w6.cell? ⟨gb262,1,none⟩ = some (.int .i64 a0_1):=(bc BK262.out 1).trans rfl;have hcz30_2 : w6.cell? ⟨gb262,2,none⟩ = some (.int .i64 a0_2):=(bc BK262.out 2).trans rfl;have hcz30_3 : w6.cell? ⟨gb262,3,none⟩ = some (.int .i64 a0_3):=(bc BK262.out 3).trans rfl;have hcz30_4 : w6.cell? ⟨gb262,4,none⟩ = some (.int .i64 a0_4):=(bc BK262.out 4).trans rfl;have hcz30_5 : w6.cell? ⟨gb262,5,none⟩ = some (.int .i64 a0_5):=(bc BK262.out 5).trans rfl;have hfz30_0:=bz BK262.out 0;have hfz30_1:=bz BK262.out 1;have hfz30_2:=bz BK262.out 2;have hfz30_3:=bz BK262.out 3;have hfz30_4:=bz BK262.out 4;have hfz30_5:=bz BK262.out 5
      go_wp2_with (first|(go_at_call 47;(with_reducible refine (field_RightMatrix.calls k a0_0 a0_1 a0_2 a0_3 a0_4 a0_5 false _ A10.out).mono ?_);rintro e w31 ⟨rfl,hb⟩;replace BK262:=am (bw (by exact BK262.out) hb);replace BK263:=am (bw (by exact BK263.out) hb);replace BK264:=am (bw (by exact BK264.out) hb);replace HB:=am (ss (by repeat (first|(with_reducible first|exact HB.out|apply sa|apply sn|apply sd|refine sy ?_ (by assumption))|exact HB.out)) hb);(try clear hb);(try clear hb2);(try clear hk);(try clear hi)))
      repeat (go_quiet (first|(go_at_call 47;(with_reducible refine (field_RightMatrix.calls k a0_0 a0_1 a0_2 a0_3 a0_4 a0_5 false _ A10.out).mono ?_);rintro e w31 ⟨rfl,hb⟩;have n0_:=am (bw (by exact BK262.out) hb);have n1_:=am (bw (by exact BK263.out) hb);have n2_:=am (bw (by exact BK264.out) hb);have n3_:=am (ss (by repeat (first|(with_reducible first|exact HB.out|apply sa|apply sn|apply sd|refine sy ?_ (by assumption))|exact HB.out)) hb);clear BK262;clear BK263;clear BK264;clear HB;have BK262:=n0_;have BK263:=n1_;have BK264:=n2_;have HB:=n3_;clear n0_ n1_ n2_ n3_;(try clear hb);(try clear hb2);(try clear hk);(try clear hi)));try go_wp2_with (first|(go_at_call 47;(with_reducible refine (field_RightMatrix.calls k a0_0 a0_1 a0_2 a0_3 a0_4 a0_5 false _ A10.out).mono ?_);rintro e w31 ⟨rfl,hb⟩;have n0_:=am (bw (by exact BK262.out) hb);have n1_:=am (bw (by exact BK263.out) hb);have n2_:=am (bw (by exact BK264.out) hb);have n3_:=am (ss (by repeat (first|(with_reducible first|exact HB.out|apply sa|apply sn|apply sd|refine sy ?_ (by assumption))|exact HB.out)) hb);clear BK262;clear BK263;clear BK264;clear HB;have BK262:=n0_;have BK263:=n1_;have BK264:=n2_;have HB:=n3_;clear n0_ n1_ n2_ n3_;(try clear hb);(try clear hb2);(try clear hk);(try clear hi))))
      go_meet
      case rel => exact ⟨_,(true),(by first|rfl|(simp;done)|(simp [*];done)),H',⟨by first|omega|exact Nat.le_refl _⟩,⟨by exact BK262.out⟩,⟨by exact BK263.out⟩,⟨by exact BK264.out⟩,⟨by repeat (first|(with_reducible first|exact HB.out|apply sa|apply sn|apply sd|refine sy ?_ (by assumption))|exact HB.out)⟩⟩
  case rest =>
    clear HC3
    try clear c1
    try clear c2
    try clear p2
    try clear c3
    try clear p6
    try clear c7
    try clear c8
    try clear c11
    try clear c13
    try clear c14
    try clear c15
    try clear c18
    try clear c21
    try clear c22
    try clear c25
    try clear c28
    try clear c29
    try clear c31
    try clear hcz16_0
    try clear hcz16_1
    try clear hcz16_2
    try clear hcz16_3
    try clear hcz16_4
    try clear hcz16_5
    try clear hcz19_0
    try clear hcz19_1
    try clear hcz23_0
    try clear hcz23_1
    try clear hcz23_2
    try clear hcz23_3
    try clear hcz23_4
    try clear hcz23_5
    try clear hcz26_0
    try clear hcz26_1
    try clear hcz30_0
    try clear hcz30_1
    try clear hcz30_2
    try clear hcz30_3
    try clear hcz30_4
    try clear hcz30_5
    try clear hcz9_0
    try clear hcz9_1
    try clear hcz9_2
    try clear hcz9_3
    try clear hcz9_4
    try clear hcz9_5
    try clear hfz16_0
    try clear hfz16_1
    try clear hfz16_2
    try clear hfz16_3
    try clear hfz16_4
    try clear hfz16_5
    try clear hfz19_0
    try clear hfz19_1
    try clear hfz23_0
    try clear hfz23_1
    try clear hfz23_2
    try clear hfz23_3
    try clear hfz23_4
    try clear hfz23_5
    try clear hfz26_0
    try clear hfz26_1
    try clear hfz30_0
    try clear hfz30_1
    try clear hfz30_2
    try clear hfz30_3
    try clear hfz30_4
    try clear hfz30_5
    try clear hfz9_0
    try clear hfz9_1
    try clear hfz9_2
    try clear hfz9_3
    try clear hfz9_4
    try clear hfz9_5
    obtain ⟨kq,x35_2,rfl,HA,HJ2,BK262,BK263,BK264,HB⟩:=hcut
    cases kq with
    | zero => exact absurd HA.out (by simp [affine_Back.j0])
    | succ kj2 =>
      have H:=HA.out;clear HA;simp only [affine_Back.j0] at H
      by_cases c32 : x35_2 = true
      · subst c32
        have H1 : (some (0,0,false)) = some (r1,r2,r3):=by rw [if_pos rfl] at H;exact H
        clear H;have H:=H1;clear H1;simp only [Option.some.injEq,Prod.mk.injEq] at H;obtain ⟨rfl,rfl,rfl⟩:=H;have hnb33:=NB264_262.out;have hnc33:=NB262_264.out;have hnb34:=NB264_263.out;have hnc34:=NB263_264.out;have hcz35_0 : wc.cell? ⟨gb264,0,none⟩ = some (.int .i64 0):=(bc BK264.out 0).trans rfl;have hcz35_1 : wc.cell? ⟨gb264,1,none⟩ = some (.int .i64 0):=(bc BK264.out 1).trans rfl;have hfz35_0:=bz BK264.out 0;have hfz35_1:=bz BK264.out 1
        go_wp2
        repeat (go_quiet (fail);try go_wp2)
        refine bodyPost_ret (results_ct rfl _ _ gb264 37 #[.int .i64 0,.int .i64 0] (0,0) _ rfl (bp (bp BK264.out 0 _ rfl) 1 _ rfl) Try.underlying37 rfl (by kernel_rfl)) rfl ?_
        exact ⟨by first|rfl|(simp [errW_none,errW_some] <;> rfl)|(simp [*,errW_none,errW_some] <;> rfl),by repeat (first|(with_reducible first|exact HB.out|apply sa|apply sn|apply sd|refine sy ?_ (by assumption))|exact HB.out)⟩
      · replace c32:=Bool.eq_false_iff.mpr c32
        subst c32
        have H1 : ((fix_Floor.f kj2 (wrap64 ((wrap64 (a0_3 * (wrap64 ((wrap64 (a1_0 * 20480)) - (wrap64 (a0_4 * 65536)))))) - (wrap64 (a0_2 * (wrap64 ((wrap64 (a1_1 * 20480)) - (wrap64 (a0_5 * 65536)))))))) (wrap64 ((wrap64 (a0_0 * a0_3)) - (wrap64 (a0_1 * a0_2))))).bind fun bt267 => ((fix_Floor.f kj2 (wrap64 ((wrap64 (a0_0 * (wrap64 ((wrap64 (a1_1 * 20480)) - (wrap64 (a0_5 * 65536)))))) - (wrap64 (a0_1 * (wrap64 ((wrap64 (a1_0 * 20480)) - (wrap64 (a0_4 * 65536)))))))) (wrap64 ((wrap64 (a0_0 * a0_3)) - (wrap64 (a0_1 * a0_2))))).bind fun bt269 => (some (bt267.1,bt269.1,true)))) = some (r1,r2,r3):=by rw [if_neg (show ¬ (false = true) by decide)] at H;exact H
        clear H;have H:=H1;clear H1;replace H:=Option.bind_eq_some_iff.mp H;obtain ⟨⟨t267,t268⟩,A360,H⟩:=H;replace H : ((fix_Floor.f kj2 (wrap64 ((wrap64 (a0_0 * (wrap64 ((wrap64 (a1_1 * 20480)) - (wrap64 (a0_5 * 65536)))))) - (wrap64 (a0_1 * (wrap64 ((wrap64 (a1_0 * 20480)) - (wrap64 (a0_4 * 65536)))))))) (wrap64 ((wrap64 (a0_0 * a0_3)) - (wrap64 (a0_1 * a0_2))))).bind fun bt269 => (some (t267,bt269.1,true))) = some (r1,r2,r3):=H;have A36:=am A360;clear A360;replace H:=Option.bind_eq_some_iff.mp H;obtain ⟨⟨t269,t270⟩,A370,H⟩:=H;replace H : (some (t267,t269,true)) = some (r1,r2,r3):=H;have A37:=am A370;clear A370;simp only [Option.some.injEq,Prod.mk.injEq] at H;obtain ⟨rfl,rfl,rfl⟩:=H;have hnb38:=NB263_262.out;have hnc38:=NB262_263.out;have hnb39:=NB263_264.out;have hnc39:=NB264_263.out;have hcz40_0 : wc.cell? ⟨gb263,0,none⟩ = some (.int .i64 a1_0):=(bc BK263.out 0).trans rfl;have hcz40_1 : wc.cell? ⟨gb263,1,none⟩ = some (.int .i64 a1_1):=(bc BK263.out 1).trans rfl;have hfz40_0:=bz BK263.out 0;have hfz40_1:=bz BK263.out 1;have hnb41:=NB262_264.out;have hnc41:=NB264_262.out;have hcz42_0 : wc.cell? ⟨gb262,0,none⟩ = some (.int .i64 a0_0):=(bc BK262.out 0).trans rfl;have hcz42_1 : wc.cell? ⟨gb262,1,none⟩ = some (.int .i64 a0_1):=(bc BK262.out 1).trans rfl;have hcz42_2 : wc.cell? ⟨gb262,2,none⟩ = some (.int .i64 a0_2):=(bc BK262.out 2).trans rfl;have hcz42_3 : wc.cell? ⟨gb262,3,none⟩ = some (.int .i64 a0_3):=(bc BK262.out 3).trans rfl;have hcz42_4 : wc.cell? ⟨gb262,4,none⟩ = some (.int .i64 a0_4):=(bc BK262.out 4).trans rfl;have hcz42_5 : wc.cell? ⟨gb262,5,none⟩ = some (.int .i64 a0_5):=(bc BK262.out 5).trans rfl;have hfz42_0:=bz BK262.out 0;have hfz42_1:=bz BK262.out 1;have hfz42_2:=bz BK262.out 2;have hfz42_3:=bz BK262.out 3;have hfz42_4:=bz BK262.out 4;have hfz42_5:=bz BK262.out 5
        go_wp2_with (first|(go_at_call 53;(with_reducible refine (fix_Floor.calls kj2 (wrap64 ((wrap64 (a0_3 * (wrap64 ((wrap64 (a1_0 * 20480)) - (wrap64 (a0_4 * 65536)))))) - (wrap64 (a0_2 * (wrap64 ((wrap64 (a1_1 * 20480)) - (wrap64 (a0_5 * 65536)))))))) (wrap64 ((wrap64 (a0_0 * a0_3)) - (wrap64 (a0_1 * a0_2)))) t267 t268 _ A36.out).mono ?_);rintro e w43 ⟨rfl,hb⟩;replace BK262:=am (bw (by exact BK262.out) hb);replace BK263:=am (bw (by exact BK263.out) hb);replace BK264:=am (bw (by exact BK264.out) hb);replace HB:=am (ss (by repeat (first|(with_reducible first|exact HB.out|apply sa|apply sn|apply sd|refine sy ?_ (by assumption))|exact HB.out)) hb);(try clear hb);(try clear hb2);(try clear hk);(try clear hi);obtain ⟨hcz44_0,hcz44_1,hcz44_2,hcz44_3,hcz44_4,hcz44_5⟩:=cq6 BK262.out;obtain ⟨hfz44_0,hfz44_1,hfz44_2,hfz44_3,hfz44_4,hfz44_5⟩:=fq6 BK262.out)|(go_at_call 53;(with_reducible refine (fix_Floor.calls kj2 (wrap64 ((wrap64 (a0_0 * (wrap64 ((wrap64 (a1_1 * 20480)) - (wrap64 (a0_5 * 65536)))))) - (wrap64 (a0_1 * (wrap64 ((wrap64 (a1_0 * 20480)) - (wrap64 (a0_4 * 65536)))))))) (wrap64 ((wrap64 (a0_0 * a0_3)) - (wrap64 (a0_1 * a0_2)))) t269 t270 _ A37.out).mono ?_);rintro e w45 ⟨rfl,hb⟩;replace BK262:=am (bw (by exact BK262.out) hb);replace BK263:=am (bw (by exact BK263.out) hb);replace BK264:=am (bw (by exact BK264.out) hb);replace HB:=am (ss (by repeat (first|(with_reducible first|exact HB.out|apply sa|apply sn|apply sd|refine sy ?_ (by assumption))|exact HB.out)) hb);(try clear hb);(try clear hb2);(try clear hk);(try clear hi);obtain ⟨hcz46_0,hcz46_1⟩:=cq2 BK264.out;obtain ⟨hfz46_0,hfz46_1⟩:=fq2 BK264.out))
        repeat (go_quiet (first|(go_at_call 53;(with_reducible refine (fix_Floor.calls kj2 (wrap64 ((wrap64 (a0_3 * (wrap64 ((wrap64 (a1_0 * 20480)) - (wrap64 (a0_4 * 65536)))))) - (wrap64 (a0_2 * (wrap64 ((wrap64 (a1_1 * 20480)) - (wrap64 (a0_5 * 65536)))))))) (wrap64 ((wrap64 (a0_0 * a0_3)) - (wrap64 (a0_1 * a0_2)))) t267 t268 _ A36.out).mono ?_);rintro e w43 ⟨rfl,hb⟩;have n0_:=am (bw (by exact BK262.out) hb);have n1_:=am (bw (by exact BK263.out) hb);have n2_:=am (bw (by exact BK264.out) hb);have n3_:=am (ss (by repeat (first|(with_reducible first|exact HB.out|apply sa|apply sn|apply sd|refine sy ?_ (by assumption))|exact HB.out)) hb);clear BK262;clear BK263;clear BK264;clear HB;have BK262:=n0_;have BK263:=n1_;have BK264:=n2_;have HB:=n3_;clear n0_ n1_ n2_ n3_;(try clear hb);(try clear hb2);(try clear hk);(try clear hi);obtain ⟨hcz44_0,hcz44_1,hcz44_2,hcz44_3,hcz44_4,hcz44_5⟩:=cq6 BK262.out;obtain ⟨hfz44_0,hfz44_1,hfz44_2,hfz44_3,hfz44_4,hfz44_5⟩:=fq6 BK262.out)|(go_at_call 53;(with_reducible refine (fix_Floor.calls kj2 (wrap64 ((wrap64 (a0_0 * (wrap64 ((wrap64 (a1_1 * 20480)) - (wrap64 (a0_5 * 65536)))))) - (wrap64 (a0_1 * (wrap64 ((wrap64 (a1_0 * 20480)) - (wrap64 (a0_4 * 65536)))))))) (wrap64 ((wrap64 (a0_0 * a0_3)) - (wrap64 (a0_1 * a0_2)))) t269 t270 _ A37.out).mono ?_);rintro e w45 ⟨rfl,hb⟩;have n0_:=am (bw (by exact BK262.out) hb);have n1_:=am (bw (by exact BK263.out) hb);have n2_:=am (bw (by exact BK264.out) hb);have n3_:=am (ss (by repeat (first|(with_reducible first|exact HB.out|apply sa|apply sn|apply sd|refine sy ?_ (by assumption))|exact HB.out)) hb);clear BK262;clear BK263;clear BK264;clear HB;have BK262:=n0_;have BK263:=n1_;have BK264:=n2_;have HB:=n3_;clear n0_ n1_ n2_ n3_;(try clear hb);(try clear hb2);(try clear hk);(try clear hi);obtain ⟨hcz46_0,hcz46_1⟩:=cq2 BK264.out;obtain ⟨hfz46_0,hfz46_1⟩:=fq2 BK264.out));try go_wp2_with (first|(go_at_call 53;(with_reducible refine (fix_Floor.calls kj2 (wrap64 ((wrap64 (a0_3 * (wrap64 ((wrap64 (a1_0 * 20480)) - (wrap64 (a0_4 * 65536)))))) - (wrap64 (a0_2 * (wrap64 ((wrap64 (a1_1 * 20480)) - (wrap64 (a0_5 * 65536)))))))) (wrap64 ((wrap64 (a0_0 * a0_3)) - (wrap64 (a0_1 * a0_2)))) t267 t268 _ A36.out).mono ?_);rintro e w43 ⟨rfl,hb⟩;have n0_:=am (bw (by exact BK262.out) hb);have n1_:=am (bw (by exact BK263.out) hb);have n2_:=am (bw (by exact BK264.out) hb);have n3_:=am (ss (by repeat (first|(with_reducible first|exact HB.out|apply sa|apply sn|apply sd|refine sy ?_ (by assumption))|exact HB.out)) hb);clear BK262;clear BK263;clear BK264;clear HB;have BK262:=n0_;have BK263:=n1_;have BK264:=n2_;have HB:=n3_;clear n0_ n1_ n2_ n3_;(try clear hb);(try clear hb2);(try clear hk);(try clear hi);obtain ⟨hcz44_0,hcz44_1,hcz44_2,hcz44_3,hcz44_4,hcz44_5⟩:=cq6 BK262.out;obtain ⟨hfz44_0,hfz44_1,hfz44_2,hfz44_3,hfz44_4,hfz44_5⟩:=fq6 BK262.out)|(go_at_call 53;(with_reducible refine (fix_Floor.calls kj2 (wrap64 ((wrap64 (a0_0 * (wrap64 ((wrap64 (a1_1 * 20480)) - (wrap64 (a0_5 * 65536)))))) - (wrap64 (a0_1 * (wrap64 ((wrap64 (a1_0 * 20480)) - (wrap64 (a0_4 * 65536)))))))) (wrap64 ((wrap64 (a0_0 * a0_3)) - (wrap64 (a0_1 * a0_2)))) t269 t270 _ A37.out).mono ?_);rintro e w45 ⟨rfl,hb⟩;have n0_:=am (bw (by exact BK262.out) hb);have n1_:=am (bw (by exact BK263.out) hb);have n2_:=am (bw (by exact BK264.out) hb);have n3_:=am (ss (by repeat (first|(with_reducible first|exact HB.out|apply sa|apply sn|apply sd|refine sy ?_ (by assumption))|exact HB.out)) hb);clear BK262;clear BK263;clear BK264;clear HB;have BK262:=n0_;have BK263:=n1_;have BK264:=n2_;have HB:=n3_;clear n0_ n1_ n2_ n3_;(try clear hb);(try clear hb2);(try clear hk);(try clear hi);obtain ⟨hcz46_0,hcz46_1⟩:=cq2 BK264.out;obtain ⟨hfz46_0,hfz46_1⟩:=fq2 BK264.out)))
        refine bodyPost_ret (results_ct rfl _ _ gb264 37 #[.int .i64 t267,.int .i64 t269] (0,0) _ rfl (bp (bp BK264.out 0 _ rfl) 1 _ rfl) Try.underlying37 rfl (by kernel_rfl)) rfl ?_
        exact ⟨by first|rfl|(simp [errW_none,errW_some] <;> rfl)|(simp [*,errW_none,errW_some] <;> rfl),by repeat (first|(with_reducible first|exact HB.out|apply sa|apply sn|apply sd|refine sy ?_ (by assumption))|exact HB.out)⟩

/-! ### ramp_Line: function 54 -/
def ramp_Line.f (a0_0 : Int) (a0_1 : Int) : Option (Int):=some (((mn (mx a0_0 (-1073741824)) 1073741824) + 16384) / 128)
set_option maxHeartbeats 8000000 in
set_option maxRecDepth 100000 in
theorem ramp_Line.calls (a0_0 : Int) (a0_1 : Int) (r : Int) (w : World) (h : ramp_Line.f a0_0 a0_1 = some r) :
    Calls Try.prog 54 #[.agg #[.int .i64 a0_0,.int .i64 a0_1]] w fun e w' => e = .returned (.int .i64 r) ∧ Below w.heap.size w w':=by
  have hu37:=Try.underlying37;have HB:=am (Below.refl w.heap.size w);have H : (some (((mn (mx a0_0 (-1073741824)) 1073741824) + 16384) / 128)) = some r:=h;clear h;obtain ⟨ji2,hji2⟩ : ∃ j_ : Int,(mx a0_0 (-1073741824)) = j_:=⟨_,rfl⟩
  replace H : (some (((mn (ji2) 1073741824) + 16384) / 128)) = some r:=by first|(rw [hji2] at H;exact H)|(simp only [hji2] at H ⊢;exact H)
  have hji2_ : (if a0_0 < (-1073741824) then (-1073741824) else a0_0) = ji2:=hji2;obtain ⟨ji3,hji3⟩ : ∃ j_ : Int,(mn (ji2) 1073741824) = j_:=⟨_,rfl⟩
  replace H : (some (((ji3) + 16384) / 128)) = some r:=by first|(rw [hji3] at H;exact H)|(simp only [hji3] at H ⊢;exact H)
  have hji3_ : (if 1073741824 < (ji2) then 1073741824 else (ji2)) = ji3:=hji3;obtain rfl:=Option.some.inj H
  go_enter Try.func54,Try.ntmps54
  go_wp2_with (first|((with_reducible refine gate_dst (N:=1) rfl ?_);refine box_event ?hg (N:=1) ?hd (cs:=#[.int .i64 a0_0,.int .i64 a0_1]) (t:=37) ?hr ?_;(case hd => rfl);(case hg => rfl);(case hr => first|(go_simp;done)|(go_simp;rfl));intro gb271 hg w4 hbox hb;have BK271:=am (hbox);have GW271:=am ((by rw [hg];exact (sz (by repeat (first|(with_reducible first|exact HB.out|apply sa|apply sn|apply sd)|exact HB.out))) : w.heap.size ≤ gb271));have GE271:=am ((by rw [hg];exact (sz (by repeat (first|(with_reducible first|exact HB.out|apply sa|apply sn|apply sd)|exact HB.out))) : w.heap.size ≤ gb271));replace HB:=am (ss (by repeat (first|(with_reducible first|exact HB.out|apply sa|apply sn|apply sd)|exact HB.out)) hb);clear hb hbox hg;obtain ⟨hcz5_0,hcz5_1⟩:=cq2 BK271.out;obtain ⟨hfz5_0,hfz5_1⟩:=fq2 BK271.out))
  go_ret
  exact ⟨by first|rfl|(simp [errW_none,errW_some] <;> rfl)|(simp only [← hji2, ← hji3];first|rfl|(simp [errW_none,errW_some] <;> rfl))|(simp [*,errW_none,errW_some] <;> rfl),by repeat (first|(with_reducible first|exact HB.out|apply sa|apply sn|apply sd|refine sx ?_ GE271.out)|exact HB.out)⟩

/-! ### bits_Len: function 84 -/
def bits_Len.f (a0 : Int) : Option (Int):=if 0 ≤ a0 ∧ a0 ≤ 18446744073709551615 then some (Lib.bitLen a0.toNat : Int) else none
theorem bits_Len.calls (a0 : Int) (r : Int) (w : World) (h : bits_Len.f a0 = some r) :
    Calls Try.prog 84 #[.int .u64 a0] w fun e w' => e = .returned (.int .i64 r) ∧ Drawn0 w w':=by
  unfold bits_Len.f at h
  split at h
  · rename_i hb
    obtain rfl:=Option.some.inj h;refine (Try.bits_Len a0 w hb.1 hb.2).mono ?_
    rintro e w' ⟨rfl,rfl⟩
    exact ⟨rfl,Drawn0.refl _⟩
  · cases h

/-! ### fix_Root: function 73 -/
def fix_Root.l0 : Nat → Int → Int → Option (Int)
  | 0,_,_ => none
  | k + 1,x0,x3 => if x3 = 0 then (none) else (if (wrap64 (Int.tdiv (wrap64 (x3 + (wrap64 (Int.tdiv x0 x3)))) 2)) ≥ x3 then (some x3) else (fix_Root.l0 k x0 (wrap64 (Int.tdiv (wrap64 (x3 + (wrap64 (Int.tdiv x0 x3)))) 2))))
def fix_Root.f (k : Nat) (a0 : Int) : Option (Int):=if a0 < 1 then (some 0) else ((bits_Len.f (IntKind.u64.wrap (a0))).bind fun t272 => (if 0 ≤ (wrap64 (Int.tdiv (wrap64 (t272 + 1)) 2)) then (fix_Root.l0 k a0 (shl .i64 1 (wrap64 (Int.tdiv (wrap64 (t272 + 1)) 2)))) else (none)))
theorem fix_Root.mono_l : ∀ k,(∀ y0 y1,LeO (fix_Root.l0 k y0 y1) (fix_Root.l0 (k + 1) y0 y1))
  | 0 => fun _ _ r h => by simp [fix_Root.l0] at h
  | k + 1 => by
    have ih0:=fix_Root.mono_l k
    · intro y0 y1
      unfold fix_Root.l0
      repeat' first
      | (with_reducible exact ih0 _ _)
      | (with_reducible exact LeO.refl _)
      | (with_reducible exact LeO.none _)
      | (with_reducible refine LeO.ite ?_ ?_)
      | (with_reducible refine LeO.bind ?_ (fun _ => ?_))
      | exact ih0 _ _
      | exact LeO.none _
      | refine LeO.ite ?_ ?_
      | refine LeO.bind ?_ (fun _ => ?_)
theorem fix_Root.mono : ∀ a0 k,LeO (fix_Root.f k a0) (fix_Root.f (k + 1) a0):=by
  intro a0 k
  have ih0:=fix_Root.mono_l k
  unfold fix_Root.f
  repeat' first
      | (with_reducible exact ih0 _ _)
      | (with_reducible exact LeO.refl _)
      | (with_reducible exact LeO.none _)
      | (with_reducible refine LeO.ite ?_ ?_)
      | (with_reducible refine LeO.bind ?_ (fun _ => ?_))
      | exact ih0 _ _
      | exact LeO.none _
      | refine LeO.ite ?_ ?_
      | refine LeO.bind ?_ (fun _ => ?_)
set_option maxHeartbeats 8000000 in
set_option maxRecDepth 100000 in
theorem fix_Root.calls (k : Nat) (a0 : Int) (r : Int) (w : World) (h : fix_Root.f k a0 = some r) :
    Calls Try.prog 73 #[.int .i64 a0] w fun e w' => e = .returned (.int .i64 r) ∧ Drawn0 w w':=by
  have H : (if a0 < 1 then (some 0) else ((bits_Len.f (IntKind.u64.wrap (a0))).bind fun t272 => (if 0 ≤ (wrap64 (Int.tdiv (wrap64 (t272 + 1)) 2)) then (fix_Root.l0 k a0 (shl .i64 1 (wrap64 (Int.tdiv (wrap64 (t272 + 1)) 2)))) else (none)))) = some r:=h;clear h
  by_cases c2 : a0 < 1
  · rw [if_pos c2] at H
    have c2b0 : decide (a0 < 1) = true:=decide_eq_true c2;clear c2;obtain rfl:=Option.some.inj H
    go_enter Try.func73,Try.ntmps73
    go_wp2
    go_ret
    exact ⟨by first|rfl|(simp;done)|(simp [*];done),by repeat (first|exact Drawn0.refl _|apply Drawn0.step)⟩
  · rw [if_neg c2] at H
    have c2b0 : decide (a0 < 1) = false:=decide_eq_false c2;clear c2;replace H:=Option.bind_eq_some_iff.mp H;obtain ⟨t272,A30,H⟩:=H;replace H : (if 0 ≤ (wrap64 (Int.tdiv (wrap64 (t272 + 1)) 2)) then (fix_Root.l0 k a0 (shl .i64 1 (wrap64 (Int.tdiv (wrap64 (t272 + 1)) 2)))) else (none)) = some r:=H;have A3:=am A30;clear A30;obtain ⟨ji4,hji4⟩ : ∃ j_ : Int,(wrap64 (Int.tdiv (wrap64 (t272 + 1)) 2)) = j_:=⟨_,rfl⟩
    replace H : (if 0 ≤ (ji4) then (fix_Root.l0 k a0 (shl .i64 1 (ji4))) else (none)) = some r:=by first|(rw [hji4] at H;exact H)|(simp only [hji4] at H ⊢;exact H)
    (try rw [hji4] at A3);have hji4w : (IntKind.i64.wrap (Int.tdiv (wrap64 (t272 + 1)) 2)) = ji4:=(i64_w _).trans hji4
    by_cases c5 : 0 ≤ (ji4)
    · rw [if_pos c5] at H
      have c5b0:=eq_true c5;have c5b1 : decide (0 ≤ (ji4)) = true:=decide_eq_true c5;clear c5;obtain ⟨ji6,hji6⟩ : ∃ j_ : Int,(shl .i64 1 (ji4)) = j_:=⟨_,rfl⟩
      replace H : (fix_Root.l0 k a0 ji6) = some r:=by first|(rw [hji6] at H;exact H)|(simp only [hji6] at H ⊢;exact H)
      (try rw [hji6] at A3);have hji6_ : (IntKind.i64.wrap (1 * 2 ^ min (ji4).toNat 64)) = ji6:=hji6;have hji6z : (ji4) ≤ 64 → (IntKind.i64.wrap (1 * 2 ^ (ji4).toNat)) = ji6:=shl_small hji6
      have hji6u : (IntKind.i64.wrap (2 ^ min (ji4).toNat 64)) = ji6:=by have h_:=hji6_;rw [Int.one_mul] at h_;exact h_
      have hji6v : (ji4) ≤ 64 → (IntKind.i64.wrap (2 ^ (ji4).toNat)) = ji6:=fun hle_ => by have h_:=hji6z hle_;rw [Int.one_mul] at h_;exact h_
      have hji6y : (wrap64 (1 * 2 ^ min (ji4).toNat 64)) = ji6:=(i64_w _).symm.trans hji6_
      have hji6x : (ji4) ≤ 64 → (wrap64 (1 * 2 ^ (ji4).toNat)) = ji6:=fun h_ => (i64_w _).symm.trans (hji6z h_)
      have H':=am H;clear H
      go_enter Try.func73,Try.ntmps73
      go_wp2_with (first|((with_reducible refine gate_callee (f:=84) rfl ?_);refine goesL_ (some 9) rfl rfl Try.func84 (by kernel_rfl) rfl #[.int .u64 (IntKind.u64.wrap (a0))] rfl (by (try simp only [List.map_toArray,List.map_cons,List.map_nil]);first|done|rfl|(simp only [List.length_drop,List.length_take];rfl)) ?_;(with_reducible refine (bits_Len.calls (IntKind.u64.wrap (a0)) t272 _ A3.out).mono ?_);rintro e w' ⟨rfl,⟨nd,rfl⟩⟩;refine ⟨_,rfl,?_⟩))
      go_loopg [3] k (fun kq v3 w' => ∃ (x3_1 : Int),v3 = .int .i64 x3_1 ∧ Aside0 (fix_Root.l0 kq a0 x3_1 = some r) ∧ Aside0 (kq ≤ k) ∧ Drawn0 w w')
      case atStart => exact ⟨(ji6),(by first|rfl|(simp;done)|(simp only [← hji6] <;> (first|rfl|simp))|(simp [*];done)),H',⟨Nat.le_refl _⟩,by repeat (first|exact Drawn0.refl _|apply Drawn0.step)⟩
      case round =>
        clear H'
        try clear c2
        try clear c2b0
        try clear p2
        try clear c5
        try clear c5b0
        try clear c5b1
        try clear p6
        obtain ⟨x3_1,rfl,HA,HK1,⟨m1,rfl⟩⟩:=hrel
        cases gk with
        | zero => exact absurd HA.out (by simp [fix_Root.l0])
        | succ k1 =>
          have H:=HA.out;clear HA;simp only [fix_Root.l0] at H
          by_cases c7 : x3_1 = 0
          · rw [if_pos c7] at H
            exact absurd H (by simp)
          · rw [if_neg c7] at H
            have c7b0 : (x3_1 == 0) = false:=beq_eq_false_iff_ne.mpr c7;have c7b1 : (x3_1 != 0) = true:=bne_iff_ne.mpr c7
            by_cases c8 : (wrap64 (Int.tdiv (wrap64 (x3_1 + (wrap64 (Int.tdiv a0 x3_1)))) 2)) ≥ x3_1
            · rw [if_pos c8] at H
              have c8b0 : decide (x3_1 ≤ (wrap64 (Int.tdiv (wrap64 (x3_1 + (wrap64 (Int.tdiv a0 x3_1)))) 2))) = true:=decide_eq_true c8;clear c8;obtain rfl:=Option.some.inj H
              go_wp2
              go_ret
              exact ⟨by first|rfl|(simp;done)|(simp only [← hji4, ← hji6] <;> (first|rfl|simp))|(simp [*];done),by repeat (first|exact Drawn0.refl _|apply Drawn0.step)⟩
            · rw [if_neg c8] at H
              have c8b0 : decide (x3_1 ≤ (wrap64 (Int.tdiv (wrap64 (x3_1 + (wrap64 (Int.tdiv a0 x3_1)))) 2))) = false:=decide_eq_false c8;clear c8;have H':=am H;clear H
              go_wp2
              go_roundg k1
              case measure => have:=HK1.out;omega
              case rel => exact ⟨(wrap64 (Int.tdiv (wrap64 (x3_1 + (wrap64 (Int.tdiv a0 x3_1)))) 2)),(by first|rfl|(simp;done)|(simp [*];done)),H',⟨by have:=HK1.out;omega⟩,by repeat (first|exact Drawn0.refl _|apply Drawn0.step)⟩
    · rw [if_neg c5] at H
      exact absurd H (by simp)

/-! ### ramp_Circle: function 55 -/
def ramp_Circle.f (k : Nat) (a0_0 : Int) (a0_1 : Int) : Option (Int):=(fix_Root.f k (wrap64 ((wrap64 ((mn (mx a0_0 (-1073741824)) 1073741824) * (mn (mx a0_0 (-1073741824)) 1073741824))) + (wrap64 ((mn (mx a0_1 (-1073741824)) 1073741824) * (mn (mx a0_1 (-1073741824)) 1073741824)))))).bind fun t274 => (some (wrap64 (Int.tdiv t274 64)))
theorem ramp_Circle.mono : ∀ a0 a1 k,LeO (ramp_Circle.f k a0 a1) (ramp_Circle.f (k + 1) a0 a1):=by
  intro a0 a1 k
  unfold ramp_Circle.f
  repeat' first
      | (with_reducible exact fix_Root.mono _ _)
      | (with_reducible exact LeO.refl _)
      | (with_reducible exact LeO.none _)
      | (with_reducible refine LeO.ite ?_ ?_)
      | (with_reducible refine LeO.bind ?_ (fun _ => ?_))
      | exact fix_Root.mono _ _
      | exact LeO.none _
      | refine LeO.ite ?_ ?_
      | refine LeO.bind ?_ (fun _ => ?_)
set_option maxHeartbeats 8000000 in
set_option maxRecDepth 100000 in
theorem ramp_Circle.calls (k : Nat) (a0_0 : Int) (a0_1 : Int) (r : Int) (w : World) (h : ramp_Circle.f k a0_0 a0_1 = some r) :
    Calls Try.prog 55 #[.agg #[.int .i64 a0_0,.int .i64 a0_1]] w fun e w' => e = .returned (.int .i64 r) ∧ Below w.heap.size w w':=by
  have hu37:=Try.underlying37;have HB:=am (Below.refl w.heap.size w);have H : ((fix_Root.f k (wrap64 ((wrap64 ((mn (mx a0_0 (-1073741824)) 1073741824) * (mn (mx a0_0 (-1073741824)) 1073741824))) + (wrap64 ((mn (mx a0_1 (-1073741824)) 1073741824) * (mn (mx a0_1 (-1073741824)) 1073741824)))))).bind fun t274 => (some (wrap64 (Int.tdiv t274 64)))) = some r:=h;clear h;obtain ⟨ji2,hji2⟩ : ∃ j_ : Int,(mx a0_0 (-1073741824)) = j_:=⟨_,rfl⟩
  replace H : ((fix_Root.f k (wrap64 ((wrap64 ((mn (ji2) 1073741824) * (mn (ji2) 1073741824))) + (wrap64 ((mn (mx a0_1 (-1073741824)) 1073741824) * (mn (mx a0_1 (-1073741824)) 1073741824)))))).bind fun t274 => (some (wrap64 (Int.tdiv t274 64)))) = some r:=by first|(rw [hji2] at H;exact H)|(simp only [hji2] at H ⊢;exact H)
  have hji2_ : (if a0_0 < (-1073741824) then (-1073741824) else a0_0) = ji2:=hji2;obtain ⟨ji3,hji3⟩ : ∃ j_ : Int,(mn (ji2) 1073741824) = j_:=⟨_,rfl⟩
  replace H : ((fix_Root.f k (wrap64 ((wrap64 ((ji3) * (ji3))) + (wrap64 ((mn (mx a0_1 (-1073741824)) 1073741824) * (mn (mx a0_1 (-1073741824)) 1073741824)))))).bind fun t274 => (some (wrap64 (Int.tdiv t274 64)))) = some r:=by first|(rw [hji3] at H;exact H)|(simp only [hji3] at H ⊢;exact H)
  have hji3_ : (if 1073741824 < (ji2) then 1073741824 else (ji2)) = ji3:=hji3;obtain ⟨ji4,hji4⟩ : ∃ j_ : Int,(mx a0_1 (-1073741824)) = j_:=⟨_,rfl⟩
  replace H : ((fix_Root.f k (wrap64 ((wrap64 ((ji3) * (ji3))) + (wrap64 ((mn (ji4) 1073741824) * (mn (ji4) 1073741824)))))).bind fun t274 => (some (wrap64 (Int.tdiv t274 64)))) = some r:=by first|(rw [hji4] at H;exact H)|(simp only [hji4] at H ⊢;exact H)
  have hji4_ : (if a0_1 < (-1073741824) then (-1073741824) else a0_1) = ji4:=hji4;obtain ⟨ji5,hji5⟩ : ∃ j_ : Int,(mn (ji4) 1073741824) = j_:=⟨_,rfl⟩
  replace H : ((fix_Root.f k (wrap64 ((wrap64 ((ji3) * (ji3))) + (wrap64 ((ji5) * (ji5)))))).bind fun t274 => (some (wrap64 (Int.tdiv t274 64)))) = some r:=by first|(rw [hji5] at H;exact H)|(simp only [hji5] at H ⊢;exact H)
  have hji5_ : (if 1073741824 < (ji4) then 1073741824 else (ji4)) = ji5:=hji5;replace H:=Option.bind_eq_some_iff.mp H;obtain ⟨t274,A60,H⟩:=H;replace H : (some (wrap64 (Int.tdiv t274 64))) = some r:=H;have A6:=am A60;clear A60;obtain rfl:=Option.some.inj H
  go_enter Try.func55,Try.ntmps55
  go_wp2_with (first|((with_reducible refine gate_dst (N:=1) rfl ?_);refine box_event ?hg (N:=1) ?hd (cs:=#[.int .i64 a0_0,.int .i64 a0_1]) (t:=37) ?hr ?_;(case hd => rfl);(case hg => rfl);(case hr => first|(go_simp;done)|(go_simp;rfl));intro gb273 hg w7 hbox hb;have BK273:=am (hbox);have GW273:=am ((by rw [hg];exact (sz (by repeat (first|(with_reducible first|exact HB.out|apply sa|apply sn|apply sd)|exact HB.out))) : w.heap.size ≤ gb273));have GE273:=am ((by rw [hg];exact (sz (by repeat (first|(with_reducible first|exact HB.out|apply sa|apply sn|apply sd)|exact HB.out))) : w.heap.size ≤ gb273));replace HB:=am (ss (by repeat (first|(with_reducible first|exact HB.out|apply sa|apply sn|apply sd)|exact HB.out)) hb);clear hb hbox hg;obtain ⟨hcz8_0,hcz8_1⟩:=cq2 BK273.out;obtain ⟨hfz8_0,hfz8_1⟩:=fq2 BK273.out)|(go_at_call 73;(with_reducible refine (fix_Root.calls k (wrap64 ((wrap64 ((ji3) * (ji3))) + (wrap64 ((ji5) * (ji5))))) t274 _ A6.out).mono ?_);rintro e w' ⟨rfl,⟨nd,rfl⟩⟩;(try first|exact ⟨rfl,_,World.drewN_drewN _ _ _⟩|exact ⟨rfl,_,Eq.trans (World.drewN_drewN _ _ _) (congrArg (World.drewN _) (Nat.add_assoc _ _ _))⟩)))
  repeat (go_quiet (first|((with_reducible refine gate_dst (N:=1) rfl ?_);refine box_event ?hg (N:=1) ?hd (cs:=#[.int .i64 a0_0,.int .i64 a0_1]) (t:=37) ?hr ?_;(case hd => rfl);(case hg => rfl);(case hr => first|(go_simp;done)|(go_simp;rfl));intro gb273 hg w7 hbox hb;have n0_:=am (ss (by repeat (first|(with_reducible first|exact HB.out|apply sa|apply sn|apply sd)|exact HB.out)) hb);have n1_:=am (hbox);have n2_:=am ((by rw [hg];exact (sz (by repeat (first|(with_reducible first|exact HB.out|apply sa|apply sn|apply sd)|exact HB.out))) : w.heap.size ≤ gb273));have n3_:=am ((by rw [hg];exact (sz (by repeat (first|(with_reducible first|exact HB.out|apply sa|apply sn|apply sd)|exact HB.out))) : w.heap.size ≤ gb273));clear HB;have HB:=n0_;have BK273:=n1_;have GW273:=n2_;have GE273:=n3_;clear n0_ n1_ n2_ n3_;clear hb hbox hg;obtain ⟨hcz8_0,hcz8_1⟩:=cq2 BK273.out;obtain ⟨hfz8_0,hfz8_1⟩:=fq2 BK273.out)|(go_at_call 73;(with_reducible refine (fix_Root.calls k (wrap64 ((wrap64 ((ji3) * (ji3))) + (wrap64 ((ji5) * (ji5))))) t274 _ A6.out).mono ?_);rintro e w' ⟨rfl,⟨nd,rfl⟩⟩;(try first|exact ⟨rfl,_,World.drewN_drewN _ _ _⟩|exact ⟨rfl,_,Eq.trans (World.drewN_drewN _ _ _) (congrArg (World.drewN _) (Nat.add_assoc _ _ _))⟩)));try go_wp2_with (first|((with_reducible refine gate_dst (N:=1) rfl ?_);refine box_event ?hg (N:=1) ?hd (cs:=#[.int .i64 a0_0,.int .i64 a0_1]) (t:=37) ?hr ?_;(case hd => rfl);(case hg => rfl);(case hr => first|(go_simp;done)|(go_simp;rfl));intro gb273 hg w7 hbox hb;have n0_:=am (ss (by repeat (first|(with_reducible first|exact HB.out|apply sa|apply sn|apply sd)|exact HB.out)) hb);have n1_:=am (hbox);have n2_:=am ((by rw [hg];exact (sz (by repeat (first|(with_reducible first|exact HB.out|apply sa|apply sn|apply sd)|exact HB.out))) : w.heap.size ≤ gb273));have n3_:=am ((by rw [hg];exact (sz (by repeat (first|(with_reducible first|exact HB.out|apply sa|apply sn|apply sd)|exact HB.out))) : w.heap.size ≤ gb273));clear HB;have HB:=n0_;have BK273:=n1_;have GW273:=n2_;have GE273:=n3_;clear n0_ n1_ n2_ n3_;clear hb hbox hg;obtain ⟨hcz8_0,hcz8_1⟩:=cq2 BK273.out;obtain ⟨hfz8_0,hfz8_1⟩:=fq2 BK273.out)|(go_at_call 73;(with_reducible refine (fix_Root.calls k (wrap64 ((wrap64 ((ji3) * (ji3))) + (wrap64 ((ji5) * (ji5))))) t274 _ A6.out).mono ?_);rintro e w' ⟨rfl,⟨nd,rfl⟩⟩;(try first|exact ⟨rfl,_,World.drewN_drewN _ _ _⟩|exact ⟨rfl,_,Eq.trans (World.drewN_drewN _ _ _) (congrArg (World.drewN _) (Nat.add_assoc _ _ _))⟩))))
  go_ret
  exact ⟨by first|rfl|(simp [errW_none,errW_some] <;> rfl)|(simp only [← hji2, ← hji3, ← hji4, ← hji5];first|rfl|(simp [errW_none,errW_some] <;> rfl))|(simp [*,errW_none,errW_some] <;> rfl),by repeat (first|(with_reducible first|exact HB.out|apply sa|apply sn|apply sd|refine sx ?_ GE273.out)|exact HB.out)⟩
end Go.Proofs.Ytmdfcinjmlagcaa.P
