/- Printed by printx.py (wip/tool) out of the translation: plain functions that tell what the program answers,and the proofs that the program comes to these answers,for all arguments of their kinds. Lean checks it. -/
import Derived.Test.YtnofihkmgedbfaaShort
import Derived.Test.YtnofihkmgedbfaaPx0
import Derived.Test.YtnofihkmgedbfaaPx6
import Derived.Test.YtnofihkmgedbfaaPx7
namespace Go.Proofs.Ytnofihkmgedbfaa.P
open Go.RowKit Go.Proofs.YtnofihkmgedbfaaW.PrintWords Go.Proofs.YtnofihkmgedbfaaW.PrintLast Go.Proofs.YtnofihkmgedbfaaW.PrintMore
attribute [local go_sem] max2_int min2_int max_two min_two max_three min_three max_four min_four max_five min_five max_six min_six   -- for this text's walks alone
set_option linter.unusedVariables false
set_option linter.unusedSimpArgs false

/-! ### celluloidref07_in: function 43 -/
def celluloidref07_in.f (a0 : Int) (a1 : Int) : Option (Bool):=if a0 ≥ (wrap64 (-a1)) then (some (decide (a0 ≤ a1))) else (some false)
set_option maxHeartbeats 8000000 in
set_option maxRecDepth 100000 in
theorem celluloidref07_in.calls (a0 : Int) (a1 : Int) (r : Bool) (w : World) (h : celluloidref07_in.f a0 a1 = some r) :
    Calls Try.prog 43 #[.int .i64 a0,.int .i64 a1] w fun e w' => e = .returned (.bool r) ∧ Drawn0 w w':=by
  have H : (if a0 ≥ (wrap64 (-a1)) then (some (decide (a0 ≤ a1))) else (some false)) = some r:=h;clear h
  by_cases c3 : a0 ≥ (wrap64 (-a1))
  · rw [if_pos c3] at H
    have c3b0 : decide ((wrap64 (-a1)) ≤ a0) = true:=decide_eq_true c3;clear c3;obtain rfl:=Option.some.inj H
    go_enter Try.func43,Try.ntmps43
    go_wp2
    go_ret
    exact ⟨by first|rfl|(simp;done)|(simp [*];done),by repeat (first|exact Drawn0.refl _|apply Drawn0.step)⟩
  · rw [if_neg c3] at H
    have c3b0 : decide ((wrap64 (-a1)) ≤ a0) = false:=decide_eq_false c3;clear c3;obtain rfl:=Option.some.inj H
    go_enter Try.func43,Try.ntmps43
    go_wp2
    go_ret
    exact ⟨by first|rfl|(simp;done)|(simp [*];done),by repeat (first|exact Drawn0.refl _|apply Drawn0.step)⟩

/-! ### celluloidref07_Matrix: function 32 -/
def celluloidref07_Matrix.f (a0_0 : Int) (a0_1 : Int) (a0_2 : Int) (a0_3 : Int) (a0_4 : Int) (a0_5 : Int) : Option (Bool):=(celluloidref07_in.f a0_0 4194304).bind fun t312 => (if t312 = true then ((celluloidref07_in.f a0_1 4194304).bind fun t313 => (if t313 = true then ((celluloidref07_in.f a0_2 4194304).bind fun t314 => (if t314 = true then ((celluloidref07_in.f a0_3 4194304).bind fun t315 => (if t315 = true then ((celluloidref07_in.f a0_4 1048576).bind fun t316 => (if t316 = true then ((celluloidref07_in.f a0_5 1048576).bind fun t317 => (some t317)) else (some false))) else (some false))) else (some false))) else (some false))) else (some false))
set_option maxHeartbeats 8000000 in
set_option maxRecDepth 100000 in
theorem celluloidref07_Matrix.calls (a0_0 : Int) (a0_1 : Int) (a0_2 : Int) (a0_3 : Int) (a0_4 : Int) (a0_5 : Int) (r : Bool) (w : World) (h : celluloidref07_Matrix.f a0_0 a0_1 a0_2 a0_3 a0_4 a0_5 = some r) :
    Calls Try.prog 32 #[.agg #[.int .i64 a0_0,.int .i64 a0_1,.int .i64 a0_2,.int .i64 a0_3,.int .i64 a0_4,.int .i64 a0_5]] w fun e w' => e = .returned (.bool r) ∧ Below w.heap.size w w':=by
  have hu43:=Try.underlying43;have HB:=am (Below.refl w.heap.size w);have H : ((celluloidref07_in.f a0_0 4194304).bind fun t312 => (if t312 = true then ((celluloidref07_in.f a0_1 4194304).bind fun t313 => (if t313 = true then ((celluloidref07_in.f a0_2 4194304).bind fun t314 => (if t314 = true then ((celluloidref07_in.f a0_3 4194304).bind fun t315 => (if t315 = true then ((celluloidref07_in.f a0_4 1048576).bind fun t316 => (if t316 = true then ((celluloidref07_in.f a0_5 1048576).bind fun t317 => (some t317)) else (some false))) else (some false))) else (some false))) else (some false))) else (some false))) = some r:=h;clear h;replace H:=Option.bind_eq_some_iff.mp H;obtain ⟨t312,A20,H⟩:=H;replace H : (if t312 = true then ((celluloidref07_in.f a0_1 4194304).bind fun t313 => (if t313 = true then ((celluloidref07_in.f a0_2 4194304).bind fun t314 => (if t314 = true then ((celluloidref07_in.f a0_3 4194304).bind fun t315 => (if t315 = true then ((celluloidref07_in.f a0_4 1048576).bind fun t316 => (if t316 = true then ((celluloidref07_in.f a0_5 1048576).bind fun t317 => (some t317)) else (some false))) else (some false))) else (some false))) else (some false))) else (some false)) = some r:=H;have A2:=am A20;clear A20
  by_cases c3 : t312 = true
  · subst c3
    have H1 : ((celluloidref07_in.f a0_1 4194304).bind fun t313 => (if t313 = true then ((celluloidref07_in.f a0_2 4194304).bind fun t314 => (if t314 = true then ((celluloidref07_in.f a0_3 4194304).bind fun t315 => (if t315 = true then ((celluloidref07_in.f a0_4 1048576).bind fun t316 => (if t316 = true then ((celluloidref07_in.f a0_5 1048576).bind fun t317 => (some t317)) else (some false))) else (some false))) else (some false))) else (some false))) = some r:=by rw [if_pos rfl] at H;exact H
    clear H;have H:=H1;clear H1;replace H:=Option.bind_eq_some_iff.mp H;obtain ⟨t313,A40,H⟩:=H;replace H : (if t313 = true then ((celluloidref07_in.f a0_2 4194304).bind fun t314 => (if t314 = true then ((celluloidref07_in.f a0_3 4194304).bind fun t315 => (if t315 = true then ((celluloidref07_in.f a0_4 1048576).bind fun t316 => (if t316 = true then ((celluloidref07_in.f a0_5 1048576).bind fun t317 => (some t317)) else (some false))) else (some false))) else (some false))) else (some false)) = some r:=H;have A4:=am A40;clear A40
    by_cases c5 : t313 = true
    · subst c5
      have H1 : ((celluloidref07_in.f a0_2 4194304).bind fun t314 => (if t314 = true then ((celluloidref07_in.f a0_3 4194304).bind fun t315 => (if t315 = true then ((celluloidref07_in.f a0_4 1048576).bind fun t316 => (if t316 = true then ((celluloidref07_in.f a0_5 1048576).bind fun t317 => (some t317)) else (some false))) else (some false))) else (some false))) = some r:=by rw [if_pos rfl] at H;exact H
      clear H;have H:=H1;clear H1;replace H:=Option.bind_eq_some_iff.mp H;obtain ⟨t314,A60,H⟩:=H;replace H : (if t314 = true then ((celluloidref07_in.f a0_3 4194304).bind fun t315 => (if t315 = true then ((celluloidref07_in.f a0_4 1048576).bind fun t316 => (if t316 = true then ((celluloidref07_in.f a0_5 1048576).bind fun t317 => (some t317)) else (some false))) else (some false))) else (some false)) = some r:=H;have A6:=am A60;clear A60
      by_cases c7 : t314 = true
      · subst c7
        have H1 : ((celluloidref07_in.f a0_3 4194304).bind fun t315 => (if t315 = true then ((celluloidref07_in.f a0_4 1048576).bind fun t316 => (if t316 = true then ((celluloidref07_in.f a0_5 1048576).bind fun t317 => (some t317)) else (some false))) else (some false))) = some r:=by rw [if_pos rfl] at H;exact H
        clear H;have H:=H1;clear H1;replace H:=Option.bind_eq_some_iff.mp H;obtain ⟨t315,A80,H⟩:=H;replace H : (if t315 = true then ((celluloidref07_in.f a0_4 1048576).bind fun t316 => (if t316 = true then ((celluloidref07_in.f a0_5 1048576).bind fun t317 => (some t317)) else (some false))) else (some false)) = some r:=H;have A8:=am A80;clear A80
        by_cases c9 : t315 = true
        · subst c9
          have H1 : ((celluloidref07_in.f a0_4 1048576).bind fun t316 => (if t316 = true then ((celluloidref07_in.f a0_5 1048576).bind fun t317 => (some t317)) else (some false))) = some r:=by rw [if_pos rfl] at H;exact H
          clear H;have H:=H1;clear H1;replace H:=Option.bind_eq_some_iff.mp H;obtain ⟨t316,A100,H⟩:=H;replace H : (if t316 = true then ((celluloidref07_in.f a0_5 1048576).bind fun t317 => (some t317)) else (some false)) = some r:=H;have A10:=am A100;clear A100
          by_cases c11 : t316 = true
          · subst c11
            have H1 : ((celluloidref07_in.f a0_5 1048576).bind fun t317 => (some t317)) = some r:=by rw [if_pos rfl] at H;exact H
            clear H;have H:=H1;clear H1;replace H:=Option.bind_eq_some_iff.mp H;obtain ⟨t317,A120,H⟩:=H;replace H : (some t317) = some r:=H;have A12:=am A120;clear A120;obtain rfl:=Option.some.inj H
            go_enter Try.func32,Try.ntmps32
            go_wp2_with (first|((with_reducible refine gate_dst (N:=1) rfl ?_);refine box_event ?hg (N:=1) ?hd (cs:=#[.int .i64 a0_0,.int .i64 a0_1,.int .i64 a0_2,.int .i64 a0_3,.int .i64 a0_4,.int .i64 a0_5]) (t:=43) ?hr ?_;(case hd => rfl);(case hg => rfl);(case hr => first|(go_simp;done)|(go_simp;rfl));intro gb311 hg w13 hbox hb;have BK311:=am (hbox);have GW311:=am ((by rw [hg];exact (sz (by repeat (first|(with_reducible first|exact HB.out|apply sa|apply sn|apply sd)|exact HB.out))) : w.heap.size ≤ gb311));have GE311:=am ((by rw [hg];exact (sz (by repeat (first|(with_reducible first|exact HB.out|apply sa|apply sn|apply sd)|exact HB.out))) : w.heap.size ≤ gb311));replace HB:=am (ss (by repeat (first|(with_reducible first|exact HB.out|apply sa|apply sn|apply sd)|exact HB.out)) hb);clear hb hbox hg;obtain ⟨hcz14_0,hcz14_1,hcz14_2,hcz14_3,hcz14_4,hcz14_5⟩:=cq6 BK311.out;obtain ⟨hfz14_0,hfz14_1,hfz14_2,hfz14_3,hfz14_4,hfz14_5⟩:=fq6 BK311.out)|((with_reducible refine gate_callee (f:=43) rfl ?_);refine goesL_ (some 5) rfl rfl Try.func43 (by kernel_rfl) rfl #[.int .i64 a0_0,.int .i64 4194304] rfl (by (try simp only [List.map_toArray,List.map_cons,List.map_nil]);first|done|rfl|(simp only [List.length_drop,List.length_take];rfl)) ?_;(with_reducible refine (celluloidref07_in.calls a0_0 4194304 true _ A2.out).mono ?_);rintro e w' ⟨rfl,⟨nd,rfl⟩⟩;refine ⟨_,rfl,?_⟩)|(go_at_call 43;(with_reducible refine (celluloidref07_in.calls a0_1 4194304 true _ A4.out).mono ?_);rintro e w' ⟨rfl,⟨nd,rfl⟩⟩)|(go_at_call 43;(with_reducible refine (celluloidref07_in.calls a0_2 4194304 true _ A6.out).mono ?_);rintro e w' ⟨rfl,⟨nd,rfl⟩⟩)|(go_at_call 43;(with_reducible refine (celluloidref07_in.calls a0_3 4194304 true _ A8.out).mono ?_);rintro e w' ⟨rfl,⟨nd,rfl⟩⟩)|(go_at_call 43;(with_reducible refine (celluloidref07_in.calls a0_4 1048576 true _ A10.out).mono ?_);rintro e w' ⟨rfl,⟨nd,rfl⟩⟩)|(go_at_call 43;(with_reducible refine (celluloidref07_in.calls a0_5 1048576 t317 _ A12.out).mono ?_);rintro e w' ⟨rfl,⟨nd,rfl⟩⟩))
            go_ret
            exact ⟨by first|rfl|(simp [errW_none,errW_some] <;> rfl)|(simp [*,errW_none,errW_some] <;> rfl),by repeat (first|(with_reducible first|exact HB.out|apply sa|apply sn|apply sd|refine sx ?_ GE311.out)|exact HB.out)⟩
          · replace c11:=Bool.eq_false_iff.mpr c11
            subst c11
            have H1 : (some false) = some r:=by rw [if_neg (show ¬ (false = true) by decide)] at H;exact H
            clear H;have H:=H1;clear H1;obtain rfl:=Option.some.inj H
            go_enter Try.func32,Try.ntmps32
            go_wp2_with (first|((with_reducible refine gate_dst (N:=1) rfl ?_);refine box_event ?hg (N:=1) ?hd (cs:=#[.int .i64 a0_0,.int .i64 a0_1,.int .i64 a0_2,.int .i64 a0_3,.int .i64 a0_4,.int .i64 a0_5]) (t:=43) ?hr ?_;(case hd => rfl);(case hg => rfl);(case hr => first|(go_simp;done)|(go_simp;rfl));intro gb311 hg w15 hbox hb;have BK311:=am (hbox);have GW311:=am ((by rw [hg];exact (sz (by repeat (first|(with_reducible first|exact HB.out|apply sa|apply sn|apply sd)|exact HB.out))) : w.heap.size ≤ gb311));have GE311:=am ((by rw [hg];exact (sz (by repeat (first|(with_reducible first|exact HB.out|apply sa|apply sn|apply sd)|exact HB.out))) : w.heap.size ≤ gb311));replace HB:=am (ss (by repeat (first|(with_reducible first|exact HB.out|apply sa|apply sn|apply sd)|exact HB.out)) hb);clear hb hbox hg;obtain ⟨hcz16_0,hcz16_1,hcz16_2,hcz16_3,hcz16_4,hcz16_5⟩:=cq6 BK311.out;obtain ⟨hfz16_0,hfz16_1,hfz16_2,hfz16_3,hfz16_4,hfz16_5⟩:=fq6 BK311.out)|((with_reducible refine gate_callee (f:=43) rfl ?_);refine goesL_ (some 5) rfl rfl Try.func43 (by kernel_rfl) rfl #[.int .i64 a0_0,.int .i64 4194304] rfl (by (try simp only [List.map_toArray,List.map_cons,List.map_nil]);first|done|rfl|(simp only [List.length_drop,List.length_take];rfl)) ?_;(with_reducible refine (celluloidref07_in.calls a0_0 4194304 true _ A2.out).mono ?_);rintro e w' ⟨rfl,⟨nd,rfl⟩⟩;refine ⟨_,rfl,?_⟩)|(go_at_call 43;(with_reducible refine (celluloidref07_in.calls a0_1 4194304 true _ A4.out).mono ?_);rintro e w' ⟨rfl,⟨nd,rfl⟩⟩)|(go_at_call 43;(with_reducible refine (celluloidref07_in.calls a0_2 4194304 true _ A6.out).mono ?_);rintro e w' ⟨rfl,⟨nd,rfl⟩⟩)|(go_at_call 43;(with_reducible refine (celluloidref07_in.calls a0_3 4194304 true _ A8.out).mono ?_);rintro e w' ⟨rfl,⟨nd,rfl⟩⟩)|(go_at_call 43;(with_reducible refine (celluloidref07_in.calls a0_4 1048576 false _ A10.out).mono ?_);rintro e w' ⟨rfl,⟨nd,rfl⟩⟩))
            go_ret
            exact ⟨by first|rfl|(simp [errW_none,errW_some] <;> rfl)|(simp [*,errW_none,errW_some] <;> rfl),by repeat (first|(with_reducible first|exact HB.out|apply sa|apply sn|apply sd|refine sx ?_ GE311.out)|exact HB.out)⟩
        · replace c9:=Bool.eq_false_iff.mpr c9
          subst c9
          have H1 : (some false) = some r:=by rw [if_neg (show ¬ (false = true) by decide)] at H;exact H
          clear H;have H:=H1;clear H1;obtain rfl:=Option.some.inj H
          go_enter Try.func32,Try.ntmps32
          go_wp2_with (first|((with_reducible refine gate_dst (N:=1) rfl ?_);refine box_event ?hg (N:=1) ?hd (cs:=#[.int .i64 a0_0,.int .i64 a0_1,.int .i64 a0_2,.int .i64 a0_3,.int .i64 a0_4,.int .i64 a0_5]) (t:=43) ?hr ?_;(case hd => rfl);(case hg => rfl);(case hr => first|(go_simp;done)|(go_simp;rfl));intro gb311 hg w17 hbox hb;have BK311:=am (hbox);have GW311:=am ((by rw [hg];exact (sz (by repeat (first|(with_reducible first|exact HB.out|apply sa|apply sn|apply sd)|exact HB.out))) : w.heap.size ≤ gb311));have GE311:=am ((by rw [hg];exact (sz (by repeat (first|(with_reducible first|exact HB.out|apply sa|apply sn|apply sd)|exact HB.out))) : w.heap.size ≤ gb311));replace HB:=am (ss (by repeat (first|(with_reducible first|exact HB.out|apply sa|apply sn|apply sd)|exact HB.out)) hb);clear hb hbox hg;obtain ⟨hcz18_0,hcz18_1,hcz18_2,hcz18_3,hcz18_4,hcz18_5⟩:=cq6 BK311.out;obtain ⟨hfz18_0,hfz18_1,hfz18_2,hfz18_3,hfz18_4,hfz18_5⟩:=fq6 BK311.out)|((with_reducible refine gate_callee (f:=43) rfl ?_);refine goesL_ (some 5) rfl rfl Try.func43 (by kernel_rfl) rfl #[.int .i64 a0_0,.int .i64 4194304] rfl (by (try simp only [List.map_toArray,List.map_cons,List.map_nil]);first|done|rfl|(simp only [List.length_drop,List.length_take];rfl)) ?_;(with_reducible refine (celluloidref07_in.calls a0_0 4194304 true _ A2.out).mono ?_);rintro e w' ⟨rfl,⟨nd,rfl⟩⟩;refine ⟨_,rfl,?_⟩)|(go_at_call 43;(with_reducible refine (celluloidref07_in.calls a0_1 4194304 true _ A4.out).mono ?_);rintro e w' ⟨rfl,⟨nd,rfl⟩⟩)|(go_at_call 43;(with_reducible refine (celluloidref07_in.calls a0_2 4194304 true _ A6.out).mono ?_);rintro e w' ⟨rfl,⟨nd,rfl⟩⟩)|(go_at_call 43;(with_reducible refine (celluloidref07_in.calls a0_3 4194304 false _ A8.out).mono ?_);rintro e w' ⟨rfl,⟨nd,rfl⟩⟩))
          go_ret
          exact ⟨by first|rfl|(simp [errW_none,errW_some] <;> rfl)|(simp [*,errW_none,errW_some] <;> rfl),by repeat (first|(with_reducible first|exact HB.out|apply sa|apply sn|apply sd|refine sx ?_ GE311.out)|exact HB.out)⟩
      · replace c7:=Bool.eq_false_iff.mpr c7
        subst c7
        have H1 : (some false) = some r:=by rw [if_neg (show ¬ (false = true) by decide)] at H;exact H
        clear H;have H:=H1;clear H1;obtain rfl:=Option.some.inj H
        go_enter Try.func32,Try.ntmps32
        go_wp2_with (first|((with_reducible refine gate_dst (N:=1) rfl ?_);refine box_event ?hg (N:=1) ?hd (cs:=#[.int .i64 a0_0,.int .i64 a0_1,.int .i64 a0_2,.int .i64 a0_3,.int .i64 a0_4,.int .i64 a0_5]) (t:=43) ?hr ?_;(case hd => rfl);(case hg => rfl);(case hr => first|(go_simp;done)|(go_simp;rfl));intro gb311 hg w19 hbox hb;have BK311:=am (hbox);have GW311:=am ((by rw [hg];exact (sz (by repeat (first|(with_reducible first|exact HB.out|apply sa|apply sn|apply sd)|exact HB.out))) : w.heap.size ≤ gb311));have GE311:=am ((by rw [hg];exact (sz (by repeat (first|(with_reducible first|exact HB.out|apply sa|apply sn|apply sd)|exact HB.out))) : w.heap.size ≤ gb311));replace HB:=am (ss (by repeat (first|(with_reducible first|exact HB.out|apply sa|apply sn|apply sd)|exact HB.out)) hb);clear hb hbox hg;obtain ⟨hcz20_0,hcz20_1,hcz20_2,hcz20_3,hcz20_4,hcz20_5⟩:=cq6 BK311.out;obtain ⟨hfz20_0,hfz20_1,hfz20_2,hfz20_3,hfz20_4,hfz20_5⟩:=fq6 BK311.out)|((with_reducible refine gate_callee (f:=43) rfl ?_);refine goesL_ (some 5) rfl rfl Try.func43 (by kernel_rfl) rfl #[.int .i64 a0_0,.int .i64 4194304] rfl (by (try simp only [List.map_toArray,List.map_cons,List.map_nil]);first|done|rfl|(simp only [List.length_drop,List.length_take];rfl)) ?_;(with_reducible refine (celluloidref07_in.calls a0_0 4194304 true _ A2.out).mono ?_);rintro e w' ⟨rfl,⟨nd,rfl⟩⟩;refine ⟨_,rfl,?_⟩)|(go_at_call 43;(with_reducible refine (celluloidref07_in.calls a0_1 4194304 true _ A4.out).mono ?_);rintro e w' ⟨rfl,⟨nd,rfl⟩⟩)|(go_at_call 43;(with_reducible refine (celluloidref07_in.calls a0_2 4194304 false _ A6.out).mono ?_);rintro e w' ⟨rfl,⟨nd,rfl⟩⟩))
        go_ret
        exact ⟨by first|rfl|(simp [errW_none,errW_some] <;> rfl)|(simp [*,errW_none,errW_some] <;> rfl),by repeat (first|(with_reducible first|exact HB.out|apply sa|apply sn|apply sd|refine sx ?_ GE311.out)|exact HB.out)⟩
    · replace c5:=Bool.eq_false_iff.mpr c5
      subst c5
      have H1 : (some false) = some r:=by rw [if_neg (show ¬ (false = true) by decide)] at H;exact H
      clear H;have H:=H1;clear H1;obtain rfl:=Option.some.inj H
      go_enter Try.func32,Try.ntmps32
      go_wp2_with (first|((with_reducible refine gate_dst (N:=1) rfl ?_);refine box_event ?hg (N:=1) ?hd (cs:=#[.int .i64 a0_0,.int .i64 a0_1,.int .i64 a0_2,.int .i64 a0_3,.int .i64 a0_4,.int .i64 a0_5]) (t:=43) ?hr ?_;(case hd => rfl);(case hg => rfl);(case hr => first|(go_simp;done)|(go_simp;rfl));intro gb311 hg w21 hbox hb;have BK311:=am (hbox);have GW311:=am ((by rw [hg];exact (sz (by repeat (first|(with_reducible first|exact HB.out|apply sa|apply sn|apply sd)|exact HB.out))) : w.heap.size ≤ gb311));have GE311:=am ((by rw [hg];exact (sz (by repeat (first|(with_reducible first|exact HB.out|apply sa|apply sn|apply sd)|exact HB.out))) : w.heap.size ≤ gb311));replace HB:=am (ss (by repeat (first|(with_reducible first|exact HB.out|apply sa|apply sn|apply sd)|exact HB.out)) hb);clear hb hbox hg;obtain ⟨hcz22_0,hcz22_1,hcz22_2,hcz22_3,hcz22_4,hcz22_5⟩:=cq6 BK311.out;obtain ⟨hfz22_0,hfz22_1,hfz22_2,hfz22_3,hfz22_4,hfz22_5⟩:=fq6 BK311.out)|((with_reducible refine gate_callee (f:=43) rfl ?_);refine goesL_ (some 5) rfl rfl Try.func43 (by kernel_rfl) rfl #[.int .i64 a0_0,.int .i64 4194304] rfl (by (try simp only [List.map_toArray,List.map_cons,List.map_nil]);first|done|rfl|(simp only [List.length_drop,List.length_take];rfl)) ?_;(with_reducible refine (celluloidref07_in.calls a0_0 4194304 true _ A2.out).mono ?_);rintro e w' ⟨rfl,⟨nd,rfl⟩⟩;refine ⟨_,rfl,?_⟩)|(go_at_call 43;(with_reducible refine (celluloidref07_in.calls a0_1 4194304 false _ A4.out).mono ?_);rintro e w' ⟨rfl,⟨nd,rfl⟩⟩))
      go_ret
      exact ⟨by first|rfl|(simp [errW_none,errW_some] <;> rfl)|(simp [*,errW_none,errW_some] <;> rfl),by repeat (first|(with_reducible first|exact HB.out|apply sa|apply sn|apply sd|refine sx ?_ GE311.out)|exact HB.out)⟩
  · replace c3:=Bool.eq_false_iff.mpr c3
    subst c3
    have H1 : (some false) = some r:=by rw [if_neg (show ¬ (false = true) by decide)] at H;exact H
    clear H;have H:=H1;clear H1;obtain rfl:=Option.some.inj H
    go_enter Try.func32,Try.ntmps32
    go_wp2_with (first|((with_reducible refine gate_dst (N:=1) rfl ?_);refine box_event ?hg (N:=1) ?hd (cs:=#[.int .i64 a0_0,.int .i64 a0_1,.int .i64 a0_2,.int .i64 a0_3,.int .i64 a0_4,.int .i64 a0_5]) (t:=43) ?hr ?_;(case hd => rfl);(case hg => rfl);(case hr => first|(go_simp;done)|(go_simp;rfl));intro gb311 hg w23 hbox hb;have BK311:=am (hbox);have GW311:=am ((by rw [hg];exact (sz (by repeat (first|(with_reducible first|exact HB.out|apply sa|apply sn|apply sd)|exact HB.out))) : w.heap.size ≤ gb311));have GE311:=am ((by rw [hg];exact (sz (by repeat (first|(with_reducible first|exact HB.out|apply sa|apply sn|apply sd)|exact HB.out))) : w.heap.size ≤ gb311));replace HB:=am (ss (by repeat (first|(with_reducible first|exact HB.out|apply sa|apply sn|apply sd)|exact HB.out)) hb);clear hb hbox hg;obtain ⟨hcz24_0,hcz24_1,hcz24_2,hcz24_3,hcz24_4,hcz24_5⟩:=cq6 BK311.out;obtain ⟨hfz24_0,hfz24_1,hfz24_2,hfz24_3,hfz24_4,hfz24_5⟩:=fq6 BK311.out)|((with_reducible refine gate_callee (f:=43) rfl ?_);refine goesL_ (some 5) rfl rfl Try.func43 (by kernel_rfl) rfl #[.int .i64 a0_0,.int .i64 4194304] rfl (by (try simp only [List.map_toArray,List.map_cons,List.map_nil]);first|done|rfl|(simp only [List.length_drop,List.length_take];rfl)) ?_;(with_reducible refine (celluloidref07_in.calls a0_0 4194304 false _ A2.out).mono ?_);rintro e w' ⟨rfl,⟨nd,rfl⟩⟩;refine ⟨_,rfl,?_⟩))
    go_ret
    exact ⟨by first|rfl|(simp [errW_none,errW_some] <;> rfl)|(simp [*,errW_none,errW_some] <;> rfl),by repeat (first|(with_reducible first|exact HB.out|apply sa|apply sn|apply sd|refine sx ?_ GE311.out)|exact HB.out)⟩

/-! ### celluloidref01_Root: function 44 -/
def celluloidref01_Root.l0 : Nat → Int → Int → Int → Option (Int)
  | 0,_,_,_ => none
  | k + 1,x0,x3,x4 => if x4 > 0 then (if (wrap64 (x3 + x4)) ≤ 3037000499 then (if (wrap64 ((wrap64 (x3 + x4)) * (wrap64 (x3 + x4)))) ≤ x0 then (celluloidref01_Root.l0 k x0 (wrap64 (x3 + x4)) (wrap64 (Int.tdiv x4 2))) else (celluloidref01_Root.l0 k x0 x3 (wrap64 (Int.tdiv x4 2)))) else (celluloidref01_Root.l0 k x0 x3 (wrap64 (Int.tdiv x4 2)))) else (some x3)
def celluloidref01_Root.f (k : Nat) (a0 : Int) : Option (Int):=celluloidref01_Root.l0 k a0 0 2147483648
theorem celluloidref01_Root.mono_l : ∀ k,(∀ y0 y1 y2,LeO (celluloidref01_Root.l0 k y0 y1 y2) (celluloidref01_Root.l0 (k + 1) y0 y1 y2))
  | 0 => fun _ _ _ r h => by simp [celluloidref01_Root.l0] at h
  | k + 1 => by
    have ih0:=celluloidref01_Root.mono_l k
    · intro y0 y1 y2
      unfold celluloidref01_Root.l0
      repeat' first
      | (with_reducible exact ih0 _ _ _)
      | (with_reducible exact LeO.refl _)
      | (with_reducible exact LeO.none _)
      | (with_reducible refine LeO.ite ?_ ?_)
      | (with_reducible refine LeO.bind ?_ (fun _ => ?_))
      | exact ih0 _ _ _
      | exact LeO.none _
      | refine LeO.ite ?_ ?_
      | refine LeO.bind ?_ (fun _ => ?_)
theorem celluloidref01_Root.mono : ∀ a0 k,LeO (celluloidref01_Root.f k a0) (celluloidref01_Root.f (k + 1) a0):=by
  intro a0 k
  have ih0:=celluloidref01_Root.mono_l k
  unfold celluloidref01_Root.f
  repeat' first
      | (with_reducible exact ih0 _ _ _)
      | (with_reducible exact LeO.refl _)
      | (with_reducible exact LeO.none _)
      | (with_reducible refine LeO.ite ?_ ?_)
      | (with_reducible refine LeO.bind ?_ (fun _ => ?_))
      | exact ih0 _ _ _
      | exact LeO.none _
      | refine LeO.ite ?_ ?_
      | refine LeO.bind ?_ (fun _ => ?_)
set_option maxHeartbeats 8000000 in
set_option maxRecDepth 100000 in
theorem celluloidref01_Root.calls (k : Nat) (a0 : Int) (r : Int) (w : World) (h : celluloidref01_Root.f k a0 = some r) :
    Calls Try.prog 44 #[.int .i64 a0] w fun e w' => e = .returned (.int .i64 r) ∧ Drawn0 w w':=by
  have H : (celluloidref01_Root.l0 k a0 0 2147483648) = some r:=h;clear h;have H':=am H;clear H
  go_enter Try.func44,Try.ntmps44
  go_wp2
  go_loopg [3,4] k (fun kq v3 v4 w' => ∃ (x3_1 : Int) (x4_1 : Int),v3 = .int .i64 x3_1 ∧ v4 = .int .i64 x4_1 ∧ Aside0 (celluloidref01_Root.l0 kq a0 x3_1 x4_1 = some r) ∧ Aside0 (kq ≤ k) ∧ Drawn0 w w')
  case atStart => exact ⟨(0),(2147483648),(by first|rfl|(simp;done)|(simp [*];done)),(by first|rfl|(simp;done)|(simp [*];done)),H',⟨Nat.le_refl _⟩,by repeat (first|exact Drawn0.refl _|apply Drawn0.step)⟩
  case round =>
    clear H';obtain ⟨x3_1,x4_1,rfl,rfl,HA,HK1,⟨m1,rfl⟩⟩:=hrel
    cases gk with
    | zero => exact absurd HA.out (by simp [celluloidref01_Root.l0])
    | succ k1 =>
      have H:=HA.out;clear HA;simp only [celluloidref01_Root.l0] at H
      by_cases c2 : x4_1 > 0
      · rw [if_pos c2] at H
        have c2b0 : decide (0 < x4_1) = true:=decide_eq_true c2;clear c2
        by_cases c3 : (wrap64 (x3_1 + x4_1)) ≤ 3037000499
        · rw [if_pos c3] at H
          have c3b0 : decide ((wrap64 (x3_1 + x4_1)) ≤ 3037000499) = true:=decide_eq_true c3;clear c3
          by_cases c4 : (wrap64 ((wrap64 (x3_1 + x4_1)) * (wrap64 (x3_1 + x4_1)))) ≤ a0
          · rw [if_pos c4] at H
            have c4b0 : decide ((wrap64 ((wrap64 (x3_1 + x4_1)) * (wrap64 (x3_1 + x4_1)))) ≤ a0) = true:=decide_eq_true c4;clear c4;have H':=am H;clear H
            go_wp2
            go_roundg k1
            case measure => have:=HK1.out;omega
            case rel => exact ⟨(wrap64 (x3_1 + x4_1)),(wrap64 (Int.tdiv x4_1 2)),(by first|rfl|(simp;done)|(simp [*];done)),(by first|rfl|(simp;done)|(simp [*];done)),H',⟨by have:=HK1.out;omega⟩,by repeat (first|exact Drawn0.refl _|apply Drawn0.step)⟩
          · rw [if_neg c4] at H
            have c4b0 : decide ((wrap64 ((wrap64 (x3_1 + x4_1)) * (wrap64 (x3_1 + x4_1)))) ≤ a0) = false:=decide_eq_false c4;clear c4;have H':=am H;clear H
            go_wp2
            go_roundg k1
            case measure => have:=HK1.out;omega
            case rel => exact ⟨(x3_1),(wrap64 (Int.tdiv x4_1 2)),(by first|rfl|(simp;done)|(simp [*];done)),(by first|rfl|(simp;done)|(simp [*];done)),H',⟨by have:=HK1.out;omega⟩,by repeat (first|exact Drawn0.refl _|apply Drawn0.step)⟩
        · rw [if_neg c3] at H
          have c3b0 : decide ((wrap64 (x3_1 + x4_1)) ≤ 3037000499) = false:=decide_eq_false c3;clear c3;have H':=am H;clear H
          go_wp2
          go_roundg k1
          case measure => have:=HK1.out;omega
          case rel => exact ⟨(x3_1),(wrap64 (Int.tdiv x4_1 2)),(by first|rfl|(simp;done)|(simp [*];done)),(by first|rfl|(simp;done)|(simp [*];done)),H',⟨by have:=HK1.out;omega⟩,by repeat (first|exact Drawn0.refl _|apply Drawn0.step)⟩
      · rw [if_neg c2] at H
        have c2b0 : decide (0 < x4_1) = false:=decide_eq_false c2;clear c2;obtain rfl:=Option.some.inj H
        go_wp2
        go_ret
        exact ⟨by first|rfl|(simp;done)|(simp [*];done),by repeat (first|exact Drawn0.refl _|apply Drawn0.step)⟩

/-! ### celluloidref14_Scale: function 33 -/
def celluloidref14_Scale.f (k : Nat) (a0_0 : Int) (a0_1 : Int) (a0_2 : Int) (a0_3 : Int) (a0_4 : Int) (a0_5 : Int) : Option (Int):=if (wrap64 ((wrap64 (a0_0 * a0_3)) - (wrap64 (a0_1 * a0_2)))) < 0 then ((celluloidref01_Root.f k (wrap64 (-(wrap64 ((wrap64 (a0_0 * a0_3)) - (wrap64 (a0_1 * a0_2))))))).bind fun t319 => (some t319)) else ((celluloidref01_Root.f k (wrap64 ((wrap64 (a0_0 * a0_3)) - (wrap64 (a0_1 * a0_2))))).bind fun t320 => (some t320))
theorem celluloidref14_Scale.mono : ∀ a0 a1 a2 a3 a4 a5 k,LeO (celluloidref14_Scale.f k a0 a1 a2 a3 a4 a5) (celluloidref14_Scale.f (k + 1) a0 a1 a2 a3 a4 a5):=by
  intro a0 a1 a2 a3 a4 a5 k
  unfold celluloidref14_Scale.f
  repeat' first
      | (with_reducible exact celluloidref01_Root.mono _ _)
      | (with_reducible exact LeO.refl _)
      | (with_reducible exact LeO.none _)
      | (with_reducible refine LeO.ite ?_ ?_)
      | (with_reducible refine LeO.bind ?_ (fun _ => ?_))
      | exact celluloidref01_Root.mono _ _
      | exact LeO.none _
      | refine LeO.ite ?_ ?_
      | refine LeO.bind ?_ (fun _ => ?_)
set_option maxHeartbeats 8000000 in
set_option maxRecDepth 100000 in
theorem celluloidref14_Scale.calls (k : Nat) (a0_0 : Int) (a0_1 : Int) (a0_2 : Int) (a0_3 : Int) (a0_4 : Int) (a0_5 : Int) (r : Int) (w : World) (h : celluloidref14_Scale.f k a0_0 a0_1 a0_2 a0_3 a0_4 a0_5 = some r) :
    Calls Try.prog 33 #[.agg #[.int .i64 a0_0,.int .i64 a0_1,.int .i64 a0_2,.int .i64 a0_3,.int .i64 a0_4,.int .i64 a0_5]] w fun e w' => e = .returned (.int .i64 r) ∧ Below w.heap.size w w':=by
  have hu43:=Try.underlying43;have HB:=am (Below.refl w.heap.size w);have H : (if (wrap64 ((wrap64 (a0_0 * a0_3)) - (wrap64 (a0_1 * a0_2)))) < 0 then ((celluloidref01_Root.f k (wrap64 (-(wrap64 ((wrap64 (a0_0 * a0_3)) - (wrap64 (a0_1 * a0_2))))))).bind fun t319 => (some t319)) else ((celluloidref01_Root.f k (wrap64 ((wrap64 (a0_0 * a0_3)) - (wrap64 (a0_1 * a0_2))))).bind fun t320 => (some t320))) = some r:=h;clear h
  by_cases c2 : (wrap64 ((wrap64 (a0_0 * a0_3)) - (wrap64 (a0_1 * a0_2)))) < 0
  · rw [if_pos c2] at H
    have c2b0 : decide ((wrap64 ((wrap64 (a0_0 * a0_3)) - (wrap64 (a0_1 * a0_2)))) < 0) = true:=decide_eq_true c2;clear c2;replace H:=Option.bind_eq_some_iff.mp H;obtain ⟨t319,A30,H⟩:=H;replace H : (some t319) = some r:=H;have A3:=am A30;clear A30;obtain rfl:=Option.some.inj H
    go_enter Try.func33,Try.ntmps33
    go_wp2_with (first|((with_reducible refine gate_dst (N:=1) rfl ?_);refine box_event ?hg (N:=1) ?hd (cs:=#[.int .i64 a0_0,.int .i64 a0_1,.int .i64 a0_2,.int .i64 a0_3,.int .i64 a0_4,.int .i64 a0_5]) (t:=43) ?hr ?_;(case hd => rfl);(case hg => rfl);(case hr => first|(go_simp;done)|(go_simp;rfl));intro gb318 hg w4 hbox hb;have BK318:=am (hbox);have GW318:=am ((by rw [hg];exact (sz (by repeat (first|(with_reducible first|exact HB.out|apply sa|apply sn|apply sd)|exact HB.out))) : w.heap.size ≤ gb318));have GE318:=am ((by rw [hg];exact (sz (by repeat (first|(with_reducible first|exact HB.out|apply sa|apply sn|apply sd)|exact HB.out))) : w.heap.size ≤ gb318));replace HB:=am (ss (by repeat (first|(with_reducible first|exact HB.out|apply sa|apply sn|apply sd)|exact HB.out)) hb);clear hb hbox hg;obtain ⟨hcz5_0,hcz5_1,hcz5_2,hcz5_3,hcz5_4,hcz5_5⟩:=cq6 BK318.out;obtain ⟨hfz5_0,hfz5_1,hfz5_2,hfz5_3,hfz5_4,hfz5_5⟩:=fq6 BK318.out)|((with_reducible refine gate_callee (f:=44) rfl ?_);refine goesL_ (some 20) rfl rfl Try.func44 (by kernel_rfl) rfl #[.int .i64 (wrap64 (-(wrap64 ((wrap64 (a0_0 * a0_3)) - (wrap64 (a0_1 * a0_2))))))] rfl (by (try simp only [List.map_toArray,List.map_cons,List.map_nil]);first|done|rfl|(simp only [List.length_drop,List.length_take];rfl)) ?_;(with_reducible refine (celluloidref01_Root.calls k (wrap64 (-(wrap64 ((wrap64 (a0_0 * a0_3)) - (wrap64 (a0_1 * a0_2)))))) t319 _ A3.out).mono ?_);rintro e w' ⟨rfl,⟨nd,rfl⟩⟩;refine ⟨_,rfl,?_⟩))
    go_ret
    exact ⟨by first|rfl|(simp [errW_none,errW_some] <;> rfl)|(simp [*,errW_none,errW_some] <;> rfl),by repeat (first|(with_reducible first|exact HB.out|apply sa|apply sn|apply sd|refine sx ?_ GE318.out)|exact HB.out)⟩
  · rw [if_neg c2] at H
    have c2b0 : decide ((wrap64 ((wrap64 (a0_0 * a0_3)) - (wrap64 (a0_1 * a0_2)))) < 0) = false:=decide_eq_false c2;clear c2;replace H:=Option.bind_eq_some_iff.mp H;obtain ⟨t320,A60,H⟩:=H;replace H : (some t320) = some r:=H;have A6:=am A60;clear A60;obtain rfl:=Option.some.inj H
    go_enter Try.func33,Try.ntmps33
    go_wp2_with (first|((with_reducible refine gate_dst (N:=1) rfl ?_);refine box_event ?hg (N:=1) ?hd (cs:=#[.int .i64 a0_0,.int .i64 a0_1,.int .i64 a0_2,.int .i64 a0_3,.int .i64 a0_4,.int .i64 a0_5]) (t:=43) ?hr ?_;(case hd => rfl);(case hg => rfl);(case hr => first|(go_simp;done)|(go_simp;rfl));intro gb318 hg w7 hbox hb;have BK318:=am (hbox);have GW318:=am ((by rw [hg];exact (sz (by repeat (first|(with_reducible first|exact HB.out|apply sa|apply sn|apply sd)|exact HB.out))) : w.heap.size ≤ gb318));have GE318:=am ((by rw [hg];exact (sz (by repeat (first|(with_reducible first|exact HB.out|apply sa|apply sn|apply sd)|exact HB.out))) : w.heap.size ≤ gb318));replace HB:=am (ss (by repeat (first|(with_reducible first|exact HB.out|apply sa|apply sn|apply sd)|exact HB.out)) hb);clear hb hbox hg;obtain ⟨hcz8_0,hcz8_1,hcz8_2,hcz8_3,hcz8_4,hcz8_5⟩:=cq6 BK318.out;obtain ⟨hfz8_0,hfz8_1,hfz8_2,hfz8_3,hfz8_4,hfz8_5⟩:=fq6 BK318.out)|((with_reducible refine gate_callee (f:=44) rfl ?_);refine goesL_ (some 20) rfl rfl Try.func44 (by kernel_rfl) rfl #[.int .i64 (wrap64 ((wrap64 (a0_0 * a0_3)) - (wrap64 (a0_1 * a0_2))))] rfl (by (try simp only [List.map_toArray,List.map_cons,List.map_nil]);first|done|rfl|(simp only [List.length_drop,List.length_take];rfl)) ?_;(with_reducible refine (celluloidref01_Root.calls k (wrap64 ((wrap64 (a0_0 * a0_3)) - (wrap64 (a0_1 * a0_2)))) t320 _ A6.out).mono ?_);rintro e w' ⟨rfl,⟨nd,rfl⟩⟩;refine ⟨_,rfl,?_⟩))
    go_ret
    exact ⟨by first|rfl|(simp [errW_none,errW_some] <;> rfl)|(simp [*,errW_none,errW_some] <;> rfl),by repeat (first|(with_reducible first|exact HB.out|apply sa|apply sn|apply sd|refine sx ?_ GE318.out)|exact HB.out)⟩

/-! ### celluloidref18_Width: function 20 -/
def celluloidref18_Width.j0 : Nat → Int → Bool → Int → Int → Int → Int → Int → Int → Option (Int)
  | 0,_,_,_,_,_,_,_,_ => none
  | k + 1,x0,x16,x322000,x322001,x322002,x322003,x322004,x322005 => if x16 = true then (some 0) else ((celluloidref14_Scale.f k x322000 x322001 x322002 x322003 x322004 x322005).bind fun t323 => (if (wrap64 (Int.tdiv (wrap64 ((wrap64 ((wrap64 (32 * x0)) * t323)) + 327680)) 655360)) < 64 then (some 64) else (if (wrap64 (Int.tdiv (wrap64 ((wrap64 ((wrap64 (32 * x0)) * t323)) + 327680)) 655360)) > 1048576 then (some 1048576) else (some (wrap64 (Int.tdiv (wrap64 ((wrap64 ((wrap64 (32 * x0)) * t323)) + 327680)) 655360))))))
def celluloidref18_Width.f (k : Nat) (a0 : Int) (a1_0 : Int) (a1_1 : Int) (a1_2 : Int) (a1_3 : Int) (a1_4 : Int) (a1_5 : Int) : Option (Int):=if a0 < 0 then (celluloidref18_Width.j0 k a0 true a1_0 a1_1 a1_2 a1_3 a1_4 a1_5) else (if a0 > 65535 then (celluloidref18_Width.j0 k a0 true a1_0 a1_1 a1_2 a1_3 a1_4 a1_5) else ((celluloidref07_Matrix.f a1_0 a1_1 a1_2 a1_3 a1_4 a1_5).bind fun t322 => (celluloidref18_Width.j0 k a0 (!t322) a1_0 a1_1 a1_2 a1_3 a1_4 a1_5)))
theorem celluloidref18_Width.mono_l : ∀ k,(∀ y0 y1 y2 y3 y4 y5 y6 y7,LeO (celluloidref18_Width.j0 k y0 y1 y2 y3 y4 y5 y6 y7) (celluloidref18_Width.j0 (k + 1) y0 y1 y2 y3 y4 y5 y6 y7))
  | 0 => fun _ _ _ _ _ _ _ _ r h => by simp [celluloidref18_Width.j0] at h
  | k + 1 => by
    have ih0:=celluloidref18_Width.mono_l k
    · intro y0 y1 y2 y3 y4 y5 y6 y7
      unfold celluloidref18_Width.j0
      repeat' first
      | (with_reducible exact ih0 _ _ _ _ _ _ _ _)
      | (with_reducible exact celluloidref14_Scale.mono _ _ _ _ _ _ _)
      | (with_reducible exact LeO.refl _)
      | (with_reducible exact LeO.none _)
      | (with_reducible refine LeO.ite ?_ ?_)
      | (with_reducible refine LeO.bind ?_ (fun _ => ?_))
      | exact ih0 _ _ _ _ _ _ _ _
      | exact celluloidref14_Scale.mono _ _ _ _ _ _ _
      | exact LeO.none _
      | refine LeO.ite ?_ ?_
      | refine LeO.bind ?_ (fun _ => ?_)
theorem celluloidref18_Width.mono : ∀ a0 a1 a2 a3 a4 a5 a6 k,LeO (celluloidref18_Width.f k a0 a1 a2 a3 a4 a5 a6) (celluloidref18_Width.f (k + 1) a0 a1 a2 a3 a4 a5 a6):=by
  intro a0 a1 a2 a3 a4 a5 a6 k
  have ih0:=celluloidref18_Width.mono_l k
  unfold celluloidref18_Width.f
  repeat' first
      | (with_reducible exact ih0 _ _ _ _ _ _ _ _)
      | (with_reducible exact celluloidref14_Scale.mono _ _ _ _ _ _ _)
      | (with_reducible exact LeO.refl _)
      | (with_reducible exact LeO.none _)
      | (with_reducible refine LeO.ite ?_ ?_)
      | (with_reducible refine LeO.bind ?_ (fun _ => ?_))
      | exact ih0 _ _ _ _ _ _ _ _
      | exact celluloidref14_Scale.mono _ _ _ _ _ _ _
      | exact LeO.none _
      | refine LeO.ite ?_ ?_
      | refine LeO.bind ?_ (fun _ => ?_)
set_option maxHeartbeats 8000000 in
set_option maxRecDepth 100000 in
theorem celluloidref18_Width.calls (k : Nat) (a0 : Int) (a1_0 : Int) (a1_1 : Int) (a1_2 : Int) (a1_3 : Int) (a1_4 : Int) (a1_5 : Int) (r : Int) (w : World) (h : celluloidref18_Width.f k a0 a1_0 a1_1 a1_2 a1_3 a1_4 a1_5 = some r) :
    Calls Try.prog 20 #[.int .i64 a0,.agg #[.int .i64 a1_0,.int .i64 a1_1,.int .i64 a1_2,.int .i64 a1_3,.int .i64 a1_4,.int .i64 a1_5]] w fun e w' => e = .returned (.int .i64 r) ∧ Below w.heap.size w w':=by
  have hu43:=Try.underlying43;have HB:=am (Below.refl w.heap.size w);have H : (if a0 < 0 then (celluloidref18_Width.j0 k a0 true a1_0 a1_1 a1_2 a1_3 a1_4 a1_5) else (if a0 > 65535 then (celluloidref18_Width.j0 k a0 true a1_0 a1_1 a1_2 a1_3 a1_4 a1_5) else ((celluloidref07_Matrix.f a1_0 a1_1 a1_2 a1_3 a1_4 a1_5).bind fun t322 => (celluloidref18_Width.j0 k a0 (!t322) a1_0 a1_1 a1_2 a1_3 a1_4 a1_5)))) = some r:=h;clear h;have HC3:=am H;clear H
  go_enter Try.func20,Try.ntmps20
  go_upto_region 1 with (first|((with_reducible refine gate_dst (N:=3) rfl ?_);refine box_event ?hg (N:=3) ?hd (cs:=#[.int .i64 a1_0,.int .i64 a1_1,.int .i64 a1_2,.int .i64 a1_3,.int .i64 a1_4,.int .i64 a1_5]) (t:=43) ?hr ?_;(case hd => rfl);(case hg => rfl);(case hr => first|(go_simp;done)|(go_simp;rfl));intro gb321 hg w4 hbox hb;have n0_:=am (ss (by repeat (first|(with_reducible first|exact HB.out|apply sa|apply sn|apply sd)|exact HB.out)) hb);have n1_:=am (hbox);have n2_:=am ((by rw [hg];exact (sz (by repeat (first|(with_reducible first|exact HB.out|apply sa|apply sn|apply sd)|exact HB.out))) : w.heap.size ≤ gb321));have n3_:=am ((by rw [hg];exact (sz (by repeat (first|(with_reducible first|exact HB.out|apply sa|apply sn|apply sd)|exact HB.out))) : w.heap.size ≤ gb321));clear HB;have HB:=n0_;have BK321:=n1_;have GW321:=n2_;have GE321:=n3_;clear n0_ n1_ n2_ n3_;clear hb hbox hg))
  (try simp only [Act.put,q1,q2,q3])
  go_cut [16] (fun v16 wc => ∃ (kq : Nat) (x16_2 : Bool),v16 = .bool x16_2 ∧ Aside0 (celluloidref18_Width.j0 kq a0 x16_2 a1_0 a1_1 a1_2 a1_3 a1_4 a1_5 = some r) ∧ Aside0 (kq ≤ k) ∧ Aside0 (wc.heap[gb321]? = some (.cells #[.int .i64 a1_0,.int .i64 a1_1,.int .i64 a1_2,.int .i64 a1_3,.int .i64 a1_4,.int .i64 a1_5] 43 (0,0))) ∧ Aside0 (Below w.heap.size w wc))
  case first =>
    have H:=HC3.out;clear HC3
    by_cases c5 : a0 < 0
    · rw [if_pos c5] at H
      have c5b0 : decide (a0 < 0) = true:=decide_eq_true c5;clear c5
      (first|rw [c5b0]|(simp only [i64_w,i32_w];rw [c5b0])|skip)
      have H':=am H;clear H
      go_wp2
      go_meet
      case rel => exact ⟨_,(true),(by first|rfl|(simp;done)|(simp [*];done)),H',⟨by first|omega|exact Nat.le_refl _⟩,⟨by exact BK321.out⟩,⟨by repeat (first|(with_reducible first|exact HB.out|apply sa|apply sn|apply sd|refine sx ?_ GE321.out)|exact HB.out)⟩⟩
    · rw [if_neg c5] at H
      have c5b0 : decide (a0 < 0) = false:=decide_eq_false c5;clear c5
      (first|rw [c5b0]|(simp only [i64_w,i32_w];rw [c5b0])|skip)
      by_cases c6 : a0 > 65535
      · rw [if_pos c6] at H
        have c6b0 : decide (65535 < a0) = true:=decide_eq_true c6;clear c6;have H':=am H;clear H
        go_wp2
        go_meet
        case rel => exact ⟨_,(true),(by first|rfl|(simp;done)|(simp [*];done)),H',⟨by first|omega|exact Nat.le_refl _⟩,⟨by exact BK321.out⟩,⟨by repeat (first|(with_reducible first|exact HB.out|apply sa|apply sn|apply sd|refine sx ?_ GE321.out)|exact HB.out)⟩⟩
      · rw [if_neg c6] at H
        have c6b0 : decide (65535 < a0) = false:=decide_eq_false c6;clear c6;replace H:=Option.bind_eq_some_iff.mp H;obtain ⟨t322,A70,H⟩:=H;replace H : (celluloidref18_Width.j0 k a0 (!t322) a1_0 a1_1 a1_2 a1_3 a1_4 a1_5) = some r:=H;have A7:=am A70;clear A70;have H':=am H;clear H;have hcz8_0 : w4.cell? ⟨gb321,0,none⟩ = some (.int .i64 a1_0):=(bc BK321.out 0).trans rfl;have hcz8_1 : w4.cell? ⟨gb321,1,none⟩ = some (.int .i64 a1_1):=(bc BK321.out 1).trans rfl;have hcz8_2 : w4.cell? ⟨gb321,2,none⟩ = some (.int .i64 a1_2):=(bc BK321.out 2).trans rfl;have hcz8_3 : w4.cell? ⟨gb321,3,none⟩ = some (.int .i64 a1_3):=(bc BK321.out 3).trans rfl;have hcz8_4 : w4.cell? ⟨gb321,4,none⟩ = some (.int .i64 a1_4):=(bc BK321.out 4).trans rfl;have hcz8_5 : w4.cell? ⟨gb321,5,none⟩ = some (.int .i64 a1_5):=(bc BK321.out 5).trans rfl;have hfz8_0:=bz BK321.out 0;have hfz8_1:=bz BK321.out 1;have hfz8_2:=bz BK321.out 2;have hfz8_3:=bz BK321.out 3;have hfz8_4:=bz BK321.out 4;have hfz8_5:=bz BK321.out 5
        go_wp2_with (first|(go_at_call 32;(with_reducible refine (celluloidref07_Matrix.calls a1_0 a1_1 a1_2 a1_3 a1_4 a1_5 t322 _ A7.out).mono ?_);rintro e w9 ⟨rfl,hb⟩;replace BK321:=am (bw (by exact BK321.out) hb);replace HB:=am (ss (by repeat (first|(with_reducible first|exact HB.out|apply sa|apply sn|apply sd|refine sx ?_ GE321.out)|exact HB.out)) hb);(try clear hb);(try clear hb2);(try clear hk);(try clear hi)))
        go_meet
        case rel => exact ⟨_,(!t322),(by first|rfl|(simp;done)|(simp [*];done)),H',⟨by first|omega|exact Nat.le_refl _⟩,⟨by exact BK321.out⟩,⟨by repeat (first|(with_reducible first|exact HB.out|apply sa|apply sn|apply sd|refine sx ?_ GE321.out)|exact HB.out)⟩⟩
  case rest =>
    clear HC3
    try clear c2
    try clear p2
    try clear c5
    try clear c5b0
    try clear c6
    try clear c6b0
    try clear hcz8_0
    try clear hcz8_1
    try clear hcz8_2
    try clear hcz8_3
    try clear hcz8_4
    try clear hcz8_5
    try clear hfz8_0
    try clear hfz8_1
    try clear hfz8_2
    try clear hfz8_3
    try clear hfz8_4
    try clear hfz8_5
    obtain ⟨kq,x16_2,rfl,HA,HJ2,BK321,HB⟩:=hcut
    cases kq with
    | zero => exact absurd HA.out (by simp [celluloidref18_Width.j0])
    | succ kj2 =>
      have H:=HA.out;clear HA;simp only [celluloidref18_Width.j0] at H
      by_cases c10 : x16_2 = true
      · subst c10
        have H1 : (some 0) = some r:=by rw [if_pos rfl] at H;exact H
        clear H;have H:=H1;clear H1;obtain rfl:=Option.some.inj H
        go_wp2
        go_ret
        exact ⟨by first|rfl|(simp [errW_none,errW_some] <;> rfl)|(simp [*,errW_none,errW_some] <;> rfl),by repeat (first|(with_reducible first|exact HB.out|apply sa|apply sn|apply sd|refine sx ?_ GE321.out)|exact HB.out)⟩
      · replace c10:=Bool.eq_false_iff.mpr c10
        subst c10
        have H1 : ((celluloidref14_Scale.f kj2 a1_0 a1_1 a1_2 a1_3 a1_4 a1_5).bind fun t323 => (if (wrap64 (Int.tdiv (wrap64 ((wrap64 ((wrap64 (32 * a0)) * t323)) + 327680)) 655360)) < 64 then (some 64) else (if (wrap64 (Int.tdiv (wrap64 ((wrap64 ((wrap64 (32 * a0)) * t323)) + 327680)) 655360)) > 1048576 then (some 1048576) else (some (wrap64 (Int.tdiv (wrap64 ((wrap64 ((wrap64 (32 * a0)) * t323)) + 327680)) 655360)))))) = some r:=by rw [if_neg (show ¬ (false = true) by decide)] at H;exact H
        clear H;have H:=H1;clear H1;replace H:=Option.bind_eq_some_iff.mp H;obtain ⟨t323,A110,H⟩:=H;replace H : (if (wrap64 (Int.tdiv (wrap64 ((wrap64 ((wrap64 (32 * a0)) * t323)) + 327680)) 655360)) < 64 then (some 64) else (if (wrap64 (Int.tdiv (wrap64 ((wrap64 ((wrap64 (32 * a0)) * t323)) + 327680)) 655360)) > 1048576 then (some 1048576) else (some (wrap64 (Int.tdiv (wrap64 ((wrap64 ((wrap64 (32 * a0)) * t323)) + 327680)) 655360))))) = some r:=H;have A11:=am A110;clear A110
        by_cases c12 : (wrap64 (Int.tdiv (wrap64 ((wrap64 ((wrap64 (32 * a0)) * t323)) + 327680)) 655360)) < 64
        · rw [if_pos c12] at H
          have c12b0 : decide ((wrap64 (Int.tdiv (wrap64 ((wrap64 ((wrap64 (32 * a0)) * t323)) + 327680)) 655360)) < 64) = true:=decide_eq_true c12;clear c12;obtain rfl:=Option.some.inj H;have hcz13_0 : wc.cell? ⟨gb321,0,none⟩ = some (.int .i64 a1_0):=(bc BK321.out 0).trans rfl;have hcz13_1 : wc.cell? ⟨gb321,1,none⟩ = some (.int .i64 a1_1):=(bc BK321.out 1).trans rfl;have hcz13_2 : wc.cell? ⟨gb321,2,none⟩ = some (.int .i64 a1_2):=(bc BK321.out 2).trans rfl;have hcz13_3 : wc.cell? ⟨gb321,3,none⟩ = some (.int .i64 a1_3):=(bc BK321.out 3).trans rfl;have hcz13_4 : wc.cell? ⟨gb321,4,none⟩ = some (.int .i64 a1_4):=(bc BK321.out 4).trans rfl;have hcz13_5 : wc.cell? ⟨gb321,5,none⟩ = some (.int .i64 a1_5):=(bc BK321.out 5).trans rfl;have hfz13_0:=bz BK321.out 0;have hfz13_1:=bz BK321.out 1;have hfz13_2:=bz BK321.out 2;have hfz13_3:=bz BK321.out 3;have hfz13_4:=bz BK321.out 4;have hfz13_5:=bz BK321.out 5
          go_wp2_with (first|((with_reducible refine gate_callee (f:=33) rfl ?_);refine goesL_ (some 20) rfl rfl Try.func33 (by kernel_rfl) rfl #[.agg #[.int .i64 a1_0,.int .i64 a1_1,.int .i64 a1_2,.int .i64 a1_3,.int .i64 a1_4,.int .i64 a1_5]] rfl (by (try simp only [List.map_toArray,List.map_cons,List.map_nil]);first|done|rfl|(simp only [List.length_drop,List.length_take];rfl)) ?_;(with_reducible refine (celluloidref14_Scale.calls kj2 a1_0 a1_1 a1_2 a1_3 a1_4 a1_5 t323 _ A11.out).mono ?_);rintro e w14 ⟨rfl,hb⟩;refine ⟨_,rfl,?_⟩;replace BK321:=am (bw (by exact BK321.out) hb);replace HB:=am (ss (by repeat (first|(with_reducible first|exact HB.out|apply sa|apply sn|apply sd|refine sx ?_ GE321.out)|exact HB.out)) hb);(try clear hb);(try clear hb2);(try clear hk);(try clear hi)))
          go_ret
          exact ⟨by first|rfl|(simp [errW_none,errW_some] <;> rfl)|(simp [*,errW_none,errW_some] <;> rfl),by repeat (first|(with_reducible first|exact HB.out|apply sa|apply sn|apply sd|refine sx ?_ GE321.out)|exact HB.out)⟩
        · rw [if_neg c12] at H
          have c12b0 : decide ((wrap64 (Int.tdiv (wrap64 ((wrap64 ((wrap64 (32 * a0)) * t323)) + 327680)) 655360)) < 64) = false:=decide_eq_false c12;clear c12
          by_cases c15 : (wrap64 (Int.tdiv (wrap64 ((wrap64 ((wrap64 (32 * a0)) * t323)) + 327680)) 655360)) > 1048576
          · rw [if_pos c15] at H
            have c15b0 : decide (1048576 < (wrap64 (Int.tdiv (wrap64 ((wrap64 ((wrap64 (32 * a0)) * t323)) + 327680)) 655360))) = true:=decide_eq_true c15;clear c15;obtain rfl:=Option.some.inj H;have hcz16_0 : wc.cell? ⟨gb321,0,none⟩ = some (.int .i64 a1_0):=(bc BK321.out 0).trans rfl;have hcz16_1 : wc.cell? ⟨gb321,1,none⟩ = some (.int .i64 a1_1):=(bc BK321.out 1).trans rfl;have hcz16_2 : wc.cell? ⟨gb321,2,none⟩ = some (.int .i64 a1_2):=(bc BK321.out 2).trans rfl;have hcz16_3 : wc.cell? ⟨gb321,3,none⟩ = some (.int .i64 a1_3):=(bc BK321.out 3).trans rfl;have hcz16_4 : wc.cell? ⟨gb321,4,none⟩ = some (.int .i64 a1_4):=(bc BK321.out 4).trans rfl;have hcz16_5 : wc.cell? ⟨gb321,5,none⟩ = some (.int .i64 a1_5):=(bc BK321.out 5).trans rfl;have hfz16_0:=bz BK321.out 0;have hfz16_1:=bz BK321.out 1;have hfz16_2:=bz BK321.out 2;have hfz16_3:=bz BK321.out 3;have hfz16_4:=bz BK321.out 4;have hfz16_5:=bz BK321.out 5
            go_wp2_with (first|((with_reducible refine gate_callee (f:=33) rfl ?_);refine goesL_ (some 20) rfl rfl Try.func33 (by kernel_rfl) rfl #[.agg #[.int .i64 a1_0,.int .i64 a1_1,.int .i64 a1_2,.int .i64 a1_3,.int .i64 a1_4,.int .i64 a1_5]] rfl (by (try simp only [List.map_toArray,List.map_cons,List.map_nil]);first|done|rfl|(simp only [List.length_drop,List.length_take];rfl)) ?_;(with_reducible refine (celluloidref14_Scale.calls kj2 a1_0 a1_1 a1_2 a1_3 a1_4 a1_5 t323 _ A11.out).mono ?_);rintro e w17 ⟨rfl,hb⟩;refine ⟨_,rfl,?_⟩;replace BK321:=am (bw (by exact BK321.out) hb);replace HB:=am (ss (by repeat (first|(with_reducible first|exact HB.out|apply sa|apply sn|apply sd|refine sx ?_ GE321.out)|exact HB.out)) hb);(try clear hb);(try clear hb2);(try clear hk);(try clear hi)))
            go_ret
            exact ⟨by first|rfl|(simp [errW_none,errW_some] <;> rfl)|(simp [*,errW_none,errW_some] <;> rfl),by repeat (first|(with_reducible first|exact HB.out|apply sa|apply sn|apply sd|refine sx ?_ GE321.out)|exact HB.out)⟩
          · rw [if_neg c15] at H
            have c15b0 : decide (1048576 < (wrap64 (Int.tdiv (wrap64 ((wrap64 ((wrap64 (32 * a0)) * t323)) + 327680)) 655360))) = false:=decide_eq_false c15;clear c15;obtain rfl:=Option.some.inj H;have hcz18_0 : wc.cell? ⟨gb321,0,none⟩ = some (.int .i64 a1_0):=(bc BK321.out 0).trans rfl;have hcz18_1 : wc.cell? ⟨gb321,1,none⟩ = some (.int .i64 a1_1):=(bc BK321.out 1).trans rfl;have hcz18_2 : wc.cell? ⟨gb321,2,none⟩ = some (.int .i64 a1_2):=(bc BK321.out 2).trans rfl;have hcz18_3 : wc.cell? ⟨gb321,3,none⟩ = some (.int .i64 a1_3):=(bc BK321.out 3).trans rfl;have hcz18_4 : wc.cell? ⟨gb321,4,none⟩ = some (.int .i64 a1_4):=(bc BK321.out 4).trans rfl;have hcz18_5 : wc.cell? ⟨gb321,5,none⟩ = some (.int .i64 a1_5):=(bc BK321.out 5).trans rfl;have hfz18_0:=bz BK321.out 0;have hfz18_1:=bz BK321.out 1;have hfz18_2:=bz BK321.out 2;have hfz18_3:=bz BK321.out 3;have hfz18_4:=bz BK321.out 4;have hfz18_5:=bz BK321.out 5
            go_wp2_with (first|((with_reducible refine gate_callee (f:=33) rfl ?_);refine goesL_ (some 20) rfl rfl Try.func33 (by kernel_rfl) rfl #[.agg #[.int .i64 a1_0,.int .i64 a1_1,.int .i64 a1_2,.int .i64 a1_3,.int .i64 a1_4,.int .i64 a1_5]] rfl (by (try simp only [List.map_toArray,List.map_cons,List.map_nil]);first|done|rfl|(simp only [List.length_drop,List.length_take];rfl)) ?_;(with_reducible refine (celluloidref14_Scale.calls kj2 a1_0 a1_1 a1_2 a1_3 a1_4 a1_5 t323 _ A11.out).mono ?_);rintro e w19 ⟨rfl,hb⟩;refine ⟨_,rfl,?_⟩;replace BK321:=am (bw (by exact BK321.out) hb);replace HB:=am (ss (by repeat (first|(with_reducible first|exact HB.out|apply sa|apply sn|apply sd|refine sx ?_ GE321.out)|exact HB.out)) hb);(try clear hb);(try clear hb2);(try clear hk);(try clear hi)))
            go_ret
            exact ⟨by first|rfl|(simp [errW_none,errW_some] <;> rfl)|(simp [*,errW_none,errW_some] <;> rfl),by repeat (first|(with_reducible first|exact HB.out|apply sa|apply sn|apply sd|refine sx ?_ GE321.out)|exact HB.out)⟩

/-! ### celluloidlaw18_StrokeWidths: function 5 -/
def celluloidlaw18_StrokeWidths.f (k : Nat) (a0 : Int) (a1_0 : Int) (a1_1 : Int) (a1_2 : Int) (a1_3 : Int) (a1_4 : Int) (a1_5 : Int) : Option (Bool):=(stroke_Width.f k a0 a1_0 a1_1 a1_2 a1_3 a1_4 a1_5).bind fun t325 => ((celluloidref18_Width.f k a0 a1_0 a1_1 a1_2 a1_3 a1_4 a1_5).bind fun t326 => (if t325 = t326 then ((celluloidlaw18_awake.f k).bind fun t327 => (some t327)) else (some false)))
theorem celluloidlaw18_StrokeWidths.mono : ∀ a0 a1 a2 a3 a4 a5 a6 k,LeO (celluloidlaw18_StrokeWidths.f k a0 a1 a2 a3 a4 a5 a6) (celluloidlaw18_StrokeWidths.f (k + 1) a0 a1 a2 a3 a4 a5 a6):=by
  intro a0 a1 a2 a3 a4 a5 a6 k
  unfold celluloidlaw18_StrokeWidths.f
  repeat' first
      | (with_reducible exact celluloidlaw18_awake.mono _)
      | (with_reducible exact celluloidref18_Width.mono _ _ _ _ _ _ _ _)
      | (with_reducible exact stroke_Width.mono _ _ _ _ _ _ _ _)
      | (with_reducible exact LeO.refl _)
      | (with_reducible exact LeO.none _)
      | (with_reducible refine LeO.ite ?_ ?_)
      | (with_reducible refine LeO.bind ?_ (fun _ => ?_))
      | exact celluloidlaw18_awake.mono _
      | exact celluloidref18_Width.mono _ _ _ _ _ _ _ _
      | exact stroke_Width.mono _ _ _ _ _ _ _ _
      | exact LeO.none _
      | refine LeO.ite ?_ ?_
      | refine LeO.bind ?_ (fun _ => ?_)
def celluloidlaw18_StrokeWidths.T1 : Bool × List (List Nat × List Nat):=(true,[([],[]),([],[]),([0,1],[0,1]),([],[]),([],[]),([3,4,2],[3,4]),([2,5],[2,5]),([6,5],[6]),([7,7],[7]),([7,8],[7,8]),([9,8,0,1,2,3,4,5,6,7,8,9],[9])])
def celluloidlaw18_StrokeWidths.B1 : List Nat:=[0,0,3,0,0,31,63,127,255,511,1023]
theorem celluloidlaw18_StrokeWidths.tab1 : rtab .any (opsOf Try.f5 1) = celluloidlaw18_StrokeWidths.T1:=by kernel_rfl
theorem celluloidlaw18_StrokeWidths.bits1 : waitsOk celluloidlaw18_StrokeWidths.T1.2 celluloidlaw18_StrokeWidths.B1 = true:=by kernel_rfl
set_option maxHeartbeats 8000000 in
set_option maxRecDepth 100000 in
theorem celluloidlaw18_StrokeWidths.calls (k : Nat) (a0 : Int) (a1_0 : Int) (a1_1 : Int) (a1_2 : Int) (a1_3 : Int) (a1_4 : Int) (a1_5 : Int) (r : Bool) (w : World) (h : celluloidlaw18_StrokeWidths.f k a0 a1_0 a1_1 a1_2 a1_3 a1_4 a1_5 = some r) :
    Calls Try.prog 5 #[.int .i64 a0,.agg #[.int .i64 a1_0,.int .i64 a1_1,.int .i64 a1_2,.int .i64 a1_3,.int .i64 a1_4,.int .i64 a1_5]] w fun e w' => e = .returned (.bool r) ∧ Below w.heap.size w w':=by
  have hu43:=Try.underlying43;have HB:=am (Below.refl w.heap.size w);have H : ((stroke_Width.f k a0 a1_0 a1_1 a1_2 a1_3 a1_4 a1_5).bind fun t325 => ((celluloidref18_Width.f k a0 a1_0 a1_1 a1_2 a1_3 a1_4 a1_5).bind fun t326 => (if t325 = t326 then ((celluloidlaw18_awake.f k).bind fun t327 => (some t327)) else (some false)))) = some r:=h;clear h;replace H:=Option.bind_eq_some_iff.mp H;obtain ⟨t325,A30,H⟩:=H;replace H : ((celluloidref18_Width.f k a0 a1_0 a1_1 a1_2 a1_3 a1_4 a1_5).bind fun t326 => (if t325 = t326 then ((celluloidlaw18_awake.f k).bind fun t327 => (some t327)) else (some false))) = some r:=H;have A3:=am A30;clear A30;replace H:=Option.bind_eq_some_iff.mp H;obtain ⟨t326,A40,H⟩:=H;replace H : (if t325 = t326 then ((celluloidlaw18_awake.f k).bind fun t327 => (some t327)) else (some false)) = some r:=H;have A4:=am A40;clear A40
  by_cases c5 : t325 = t326
  · rw [if_pos c5] at H
    have c5b0 : (t325 == t326) = true:=beq_iff_eq.mpr c5;have c5b1 : (t325 != t326) = false:=bne_eq_false_iff_eq.mpr c5;clear c5;replace H:=Option.bind_eq_some_iff.mp H;obtain ⟨t327,A60,H⟩:=H;replace H : (some t327) = some r:=H;have A6:=am A60;clear A60;obtain rfl:=Option.some.inj H
    go_enter Try.func5,Try.ntmps5
    try go_wp2_with (first|((with_reducible refine gate_dst (N:=3) rfl ?_);refine box_event ?hg (N:=3) ?hd (cs:=#[.int .i64 a1_0,.int .i64 a1_1,.int .i64 a1_2,.int .i64 a1_3,.int .i64 a1_4,.int .i64 a1_5]) (t:=43) ?hr ?_;(case hd => rfl);(case hg => rfl);(case hr => first|(go_simp;done)|(go_simp;rfl));intro gb324 hg w7 hbox hb;have BK324:=am (hbox);have GW324:=am ((by rw [hg];exact (sz (by repeat (first|(with_reducible first|exact HB.out|apply sa|apply sn|apply sd)|exact HB.out))) : w.heap.size ≤ gb324));have GE324:=am ((by rw [hg];exact (sz (by repeat (first|(with_reducible first|exact HB.out|apply sa|apply sn|apply sd)|exact HB.out))) : w.heap.size ≤ gb324));replace HB:=am (ss (by repeat (first|(with_reducible first|exact HB.out|apply sa|apply sn|apply sd)|exact HB.out)) hb);clear hb hbox hg))
    replace BK324:=am (bd BK324.out);replace HB:=am (sd HB.out);refine start_ (n:=11) (S:=fun w' => w'.cell? ⟨gb324,0,none⟩ = some (.int .i64 a1_0) ∧ w'.cell? ⟨gb324,1,none⟩ = some (.int .i64 a1_1) ∧ w'.cell? ⟨gb324,2,none⟩ = some (.int .i64 a1_2) ∧ w'.cell? ⟨gb324,3,none⟩ = some (.int .i64 a1_3) ∧ w'.cell? ⟨gb324,4,none⟩ = some (.int .i64 a1_4) ∧ w'.cell? ⟨gb324,5,none⟩ = some (.int .i64 a1_5)) (ds:=[]) #[false,false,false,false,false,false,false,false,false,false,false] (by kernel_rfl) rfl rfl ⟨(bc BK324.out 0).trans rfl,(bc BK324.out 1).trans rfl,(bc BK324.out 2).trans rfl,(bc BK324.out 3).trans rfl,(bc BK324.out 4).trans rfl,(bc BK324.out 5).trans rfl⟩ (fun hHeld => ?_);refine with_tabW celluloidlaw18_StrokeWidths.tab1 celluloidlaw18_StrokeWidths.bits1 (fun HT_ HW_ => ?_);generalize w7.drew = w8 at BK324 HB hHeld ⊢;refine pure_ (i:=0) (N:=some 5) (v:=?_) (a':=?_) #[true,false,false,false,false,false,false,false,false,false,false] rfl rfl (any_of HT_.out (by kernel_rfl)) (fun _ _ _ h => h) (Or.inl ⟨by rfl,?_⟩) ?_ ?_
    rotate_left
    · intro w'
      go_simp
      with_reducible rfl
    rotate_left
    · simp only [Act.put,q1,q2,q3,i64_w,i32_w]
      rfl
    refine pure_ (i:=3) (N:=some 8) (v:=?_) (a':=?_) #[true,false,false,true,false,false,false,false,false,false,false] rfl rfl (any_of HT_.out (by kernel_rfl)) (fun _ _ _ h => h) (Or.inl ⟨by rfl,?_⟩) ?_ ?_
    rotate_left
    · intro w'
      go_simp
      with_reducible rfl
    rotate_left
    · simp only [Act.put,q1,q2,q3,i64_w,i32_w]
      rfl
    refine take_ (i:=1) (N:=some 6) (v:=?_) (a':=?_) #[true,true,false,true,false,false,false,false,false,false,false] rfl rfl (take_ofW HT_.out HW_.out (by kernel_rfl)) (fun _ _ _ h => h) (Or.inl ⟨by rfl,?_⟩) hHeld ?_ ?_
    rotate_left
    · rintro w' ⟨s0,s1,s2,s3,s4,s5⟩
      go_simp
      with_reducible rfl
    rotate_left
    · simp only [Act.put,q1,q2,q3,i64_w,i32_w]
      rfl
    refine take_ (i:=4) (N:=some 9) (v:=?_) (a':=?_) #[true,true,false,true,true,false,false,false,false,false,false] rfl rfl (take_ofW HT_.out HW_.out (by kernel_rfl)) (fun _ _ _ h => h) (Or.inl ⟨by rfl,?_⟩) hHeld ?_ ?_
    rotate_left
    · rintro w' ⟨s0,s1,s2,s3,s4,s5⟩
      go_simp
      with_reducible rfl
    rotate_left
    · simp only [Act.put,q1,q2,q3,i64_w,i32_w]
      rfl
    refine one_ (i:=2) (N:=some 7) #[true,true,true,true,true,false,false,false,false,false,false] rfl rfl (one_of HT_.out (by kernel_rfl)) (by decide) (fun K hK => ?_);refine goes_ Try.func19 (by kernel_rfl) rfl #[.int .i64 a0,.agg #[.int .i64 a1_0,.int .i64 a1_1,.int .i64 a1_2,.int .i64 a1_3,.int .i64 a1_4,.int .i64 a1_5]] (by rfl) rfl rfl (by (try simp only [List.map_toArray,List.map_cons,List.map_nil]);first|done|rfl|(simp only [List.length_drop,List.length_take];rfl)) ?_
    with_reducible refine (stroke_Width.calls k a0 a1_0 a1_1 a1_2 a1_3 a1_4 a1_5 t325 _ A3.out).mono ?_
    rintro e w9 ⟨rfl,hb⟩
    refine ⟨_,rfl,?_⟩;replace BK324:=am (bw (by exact BK324.out) hb);replace HB:=am (ss (by repeat (first|(with_reducible first|exact HB.out|apply sa|apply sn|apply sd|refine sx ?_ GE324.out)|exact HB.out)) hb);(try clear hb);(try clear hb2);(try clear hk);(try clear hi);refine hK.out _ _ ⟨(bc BK324.out 0).trans rfl,(bc BK324.out 1).trans rfl,(bc BK324.out 2).trans rfl,(bc BK324.out 3).trans rfl,(bc BK324.out 4).trans rfl,(bc BK324.out 5).trans rfl⟩ (fun hHeld => ?_);clear hK K;refine norm_ (a':=?_) ?_ ?_
    rotate_left
    · show Act.put _ (some 7) _ = _
      simp only [Act.put,q1,q2,q3,i64_w,i32_w]
      rfl
    refine one_ (i:=5) (N:=some 10) #[true,true,true,true,true,true,false,false,false,false,false] rfl rfl (one_of HT_.out (by kernel_rfl)) (by decide) (fun K hK => ?_);refine goes_ Try.func20 (by kernel_rfl) rfl #[.int .i64 a0,.agg #[.int .i64 a1_0,.int .i64 a1_1,.int .i64 a1_2,.int .i64 a1_3,.int .i64 a1_4,.int .i64 a1_5]] (by rfl) rfl rfl (by (try simp only [List.map_toArray,List.map_cons,List.map_nil]);first|done|rfl|(simp only [List.length_drop,List.length_take];rfl)) ?_
    with_reducible refine (celluloidref18_Width.calls k a0 a1_0 a1_1 a1_2 a1_3 a1_4 a1_5 t326 _ A4.out).mono ?_
    rintro e w10 ⟨rfl,hb⟩
    refine ⟨_,rfl,?_⟩;replace BK324:=am (bw (by exact BK324.out) hb);replace HB:=am (ss (by repeat (first|(with_reducible first|exact HB.out|apply sa|apply sn|apply sd|refine sx ?_ GE324.out)|exact HB.out)) hb);(try clear hb);(try clear hb2);(try clear hk);(try clear hi);refine hK.out _ _ ⟨(bc BK324.out 0).trans rfl,(bc BK324.out 1).trans rfl,(bc BK324.out 2).trans rfl,(bc BK324.out 3).trans rfl,(bc BK324.out 4).trans rfl,(bc BK324.out 5).trans rfl⟩ (fun hHeld => ?_);clear hK K;refine norm_ (a':=?_) ?_ ?_
    rotate_left
    · show Act.put _ (some 10) _ = _
      simp only [Act.put,q1,q2,q3,i64_w,i32_w]
      rfl
    refine pure_ (i:=6) (N:=some 11) (v:=?_) (a':=?_) #[true,true,true,true,true,true,true,false,false,false,false] rfl rfl (any_of HT_.out (by kernel_rfl)) (fun _ _ _ h => h) (Or.inl ⟨by rfl,?_⟩) ?_ ?_
    rotate_left
    · intro w'
      go_simp
      with_reducible rfl
    rotate_left
    · simp only [Act.put,q1,q2,q3,i64_w,i32_w]
      rfl
    refine pure_ (i:=7) (N:=some 12) (v:=?_) (a':=?_) #[true,true,true,true,true,true,true,true,false,false,false] rfl rfl (any_of HT_.out (by kernel_rfl)) (fun _ _ _ h => h) (Or.inl ⟨by rfl,?_⟩) ?_ ?_
    rotate_left
    · intro w'
      go_simp
      with_reducible rfl
    rotate_left
    · simp only [Act.put,q1,q2,q3,i64_w,i32_w]
      rfl
    refine one_ (i:=8) (N:=some 13) #[true,true,true,true,true,true,true,true,true,false,false] rfl rfl (one_of HT_.out (by kernel_rfl)) (by decide) (fun K hK => ?_);refine goes_ Try.func16 (by kernel_rfl) rfl #[] (by rfl) rfl rfl (by (try simp only [List.map_toArray,List.map_cons,List.map_nil]);first|done|rfl|(simp only [List.length_drop,List.length_take];rfl)) ?_
    with_reducible refine (celluloidlaw18_awake.calls k  t327 _ A6.out).mono ?_
    rintro e w11 ⟨rfl,hb⟩
    refine ⟨_,rfl,?_⟩;replace BK324:=am (bw (by exact BK324.out) hb);replace HB:=am (ss (by repeat (first|(with_reducible first|exact HB.out|apply sa|apply sn|apply sd|refine sx ?_ GE324.out)|exact HB.out)) hb);(try clear hb);(try clear hb2);(try clear hk);(try clear hi);refine hK.out _ _ ⟨(bc BK324.out 0).trans rfl,(bc BK324.out 1).trans rfl,(bc BK324.out 2).trans rfl,(bc BK324.out 3).trans rfl,(bc BK324.out 4).trans rfl,(bc BK324.out 5).trans rfl⟩ (fun hHeld => ?_);clear hK K;refine norm_ (a':=?_) ?_ ?_
    rotate_left
    · show Act.put _ (some 13) _ = _
      simp only [Act.put,q1,q2,q3,i64_w,i32_w]
      rfl
    refine pure_ (i:=9) (N:=some 14) (v:=?_) (a':=?_) #[true,true,true,true,true,true,true,true,true,true,false] rfl rfl (any_of HT_.out (by kernel_rfl)) (fun _ _ _ h => h) (Or.inl ⟨by rfl,?_⟩) ?_ ?_
    rotate_left
    · intro w'
      go_simp
      with_reducible rfl
    rotate_left
    · simp only [Act.put,q1,q2,q3,i64_w,i32_w]
      rfl
    refine pure_ (i:=10) (N:=some 4) (v:=?_) (a':=?_) #[true,true,true,true,true,true,true,true,true,true,true] rfl rfl (any_of HT_.out (by kernel_rfl)) (fun _ _ _ h => h) (Or.inl ⟨by rfl,?_⟩) ?_ ?_
    rotate_left
    · intro w'
      go_simp
      with_reducible rfl
    rotate_left
    · simp only [Act.put,q1,q2,q3,i64_w,i32_w]
      rfl
    refine done_ (done_of HT_.out (by kernel_rfl)) ?_
    try go_wp2
    go_ret
    exact ⟨by first|rfl|(simp [errW_none,errW_some] <;> rfl)|(simp [*,errW_none,errW_some] <;> rfl),by repeat (first|(with_reducible first|exact HB.out|apply sa|apply sn|apply sd|refine sx ?_ GE324.out)|exact HB.out)⟩
  · rw [if_neg c5] at H
    have c5b0 : (t325 == t326) = false:=beq_eq_false_iff_ne.mpr c5;have c5b1 : (t325 != t326) = true:=bne_iff_ne.mpr c5;obtain rfl:=Option.some.inj H
    go_enter Try.func5,Try.ntmps5
    try go_wp2_with (first|((with_reducible refine gate_dst (N:=3) rfl ?_);refine box_event ?hg (N:=3) ?hd (cs:=#[.int .i64 a1_0,.int .i64 a1_1,.int .i64 a1_2,.int .i64 a1_3,.int .i64 a1_4,.int .i64 a1_5]) (t:=43) ?hr ?_;(case hd => rfl);(case hg => rfl);(case hr => first|(go_simp;done)|(go_simp;rfl));intro gb324 hg w12 hbox hb;have BK324:=am (hbox);have GW324:=am ((by rw [hg];exact (sz (by repeat (first|(with_reducible first|exact HB.out|apply sa|apply sn|apply sd)|exact HB.out))) : w.heap.size ≤ gb324));have GE324:=am ((by rw [hg];exact (sz (by repeat (first|(with_reducible first|exact HB.out|apply sa|apply sn|apply sd)|exact HB.out))) : w.heap.size ≤ gb324));replace HB:=am (ss (by repeat (first|(with_reducible first|exact HB.out|apply sa|apply sn|apply sd)|exact HB.out)) hb);clear hb hbox hg))
    replace BK324:=am (bd BK324.out);replace HB:=am (sd HB.out);refine start_ (n:=11) (S:=fun w' => w'.cell? ⟨gb324,0,none⟩ = some (.int .i64 a1_0) ∧ w'.cell? ⟨gb324,1,none⟩ = some (.int .i64 a1_1) ∧ w'.cell? ⟨gb324,2,none⟩ = some (.int .i64 a1_2) ∧ w'.cell? ⟨gb324,3,none⟩ = some (.int .i64 a1_3) ∧ w'.cell? ⟨gb324,4,none⟩ = some (.int .i64 a1_4) ∧ w'.cell? ⟨gb324,5,none⟩ = some (.int .i64 a1_5)) (ds:=[]) #[false,false,false,false,false,false,false,false,false,false,false] (by kernel_rfl) rfl rfl ⟨(bc BK324.out 0).trans rfl,(bc BK324.out 1).trans rfl,(bc BK324.out 2).trans rfl,(bc BK324.out 3).trans rfl,(bc BK324.out 4).trans rfl,(bc BK324.out 5).trans rfl⟩ (fun hHeld => ?_);refine with_tabW celluloidlaw18_StrokeWidths.tab1 celluloidlaw18_StrokeWidths.bits1 (fun HT_ HW_ => ?_);generalize w12.drew = w13 at BK324 HB hHeld ⊢;refine pure_ (i:=0) (N:=some 5) (v:=?_) (a':=?_) #[true,false,false,false,false,false,false,false,false,false,false] rfl rfl (any_of HT_.out (by kernel_rfl)) (fun _ _ _ h => h) (Or.inl ⟨by rfl,?_⟩) ?_ ?_
    rotate_left
    · intro w'
      go_simp
      with_reducible rfl
    rotate_left
    · simp only [Act.put,q1,q2,q3,i64_w,i32_w]
      rfl
    refine pure_ (i:=3) (N:=some 8) (v:=?_) (a':=?_) #[true,false,false,true,false,false,false,false,false,false,false] rfl rfl (any_of HT_.out (by kernel_rfl)) (fun _ _ _ h => h) (Or.inl ⟨by rfl,?_⟩) ?_ ?_
    rotate_left
    · intro w'
      go_simp
      with_reducible rfl
    rotate_left
    · simp only [Act.put,q1,q2,q3,i64_w,i32_w]
      rfl
    refine take_ (i:=1) (N:=some 6) (v:=?_) (a':=?_) #[true,true,false,true,false,false,false,false,false,false,false] rfl rfl (take_ofW HT_.out HW_.out (by kernel_rfl)) (fun _ _ _ h => h) (Or.inl ⟨by rfl,?_⟩) hHeld ?_ ?_
    rotate_left
    · rintro w' ⟨s0,s1,s2,s3,s4,s5⟩
      go_simp
      with_reducible rfl
    rotate_left
    · simp only [Act.put,q1,q2,q3,i64_w,i32_w]
      rfl
    refine take_ (i:=4) (N:=some 9) (v:=?_) (a':=?_) #[true,true,false,true,true,false,false,false,false,false,false] rfl rfl (take_ofW HT_.out HW_.out (by kernel_rfl)) (fun _ _ _ h => h) (Or.inl ⟨by rfl,?_⟩) hHeld ?_ ?_
    rotate_left
    · rintro w' ⟨s0,s1,s2,s3,s4,s5⟩
      go_simp
      with_reducible rfl
    rotate_left
    · simp only [Act.put,q1,q2,q3,i64_w,i32_w]
      rfl
    refine one_ (i:=2) (N:=some 7) #[true,true,true,true,true,false,false,false,false,false,false] rfl rfl (one_of HT_.out (by kernel_rfl)) (by decide) (fun K hK => ?_);refine goes_ Try.func19 (by kernel_rfl) rfl #[.int .i64 a0,.agg #[.int .i64 a1_0,.int .i64 a1_1,.int .i64 a1_2,.int .i64 a1_3,.int .i64 a1_4,.int .i64 a1_5]] (by rfl) rfl rfl (by (try simp only [List.map_toArray,List.map_cons,List.map_nil]);first|done|rfl|(simp only [List.length_drop,List.length_take];rfl)) ?_
    with_reducible refine (stroke_Width.calls k a0 a1_0 a1_1 a1_2 a1_3 a1_4 a1_5 t325 _ A3.out).mono ?_
    rintro e w14 ⟨rfl,hb⟩
    refine ⟨_,rfl,?_⟩;replace BK324:=am (bw (by exact BK324.out) hb);replace HB:=am (ss (by repeat (first|(with_reducible first|exact HB.out|apply sa|apply sn|apply sd|refine sx ?_ GE324.out)|exact HB.out)) hb);(try clear hb);(try clear hb2);(try clear hk);(try clear hi);refine hK.out _ _ ⟨(bc BK324.out 0).trans rfl,(bc BK324.out 1).trans rfl,(bc BK324.out 2).trans rfl,(bc BK324.out 3).trans rfl,(bc BK324.out 4).trans rfl,(bc BK324.out 5).trans rfl⟩ (fun hHeld => ?_);clear hK K;refine norm_ (a':=?_) ?_ ?_
    rotate_left
    · show Act.put _ (some 7) _ = _
      simp only [Act.put,q1,q2,q3,i64_w,i32_w]
      rfl
    refine one_ (i:=5) (N:=some 10) #[true,true,true,true,true,true,false,false,false,false,false] rfl rfl (one_of HT_.out (by kernel_rfl)) (by decide) (fun K hK => ?_);refine goes_ Try.func20 (by kernel_rfl) rfl #[.int .i64 a0,.agg #[.int .i64 a1_0,.int .i64 a1_1,.int .i64 a1_2,.int .i64 a1_3,.int .i64 a1_4,.int .i64 a1_5]] (by rfl) rfl rfl (by (try simp only [List.map_toArray,List.map_cons,List.map_nil]);first|done|rfl|(simp only [List.length_drop,List.length_take];rfl)) ?_
    with_reducible refine (celluloidref18_Width.calls k a0 a1_0 a1_1 a1_2 a1_3 a1_4 a1_5 t326 _ A4.out).mono ?_
    rintro e w15 ⟨rfl,hb⟩
    refine ⟨_,rfl,?_⟩;replace BK324:=am (bw (by exact BK324.out) hb);replace HB:=am (ss (by repeat (first|(with_reducible first|exact HB.out|apply sa|apply sn|apply sd|refine sx ?_ GE324.out)|exact HB.out)) hb);(try clear hb);(try clear hb2);(try clear hk);(try clear hi);refine hK.out _ _ ⟨(bc BK324.out 0).trans rfl,(bc BK324.out 1).trans rfl,(bc BK324.out 2).trans rfl,(bc BK324.out 3).trans rfl,(bc BK324.out 4).trans rfl,(bc BK324.out 5).trans rfl⟩ (fun hHeld => ?_);clear hK K;refine norm_ (a':=?_) ?_ ?_
    rotate_left
    · show Act.put _ (some 10) _ = _
      simp only [Act.put,q1,q2,q3,i64_w,i32_w]
      rfl
    refine pure_ (i:=6) (N:=some 11) (v:=?_) (a':=?_) #[true,true,true,true,true,true,true,false,false,false,false] rfl rfl (any_of HT_.out (by kernel_rfl)) (fun _ _ _ h => h) (Or.inl ⟨by rfl,?_⟩) ?_ ?_
    rotate_left
    · intro w'
      go_simp
      with_reducible rfl
    rotate_left
    · simp only [Act.put,q1,q2,q3,i64_w,i32_w]
      rfl
    refine pure_ (i:=7) (N:=some 12) (v:=?_) (a':=?_) #[true,true,true,true,true,true,true,true,false,false,false] rfl rfl (any_of HT_.out (by kernel_rfl)) (fun _ _ _ h => h) (Or.inl ⟨by rfl,?_⟩) ?_ ?_
    rotate_left
    · intro w'
      go_simp
      with_reducible rfl
    rotate_left
    · simp only [Act.put,q1,q2,q3,i64_w,i32_w]
      rfl
    refine pure_ (i:=8) (N:=some 13) (v:=undef) (a':=?_) #[true,true,true,true,true,true,true,true,true,false,false] rfl rfl (any_of HT_.out (by kernel_rfl)) (fun _ _ _ h => h) (Or.inr ⟨by rfl,rfl⟩) ?_ ?_
    rotate_left
    · simp only [Act.put,q1,q2,q3,i64_w,i32_w]
      rfl
    refine pure_ (i:=9) (N:=some 14) (v:=?_) (a':=?_) #[true,true,true,true,true,true,true,true,true,true,false] rfl rfl (any_of HT_.out (by kernel_rfl)) (fun _ _ _ h => h) (Or.inl ⟨by rfl,?_⟩) ?_ ?_
    rotate_left
    · intro w'
      go_simp
      with_reducible rfl
    rotate_left
    · simp only [Act.put,q1,q2,q3,i64_w,i32_w]
      rfl
    refine pure_ (i:=10) (N:=some 4) (v:=?_) (a':=?_) #[true,true,true,true,true,true,true,true,true,true,true] rfl rfl (any_of HT_.out (by kernel_rfl)) (fun _ _ _ h => h) (Or.inl ⟨by rfl,?_⟩) ?_ ?_
    rotate_left
    · intro w'
      go_simp
      with_reducible rfl
    rotate_left
    · simp only [Act.put,q1,q2,q3,i64_w,i32_w]
      rfl
    refine done_ (done_of HT_.out (by kernel_rfl)) ?_
    try go_wp2
    go_ret
    exact ⟨by first|rfl|(simp [errW_none,errW_some] <;> rfl)|(simp [*,errW_none,errW_some] <;> rfl),by repeat (first|(with_reducible first|exact HB.out|apply sa|apply sn|apply sd|refine sx ?_ GE324.out)|exact HB.out)⟩

end Go.Proofs.Ytnofihkmgedbfaa.P
