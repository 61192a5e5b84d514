/- Printed by printx.py (wip/tool) out of the translation: plain functions that tell what the program answers,and the proofs that the program comes to these answers,for all arguments of their kinds. Lean checks it. -/
import Derived.Test.YtaognlikgbcejaaShort
import Derived.Test.YtaognlikgbcejaaPx0
import Derived.Test.YtaognlikgbcejaaPx8
namespace Go.Proofs.Ytaognlikgbcejaa.P
open Go.RowKit Go.Proofs.YtaognlikgbcejaaW.PrintWords Go.Proofs.YtaognlikgbcejaaW.PrintLast Go.Proofs.YtaognlikgbcejaaW.PrintMore
attribute [local go_sem] max2_int min2_int max_two min_two max_three min_three max_four min_four max_five min_five max_six min_six   -- for this text's walks alone
set_option linter.unusedVariables false
set_option linter.unusedSimpArgs false

/-! ### celluloidref07_Cx: function 21 -/
def celluloidref07_Cx.l0 : Nat → Int → Int → Int → Int → Int → Int → Int → Int → Int → Option (Bool)
  | 0,_,_,_,_,_,_,_,_,_ => none
  | k + 1,x3,x295000,x295001,x295002,x295003,x295004,x295005,x295006,x295007 => if x3 < 4 then (if x3 = 0 then ((celluloidref07_in.f x295000 512).bind fun t295 => (if t295 = true then ((celluloidref07_in.f x295004 255).bind fun t296 => (if t296 = true then (celluloidref07_Cx.l0 k (0 + 1) x295000 x295001 x295002 x295003 x295004 x295005 x295006 x295007) else (some false))) else (some false))) else (if x3 = 1 then ((celluloidref07_in.f x295001 512).bind fun t297 => (if t297 = true then ((celluloidref07_in.f x295005 255).bind fun t298 => (if t298 = true then (celluloidref07_Cx.l0 k (1 + 1) x295000 x295001 x295002 x295003 x295004 x295005 x295006 x295007) else (some false))) else (some false))) else (if x3 = 2 then ((celluloidref07_in.f x295002 512).bind fun t299 => (if t299 = true then ((celluloidref07_in.f x295006 255).bind fun t300 => (if t300 = true then (celluloidref07_Cx.l0 k (2 + 1) x295000 x295001 x295002 x295003 x295004 x295005 x295006 x295007) else (some false))) else (some false))) else (if x3 = 3 then ((celluloidref07_in.f x295003 512).bind fun t301 => (if t301 = true then ((celluloidref07_in.f x295007 255).bind fun t302 => (if t302 = true then (celluloidref07_Cx.l0 k (3 + 1) x295000 x295001 x295002 x295003 x295004 x295005 x295006 x295007) else (some false))) else (some false))) else (none))))) else (some true)
def celluloidref07_Cx.f (k : Nat) (a0_0 : Int) (a0_1 : Int) (a0_2 : Int) (a0_3 : Int) (a0_4 : Int) (a0_5 : Int) (a0_6 : Int) (a0_7 : Int) : Option (Bool):=celluloidref07_Cx.l0 k 0 a0_0 a0_1 a0_2 a0_3 a0_4 a0_5 a0_6 a0_7
theorem celluloidref07_Cx.mono_l : ∀ k,(∀ y0 y1 y2 y3 y4 y5 y6 y7 y8,LeO (celluloidref07_Cx.l0 k y0 y1 y2 y3 y4 y5 y6 y7 y8) (celluloidref07_Cx.l0 (k + 1) y0 y1 y2 y3 y4 y5 y6 y7 y8))
  | 0 => fun _ _ _ _ _ _ _ _ _ r h => by simp [celluloidref07_Cx.l0] at h
  | k + 1 => by
    have ih0:=celluloidref07_Cx.mono_l k
    · intro y0 y1 y2 y3 y4 y5 y6 y7 y8
      unfold celluloidref07_Cx.l0
      repeat' first
      | (with_reducible exact ih0 _ _ _ _ _ _ _ _ _)
      | (with_reducible exact LeO.refl _)
      | (with_reducible exact LeO.none _)
      | (with_reducible refine LeO.ite ?_ ?_)
      | (with_reducible refine LeO.bind ?_ (fun _ => ?_))
      | exact ih0 _ _ _ _ _ _ _ _ _
      | exact LeO.none _
      | refine LeO.ite ?_ ?_
      | refine LeO.bind ?_ (fun _ => ?_)
theorem celluloidref07_Cx.mono : ∀ a0 a1 a2 a3 a4 a5 a6 a7 k,LeO (celluloidref07_Cx.f k a0 a1 a2 a3 a4 a5 a6 a7) (celluloidref07_Cx.f (k + 1) a0 a1 a2 a3 a4 a5 a6 a7):=by
  intro a0 a1 a2 a3 a4 a5 a6 a7 k
  have ih0:=celluloidref07_Cx.mono_l k
  unfold celluloidref07_Cx.f
  repeat' first
      | (with_reducible exact ih0 _ _ _ _ _ _ _ _ _)
      | (with_reducible exact LeO.refl _)
      | (with_reducible exact LeO.none _)
      | (with_reducible refine LeO.ite ?_ ?_)
      | (with_reducible refine LeO.bind ?_ (fun _ => ?_))
      | exact ih0 _ _ _ _ _ _ _ _ _
      | exact LeO.none _
      | refine LeO.ite ?_ ?_
      | refine LeO.bind ?_ (fun _ => ?_)
set_option maxHeartbeats 8000000 in
set_option maxRecDepth 100000 in
theorem celluloidref07_Cx.calls (k : Nat) (a0_0 : Int) (a0_1 : Int) (a0_2 : Int) (a0_3 : Int) (a0_4 : Int) (a0_5 : Int) (a0_6 : Int) (a0_7 : Int) (r : Bool) (w : World) (h : celluloidref07_Cx.f k a0_0 a0_1 a0_2 a0_3 a0_4 a0_5 a0_6 a0_7 = some r) :
    Calls Try.prog 21 #[.agg #[.int .i64 a0_0,.int .i64 a0_1,.int .i64 a0_2,.int .i64 a0_3,.int .i64 a0_4,.int .i64 a0_5,.int .i64 a0_6,.int .i64 a0_7]] w fun e w' => e = .returned (.bool r) ∧ Below w.heap.size w w':=by
  have hu41:=Try.underlying41;have HB:=am (Below.refl w.heap.size w);have H : (celluloidref07_Cx.l0 k 0 a0_0 a0_1 a0_2 a0_3 a0_4 a0_5 a0_6 a0_7) = some r:=h;clear h;have H':=am H;clear H
  go_enter Try.func21,Try.ntmps21
  go_wp2_with (first|((with_reducible refine gate_dst (N:=1) rfl ?_);refine box_event ?hg (N:=1) ?hd (cs:=#[.int .i64 a0_0,.int .i64 a0_1,.int .i64 a0_2,.int .i64 a0_3,.int .i64 a0_4,.int .i64 a0_5,.int .i64 a0_6,.int .i64 a0_7]) (t:=41) ?hr ?_;(case hd => rfl);(case hg => rfl);(case hr => first|(go_simp;done)|(go_simp;rfl));intro gb294 hg w2 hbox hb;have BK294:=am (hbox);have GW294:=am ((by rw [hg];exact (sz (by repeat (first|(with_reducible first|exact HB.out|apply sa|apply sn|apply sd)|exact HB.out))) : w.heap.size ≤ gb294));have GE294:=am ((by rw [hg];exact (sz (by repeat (first|(with_reducible first|exact HB.out|apply sa|apply sn|apply sd)|exact HB.out))) : w.heap.size ≤ gb294));replace HB:=am (ss (by repeat (first|(with_reducible first|exact HB.out|apply sa|apply sn|apply sd)|exact HB.out)) hb);clear hb hbox hg))
  go_loopg [3] k (fun kq v3 w' => ∃ (x3_1 : Int),v3 = .int .i64 x3_1 ∧ Aside0 (celluloidref07_Cx.l0 kq x3_1 a0_0 a0_1 a0_2 a0_3 a0_4 a0_5 a0_6 a0_7 = some r) ∧ Aside0 (kq ≤ k) ∧ Aside0 (w'.heap[gb294]? = some (.cells #[.int .i64 a0_0,.int .i64 a0_1,.int .i64 a0_2,.int .i64 a0_3,.int .i64 a0_4,.int .i64 a0_5,.int .i64 a0_6,.int .i64 a0_7] 41 (0,0))) ∧ Aside0 (Below w.heap.size w w'))
  case atStart => exact ⟨(0),(by first|rfl|(simp;done)|(simp [*];done)),H',⟨Nat.le_refl _⟩,⟨by exact BK294.out⟩,⟨by repeat (first|(with_reducible first|exact HB.out|apply sa|apply sn|apply sd|refine sx ?_ GE294.out)|exact HB.out)⟩⟩
  case round =>
    clear H'
    try clear c2
    try clear p2
    obtain ⟨x3_1,rfl,HA,HK1,BK294,HB⟩:=hrel
    cases gk with
    | zero => exact absurd HA.out (by simp [celluloidref07_Cx.l0])
    | succ k1 =>
      have H:=HA.out;clear HA;simp only [celluloidref07_Cx.l0] at H
      by_cases c3 : x3_1 < 4
      · rw [if_pos c3] at H
        have c3b0 : decide (x3_1 < 4) = true:=decide_eq_true c3;clear c3
        by_cases c4 : x3_1 = 0
        · subst c4
          have H1 : ((celluloidref07_in.f a0_0 512).bind fun t295 => (if t295 = true then ((celluloidref07_in.f a0_4 255).bind fun t296 => (if t296 = true then (celluloidref07_Cx.l0 k1 (0 + 1) a0_0 a0_1 a0_2 a0_3 a0_4 a0_5 a0_6 a0_7) else (some false))) else (some false))) = some r:=by rw [if_pos rfl] at H;exact H
          clear H;have H:=H1;clear H1;replace H:=Option.bind_eq_some_iff.mp H;obtain ⟨t295,A50,H⟩:=H;replace H : (if t295 = true then ((celluloidref07_in.f a0_4 255).bind fun t296 => (if t296 = true then (celluloidref07_Cx.l0 k1 (0 + 1) a0_0 a0_1 a0_2 a0_3 a0_4 a0_5 a0_6 a0_7) else (some false))) else (some false)) = some r:=H;have A5:=am A50;clear A50
          by_cases c6 : t295 = true
          · subst c6
            have H1 : ((celluloidref07_in.f a0_4 255).bind fun t296 => (if t296 = true then (celluloidref07_Cx.l0 k1 (0 + 1) a0_0 a0_1 a0_2 a0_3 a0_4 a0_5 a0_6 a0_7) else (some false))) = some r:=by rw [if_pos rfl] at H;exact H
            clear H;have H:=H1;clear H1;replace H:=Option.bind_eq_some_iff.mp H;obtain ⟨t296,A70,H⟩:=H;replace H : (if t296 = true then (celluloidref07_Cx.l0 k1 (0 + 1) a0_0 a0_1 a0_2 a0_3 a0_4 a0_5 a0_6 a0_7) else (some false)) = some r:=H;have A7:=am A70;clear A70
            by_cases c8 : t296 = true
            · subst c8
              have H1 : (celluloidref07_Cx.l0 k1 (0 + 1) a0_0 a0_1 a0_2 a0_3 a0_4 a0_5 a0_6 a0_7) = some r:=by rw [if_pos rfl] at H;exact H
              clear H;have H:=H1;clear H1;have H':=am H;clear H;have hcz9_0 : wr.cell? ⟨gb294,0,none⟩ = some (.int .i64 a0_0):=(bc BK294.out 0).trans rfl;have hcz9_1 : wr.cell? ⟨gb294,1,none⟩ = some (.int .i64 a0_1):=(bc BK294.out 1).trans rfl;have hcz9_2 : wr.cell? ⟨gb294,2,none⟩ = some (.int .i64 a0_2):=(bc BK294.out 2).trans rfl;have hcz9_3 : wr.cell? ⟨gb294,3,none⟩ = some (.int .i64 a0_3):=(bc BK294.out 3).trans rfl;have hcz9_4 : wr.cell? ⟨gb294,4,none⟩ = some (.int .i64 a0_4):=(bc BK294.out 4).trans rfl;have hcz9_5 : wr.cell? ⟨gb294,5,none⟩ = some (.int .i64 a0_5):=(bc BK294.out 5).trans rfl;have hcz9_6 : wr.cell? ⟨gb294,6,none⟩ = some (.int .i64 a0_6):=(bc BK294.out 6).trans rfl;have hcz9_7 : wr.cell? ⟨gb294,7,none⟩ = some (.int .i64 a0_7):=(bc BK294.out 7).trans rfl;have hfz9_0:=bz BK294.out 0;have hfz9_1:=bz BK294.out 1;have hfz9_2:=bz BK294.out 2;have hfz9_3:=bz BK294.out 3;have hfz9_4:=bz BK294.out 4;have hfz9_5:=bz BK294.out 5;have hfz9_6:=bz BK294.out 6;have hfz9_7:=bz BK294.out 7
              go_wp2_with (first|((with_reducible refine gate_callee (f:=37) rfl ?_);refine goesL_ (some 12) rfl rfl Try.func37 (by kernel_rfl) rfl #[.int .i64 a0_0,.int .i64 512] rfl (by (try simp only [List.map_toArray,List.map_cons,List.map_nil]);first|done|rfl|(simp only [List.length_drop,List.length_take];rfl)) ?_;(with_reducible refine (celluloidref07_in.calls a0_0 512 true _ A5.out).mono ?_);rintro e w' ⟨rfl,⟨nd,rfl⟩⟩;refine ⟨_,rfl,?_⟩)|(go_at_call 37;(with_reducible refine (celluloidref07_in.calls a0_4 255 true _ A7.out).mono ?_);rintro e w' ⟨rfl,⟨nd,rfl⟩⟩))
              go_roundg k1
              case measure => have:=HK1.out;omega
              case rel => exact ⟨(0 + 1),(by first|rfl|(simp;done)|(simp [*];done)),H',⟨by have:=HK1.out;omega⟩,⟨by exact BK294.out⟩,⟨by repeat (first|(with_reducible first|exact HB.out|apply sa|apply sn|apply sd|refine sx ?_ GE294.out)|exact HB.out)⟩⟩
            · replace c8:=Bool.eq_false_iff.mpr c8
              subst c8
              have H1 : (some false) = some r:=by rw [if_neg (show ¬ (false = true) by decide)] at H;exact H
              clear H;have H:=H1;clear H1;obtain rfl:=Option.some.inj H;have hcz10_0 : wr.cell? ⟨gb294,0,none⟩ = some (.int .i64 a0_0):=(bc BK294.out 0).trans rfl;have hcz10_1 : wr.cell? ⟨gb294,1,none⟩ = some (.int .i64 a0_1):=(bc BK294.out 1).trans rfl;have hcz10_2 : wr.cell? ⟨gb294,2,none⟩ = some (.int .i64 a0_2):=(bc BK294.out 2).trans rfl;have hcz10_3 : wr.cell? ⟨gb294,3,none⟩ = some (.int .i64 a0_3):=(bc BK294.out 3).trans rfl;have hcz10_4 : wr.cell? ⟨gb294,4,none⟩ = some (.int .i64 a0_4):=(bc BK294.out 4).trans rfl;have hcz10_5 : wr.cell? ⟨gb294,5,none⟩ = some (.int .i64 a0_5):=(bc BK294.out 5).trans rfl;have hcz10_6 : wr.cell? ⟨gb294,6,none⟩ = some (.int .i64 a0_6):=(bc BK294.out 6).trans rfl;have hcz10_7 : wr.cell? ⟨gb294,7,none⟩ = some (.int .i64 a0_7):=(bc BK294.out 7).trans rfl;have hfz10_0:=bz BK294.out 0;have hfz10_1:=bz BK294.out 1;have hfz10_2:=bz BK294.out 2;have hfz10_3:=bz BK294.out 3;have hfz10_4:=bz BK294.out 4;have hfz10_5:=bz BK294.out 5;have hfz10_6:=bz BK294.out 6;have hfz10_7:=bz BK294.out 7
              go_wp2_with (first|((with_reducible refine gate_callee (f:=37) rfl ?_);refine goesL_ (some 12) rfl rfl Try.func37 (by kernel_rfl) rfl #[.int .i64 a0_0,.int .i64 512] rfl (by (try simp only [List.map_toArray,List.map_cons,List.map_nil]);first|done|rfl|(simp only [List.length_drop,List.length_take];rfl)) ?_;(with_reducible refine (celluloidref07_in.calls a0_0 512 true _ A5.out).mono ?_);rintro e w' ⟨rfl,⟨nd,rfl⟩⟩;refine ⟨_,rfl,?_⟩)|(go_at_call 37;(with_reducible refine (celluloidref07_in.calls a0_4 255 false _ A7.out).mono ?_);rintro e w' ⟨rfl,⟨nd,rfl⟩⟩))
              go_ret
              exact ⟨by first|rfl|(simp [errW_none,errW_some] <;> rfl)|(simp [*,errW_none,errW_some] <;> rfl),by repeat (first|(with_reducible first|exact HB.out|apply sa|apply sn|apply sd|refine sx ?_ GE294.out)|exact HB.out)⟩
          · replace c6:=Bool.eq_false_iff.mpr c6
            subst c6
            have H1 : (some false) = some r:=by rw [if_neg (show ¬ (false = true) by decide)] at H;exact H
            clear H;have H:=H1;clear H1;obtain rfl:=Option.some.inj H;have hcz11_0 : wr.cell? ⟨gb294,0,none⟩ = some (.int .i64 a0_0):=(bc BK294.out 0).trans rfl;have hcz11_1 : wr.cell? ⟨gb294,1,none⟩ = some (.int .i64 a0_1):=(bc BK294.out 1).trans rfl;have hcz11_2 : wr.cell? ⟨gb294,2,none⟩ = some (.int .i64 a0_2):=(bc BK294.out 2).trans rfl;have hcz11_3 : wr.cell? ⟨gb294,3,none⟩ = some (.int .i64 a0_3):=(bc BK294.out 3).trans rfl;have hcz11_4 : wr.cell? ⟨gb294,4,none⟩ = some (.int .i64 a0_4):=(bc BK294.out 4).trans rfl;have hcz11_5 : wr.cell? ⟨gb294,5,none⟩ = some (.int .i64 a0_5):=(bc BK294.out 5).trans rfl;have hcz11_6 : wr.cell? ⟨gb294,6,none⟩ = some (.int .i64 a0_6):=(bc BK294.out 6).trans rfl;have hcz11_7 : wr.cell? ⟨gb294,7,none⟩ = some (.int .i64 a0_7):=(bc BK294.out 7).trans rfl;have hfz11_0:=bz BK294.out 0;have hfz11_1:=bz BK294.out 1;have hfz11_2:=bz BK294.out 2;have hfz11_3:=bz BK294.out 3;have hfz11_4:=bz BK294.out 4;have hfz11_5:=bz BK294.out 5;have hfz11_6:=bz BK294.out 6;have hfz11_7:=bz BK294.out 7
            go_wp2_with (first|((with_reducible refine gate_callee (f:=37) rfl ?_);refine goesL_ (some 12) rfl rfl Try.func37 (by kernel_rfl) rfl #[.int .i64 a0_0,.int .i64 512] rfl (by (try simp only [List.map_toArray,List.map_cons,List.map_nil]);first|done|rfl|(simp only [List.length_drop,List.length_take];rfl)) ?_;(with_reducible refine (celluloidref07_in.calls a0_0 512 false _ A5.out).mono ?_);rintro e w' ⟨rfl,⟨nd,rfl⟩⟩;refine ⟨_,rfl,?_⟩))
            go_ret
            exact ⟨by first|rfl|(simp [errW_none,errW_some] <;> rfl)|(simp [*,errW_none,errW_some] <;> rfl),by repeat (first|(with_reducible first|exact HB.out|apply sa|apply sn|apply sd|refine sx ?_ GE294.out)|exact HB.out)⟩
        · rw [if_neg c4] at H
          by_cases c12 : x3_1 = 1
          · subst c12
            have H1 : ((celluloidref07_in.f a0_1 512).bind fun t297 => (if t297 = true then ((celluloidref07_in.f a0_5 255).bind fun t298 => (if t298 = true then (celluloidref07_Cx.l0 k1 (1 + 1) a0_0 a0_1 a0_2 a0_3 a0_4 a0_5 a0_6 a0_7) else (some false))) else (some false))) = some r:=by rw [if_pos rfl] at H;exact H
            clear H;have H:=H1;clear H1;replace H:=Option.bind_eq_some_iff.mp H;obtain ⟨t297,A130,H⟩:=H;replace H : (if t297 = true then ((celluloidref07_in.f a0_5 255).bind fun t298 => (if t298 = true then (celluloidref07_Cx.l0 k1 (1 + 1) a0_0 a0_1 a0_2 a0_3 a0_4 a0_5 a0_6 a0_7) else (some false))) else (some false)) = some r:=H;have A13:=am A130;clear A130
            by_cases c14 : t297 = true
            · subst c14
              have H1 : ((celluloidref07_in.f a0_5 255).bind fun t298 => (if t298 = true then (celluloidref07_Cx.l0 k1 (1 + 1) a0_0 a0_1 a0_2 a0_3 a0_4 a0_5 a0_6 a0_7) else (some false))) = some r:=by rw [if_pos rfl] at H;exact H
              clear H;have H:=H1;clear H1;replace H:=Option.bind_eq_some_iff.mp H;obtain ⟨t298,A150,H⟩:=H;replace H : (if t298 = true then (celluloidref07_Cx.l0 k1 (1 + 1) a0_0 a0_1 a0_2 a0_3 a0_4 a0_5 a0_6 a0_7) else (some false)) = some r:=H;have A15:=am A150;clear A150
              by_cases c16 : t298 = true
              · subst c16
                have H1 : (celluloidref07_Cx.l0 k1 (1 + 1) a0_0 a0_1 a0_2 a0_3 a0_4 a0_5 a0_6 a0_7) = some r:=by rw [if_pos rfl] at H;exact H
                clear H;have H:=H1;clear H1;have H':=am H;clear H;have hcz17_0 : wr.cell? ⟨gb294,0,none⟩ = some (.int .i64 a0_0):=(bc BK294.out 0).trans rfl;have hcz17_1 : wr.cell? ⟨gb294,1,none⟩ = some (.int .i64 a0_1):=(bc BK294.out 1).trans rfl;have hcz17_2 : wr.cell? ⟨gb294,2,none⟩ = some (.int .i64 a0_2):=(bc BK294.out 2).trans rfl;have hcz17_3 : wr.cell? ⟨gb294,3,none⟩ = some (.int .i64 a0_3):=(bc BK294.out 3).trans rfl;have hcz17_4 : wr.cell? ⟨gb294,4,none⟩ = some (.int .i64 a0_4):=(bc BK294.out 4).trans rfl;have hcz17_5 : wr.cell? ⟨gb294,5,none⟩ = some (.int .i64 a0_5):=(bc BK294.out 5).trans rfl;have hcz17_6 : wr.cell? ⟨gb294,6,none⟩ = some (.int .i64 a0_6):=(bc BK294.out 6).trans rfl;have hcz17_7 : wr.cell? ⟨gb294,7,none⟩ = some (.int .i64 a0_7):=(bc BK294.out 7).trans rfl;have hfz17_0:=bz BK294.out 0;have hfz17_1:=bz BK294.out 1;have hfz17_2:=bz BK294.out 2;have hfz17_3:=bz BK294.out 3;have hfz17_4:=bz BK294.out 4;have hfz17_5:=bz BK294.out 5;have hfz17_6:=bz BK294.out 6;have hfz17_7:=bz BK294.out 7
                go_wp2_with (first|((with_reducible refine gate_callee (f:=37) rfl ?_);refine goesL_ (some 12) rfl rfl Try.func37 (by kernel_rfl) rfl #[.int .i64 a0_1,.int .i64 512] rfl (by (try simp only [List.map_toArray,List.map_cons,List.map_nil]);first|done|rfl|(simp only [List.length_drop,List.length_take];rfl)) ?_;(with_reducible refine (celluloidref07_in.calls a0_1 512 true _ A13.out).mono ?_);rintro e w' ⟨rfl,⟨nd,rfl⟩⟩;refine ⟨_,rfl,?_⟩)|(go_at_call 37;(with_reducible refine (celluloidref07_in.calls a0_5 255 true _ A15.out).mono ?_);rintro e w' ⟨rfl,⟨nd,rfl⟩⟩))
                go_roundg k1
                case measure => have:=HK1.out;omega
                case rel => exact ⟨(1 + 1),(by first|rfl|(simp;done)|(simp [*];done)),H',⟨by have:=HK1.out;omega⟩,⟨by exact BK294.out⟩,⟨by repeat (first|(with_reducible first|exact HB.out|apply sa|apply sn|apply sd|refine sx ?_ GE294.out)|exact HB.out)⟩⟩
              · replace c16:=Bool.eq_false_iff.mpr c16
                subst c16
                have H1 : (some false) = some r:=by rw [if_neg (show ¬ (false = true) by decide)] at H;exact H
                clear H;have H:=H1;clear H1;obtain rfl:=Option.some.inj H;have hcz18_0 : wr.cell? ⟨gb294,0,none⟩ = some (.int .i64 a0_0):=(bc BK294.out 0).trans rfl;have hcz18_1 : wr.cell? ⟨gb294,1,none⟩ = some (.int .i64 a0_1):=(bc BK294.out 1).trans rfl;have hcz18_2 : wr.cell? ⟨gb294,2,none⟩ = some (.int .i64 a0_2):=(bc BK294.out 2).trans rfl;have hcz18_3 : wr.cell? ⟨gb294,3,none⟩ = some (.int .i64 a0_3):=(bc BK294.out 3).trans rfl;have hcz18_4 : wr.cell? ⟨gb294,4,none⟩ = some (.int .i64 a0_4):=(bc BK294.out 4).trans rfl;have hcz18_5 : wr.cell? ⟨gb294,5,none⟩ = some (.int .i64 a0_5):=(bc BK294.out 5).trans rfl;have hcz18_6 : wr.cell? ⟨gb294,6,none⟩ = some (.int .i64 a0_6):=(bc BK294.out 6).trans rfl;have hcz18_7 : wr.cell? ⟨gb294,7,none⟩ = some (.int .i64 a0_7):=(bc BK294.out 7).trans rfl;have hfz18_0:=bz BK294.out 0;have hfz18_1:=bz BK294.out 1;have hfz18_2:=bz BK294.out 2;have hfz18_3:=bz BK294.out 3;have hfz18_4:=bz BK294.out 4;have hfz18_5:=bz BK294.out 5;have hfz18_6:=bz BK294.out 6;have hfz18_7:=bz BK294.out 7
                go_wp2_with (first|((with_reducible refine gate_callee (f:=37) rfl ?_);refine goesL_ (some 12) rfl rfl Try.func37 (by kernel_rfl) rfl #[.int .i64 a0_1,.int .i64 512] rfl (by (try simp only [List.map_toArray,List.map_cons,List.map_nil]);first|done|rfl|(simp only [List.length_drop,List.length_take];rfl)) ?_;(with_reducible refine (celluloidref07_in.calls a0_1 512 true _ A13.out).mono ?_);rintro e w' ⟨rfl,⟨nd,rfl⟩⟩;refine ⟨_,rfl,?_⟩)|(go_at_call 37;(with_reducible refine (celluloidref07_in.calls a0_5 255 false _ A15.out).mono ?_);rintro e w' ⟨rfl,⟨nd,rfl⟩⟩))
                go_ret
                exact ⟨by first|rfl|(simp [errW_none,errW_some] <;> rfl)|(simp [*,errW_none,errW_some] <;> rfl),by repeat (first|(with_reducible first|exact HB.out|apply sa|apply sn|apply sd|refine sx ?_ GE294.out)|exact HB.out)⟩
            · replace c14:=Bool.eq_false_iff.mpr c14
              subst c14
              have H1 : (some false) = some r:=by rw [if_neg (show ¬ (false = true) by decide)] at H;exact H
              clear H;have H:=H1;clear H1;obtain rfl:=Option.some.inj H;have hcz19_0 : wr.cell? ⟨gb294,0,none⟩ = some (.int .i64 a0_0):=(bc BK294.out 0).trans rfl;have hcz19_1 : wr.cell? ⟨gb294,1,none⟩ = some (.int .i64 a0_1):=(bc BK294.out 1).trans rfl;have hcz19_2 : wr.cell? ⟨gb294,2,none⟩ = some (.int .i64 a0_2):=(bc BK294.out 2).trans rfl;have hcz19_3 : wr.cell? ⟨gb294,3,none⟩ = some (.int .i64 a0_3):=(bc BK294.out 3).trans rfl;have hcz19_4 : wr.cell? ⟨gb294,4,none⟩ = some (.int .i64 a0_4):=(bc BK294.out 4).trans rfl;have hcz19_5 : wr.cell? ⟨gb294,5,none⟩ = some (.int .i64 a0_5):=(bc BK294.out 5).trans rfl;have hcz19_6 : wr.cell? ⟨gb294,6,none⟩ = some (.int .i64 a0_6):=(bc BK294.out 6).trans rfl;have hcz19_7 : wr.cell? ⟨gb294,7,none⟩ = some (.int .i64 a0_7):=(bc BK294.out 7).trans rfl;have hfz19_0:=bz BK294.out 0;have hfz19_1:=bz BK294.out 1;have hfz19_2:=bz BK294.out 2;have hfz19_3:=bz BK294.out 3;have hfz19_4:=bz BK294.out 4;have hfz19_5:=bz BK294.out 5;have hfz19_6:=bz BK294.out 6;have hfz19_7:=bz BK294.out 7
              go_wp2_with (first|((with_reducible refine gate_callee (f:=37) rfl ?_);refine goesL_ (some 12) rfl rfl Try.func37 (by kernel_rfl) rfl #[.int .i64 a0_1,.int .i64 512] rfl (by (try simp only [List.map_toArray,List.map_cons,List.map_nil]);first|done|rfl|(simp only [List.length_drop,List.length_take];rfl)) ?_;(with_reducible refine (celluloidref07_in.calls a0_1 512 false _ A13.out).mono ?_);rintro e w' ⟨rfl,⟨nd,rfl⟩⟩;refine ⟨_,rfl,?_⟩))
              go_ret
              exact ⟨by first|rfl|(simp [errW_none,errW_some] <;> rfl)|(simp [*,errW_none,errW_some] <;> rfl),by repeat (first|(with_reducible first|exact HB.out|apply sa|apply sn|apply sd|refine sx ?_ GE294.out)|exact HB.out)⟩
          · rw [if_neg c12] at H
            by_cases c20 : x3_1 = 2
            · subst c20
              have H1 : ((celluloidref07_in.f a0_2 512).bind fun t299 => (if t299 = true then ((celluloidref07_in.f a0_6 255).bind fun t300 => (if t300 = true then (celluloidref07_Cx.l0 k1 (2 + 1) a0_0 a0_1 a0_2 a0_3 a0_4 a0_5 a0_6 a0_7) else (some false))) else (some false))) = some r:=by rw [if_pos rfl] at H;exact H
              clear H;have H:=H1;clear H1;replace H:=Option.bind_eq_some_iff.mp H;obtain ⟨t299,A210,H⟩:=H;replace H : (if t299 = true then ((celluloidref07_in.f a0_6 255).bind fun t300 => (if t300 = true then (celluloidref07_Cx.l0 k1 (2 + 1) a0_0 a0_1 a0_2 a0_3 a0_4 a0_5 a0_6 a0_7) else (some false))) else (some false)) = some r:=H;have A21:=am A210;clear A210
              by_cases c22 : t299 = true
              · subst c22
                have H1 : ((celluloidref07_in.f a0_6 255).bind fun t300 => (if t300 = true then (celluloidref07_Cx.l0 k1 (2 + 1) a0_0 a0_1 a0_2 a0_3 a0_4 a0_5 a0_6 a0_7) else (some false))) = some r:=by rw [if_pos rfl] at H;exact H
                clear H;have H:=H1;clear H1;replace H:=Option.bind_eq_some_iff.mp H;obtain ⟨t300,A230,H⟩:=H;replace H : (if t300 = true then (celluloidref07_Cx.l0 k1 (2 + 1) a0_0 a0_1 a0_2 a0_3 a0_4 a0_5 a0_6 a0_7) else (some false)) = some r:=H;have A23:=am A230;clear A230
                by_cases c24 : t300 = true
                · subst c24
                  have H1 : (celluloidref07_Cx.l0 k1 (2 + 1) a0_0 a0_1 a0_2 a0_3 a0_4 a0_5 a0_6 a0_7) = some r:=by rw [if_pos rfl] at H;exact H
                  clear H;have H:=H1;clear H1;have H':=am H;clear H;have hcz25_0 : wr.cell? ⟨gb294,0,none⟩ = some (.int .i64 a0_0):=(bc BK294.out 0).trans rfl;have hcz25_1 : wr.cell? ⟨gb294,1,none⟩ = some (.int .i64 a0_1):=(bc BK294.out 1).trans rfl;have hcz25_2 : wr.cell? ⟨gb294,2,none⟩ = some (.int .i64 a0_2):=(bc BK294.out 2).trans rfl;have hcz25_3 : wr.cell? ⟨gb294,3,none⟩ = some (.int .i64 a0_3):=(bc BK294.out 3).trans rfl;have hcz25_4 : wr.cell? ⟨gb294,4,none⟩ = some (.int .i64 a0_4):=(bc BK294.out 4).trans rfl;have hcz25_5 : wr.cell? ⟨gb294,5,none⟩ = some (.int .i64 a0_5):=(bc BK294.out 5).trans rfl;have hcz25_6 : wr.cell? ⟨gb294,6,none⟩ = some (.int .i64 a0_6):=(bc BK294.out 6).trans rfl;have hcz25_7 : wr.cell? ⟨gb294,7,none⟩ = some (.int .i64 a0_7):=(bc BK294.out 7).trans rfl;have hfz25_0:=bz BK294.out 0;have hfz25_1:=bz BK294.out 1;have hfz25_2:=bz BK294.out 2;have hfz25_3:=bz BK294.out 3;have hfz25_4:=bz BK294.out 4;have hfz25_5:=bz BK294.out 5;have hfz25_6:=bz BK294.out 6;have hfz25_7:=bz BK294.out 7
                  go_wp2_with (first|((with_reducible refine gate_callee (f:=37) rfl ?_);refine goesL_ (some 12) rfl rfl Try.func37 (by kernel_rfl) rfl #[.int .i64 a0_2,.int .i64 512] rfl (by (try simp only [List.map_toArray,List.map_cons,List.map_nil]);first|done|rfl|(simp only [List.length_drop,List.length_take];rfl)) ?_;(with_reducible refine (celluloidref07_in.calls a0_2 512 true _ A21.out).mono ?_);rintro e w' ⟨rfl,⟨nd,rfl⟩⟩;refine ⟨_,rfl,?_⟩)|(go_at_call 37;(with_reducible refine (celluloidref07_in.calls a0_6 255 true _ A23.out).mono ?_);rintro e w' ⟨rfl,⟨nd,rfl⟩⟩))
                  go_roundg k1
                  case measure => have:=HK1.out;omega
                  case rel => exact ⟨(2 + 1),(by first|rfl|(simp;done)|(simp [*];done)),H',⟨by have:=HK1.out;omega⟩,⟨by exact BK294.out⟩,⟨by repeat (first|(with_reducible first|exact HB.out|apply sa|apply sn|apply sd|refine sx ?_ GE294.out)|exact HB.out)⟩⟩
                · replace c24:=Bool.eq_false_iff.mpr c24
                  subst c24
                  have H1 : (some false) = some r:=by rw [if_neg (show ¬ (false = true) by decide)] at H;exact H
                  clear H;have H:=H1;clear H1;obtain rfl:=Option.some.inj H;have hcz26_0 : wr.cell? ⟨gb294,0,none⟩ = some (.int .i64 a0_0):=(bc BK294.out 0).trans rfl;have hcz26_1 : wr.cell? ⟨gb294,1,none⟩ = some (.int .i64 a0_1):=(bc BK294.out 1).trans rfl;have hcz26_2 : wr.cell? ⟨gb294,2,none⟩ = some (.int .i64 a0_2):=(bc BK294.out 2).trans rfl;have hcz26_3 : wr.cell? ⟨gb294,3,none⟩ = some (.int .i64 a0_3):=(bc BK294.out 3).trans rfl;have hcz26_4 : wr.cell? ⟨gb294,4,none⟩ = some (.int .i64 a0_4):=(bc BK294.out 4).trans rfl;have hcz26_5 : wr.cell? ⟨gb294,5,none⟩ = some (.int .i64 a0_5):=(bc BK294.out 5).trans rfl;have hcz26_6 : wr.cell? ⟨gb294,6,none⟩ = some (.int .i64 a0_6):=(bc BK294.out 6).trans rfl;have hcz26_7 : wr.cell? ⟨gb294,7,none⟩ = some (.int .i64 a0_7):=(bc BK294.out 7).trans rfl;have hfz26_0:=bz BK294.out 0;have hfz26_1:=bz BK294.out 1;have hfz26_2:=bz BK294.out 2;have hfz26_3:=bz BK294.out 3;have hfz26_4:=bz BK294.out 4;have hfz26_5:=bz BK294.out 5;have hfz26_6:=bz BK294.out 6;have hfz26_7:=bz BK294.out 7
                  go_wp2_with (first|((with_reducible refine gate_callee (f:=37) rfl ?_);refine goesL_ (some 12) rfl rfl Try.func37 (by kernel_rfl) rfl #[.int .i64 a0_2,.int .i64 512] rfl (by (try simp only [List.map_toArray,List.map_cons,List.map_nil]);first|done|rfl|(simp only [List.length_drop,List.length_take];rfl)) ?_;(with_reducible refine (celluloidref07_in.calls a0_2 512 true _ A21.out).mono ?_);rintro e w' ⟨rfl,⟨nd,rfl⟩⟩;refine ⟨_,rfl,?_⟩)|(go_at_call 37;(with_reducible refine (celluloidref07_in.calls a0_6 255 false _ A23.out).mono ?_);rintro e w' ⟨rfl,⟨nd,rfl⟩⟩))
                  go_ret
                  exact ⟨by first|rfl|(simp [errW_none,errW_some] <;> rfl)|(simp [*,errW_none,errW_some] <;> rfl),by repeat (first|(with_reducible first|exact HB.out|apply sa|apply sn|apply sd|refine sx ?_ GE294.out)|exact HB.out)⟩
              · replace c22:=Bool.eq_false_iff.mpr c22
                subst c22
                have H1 : (some false) = some r:=by rw [if_neg (show ¬ (false = true) by decide)] at H;exact H
                clear H;have H:=H1;clear H1;obtain rfl:=Option.some.inj H;have hcz27_0 : wr.cell? ⟨gb294,0,none⟩ = some (.int .i64 a0_0):=(bc BK294.out 0).trans rfl;have hcz27_1 : wr.cell? ⟨gb294,1,none⟩ = some (.int .i64 a0_1):=(bc BK294.out 1).trans rfl;have hcz27_2 : wr.cell? ⟨gb294,2,none⟩ = some (.int .i64 a0_2):=(bc BK294.out 2).trans rfl;have hcz27_3 : wr.cell? ⟨gb294,3,none⟩ = some (.int .i64 a0_3):=(bc BK294.out 3).trans rfl;have hcz27_4 : wr.cell? ⟨gb294,4,none⟩ = some (.int .i64 a0_4):=(bc BK294.out 4).trans rfl;have hcz27_5 : wr.cell? ⟨gb294,5,none⟩ = some (.int .i64 a0_5):=(bc BK294.out 5).trans rfl;have hcz27_6 : wr.cell? ⟨gb294,6,none⟩ = some (.int .i64 a0_6):=(bc BK294.out 6).trans rfl;have hcz27_7 : wr.cell? ⟨gb294,7,none⟩ = some (.int .i64 a0_7):=(bc BK294.out 7).trans rfl;have hfz27_0:=bz BK294.out 0;have hfz27_1:=bz BK294.out 1;have hfz27_2:=bz BK294.out 2;have hfz27_3:=bz BK294.out 3;have hfz27_4:=bz BK294.out 4;have hfz27_5:=bz BK294.out 5;have hfz27_6:=bz BK294.out 6;have hfz27_7:=bz BK294.out 7
                go_wp2_with (first|((with_reducible refine gate_callee (f:=37) rfl ?_);refine goesL_ (some 12) rfl rfl Try.func37 (by kernel_rfl) rfl #[.int .i64 a0_2,.int .i64 512] rfl (by (try simp only [List.map_toArray,List.map_cons,List.map_nil]);first|done|rfl|(simp only [List.length_drop,List.length_take];rfl)) ?_;(with_reducible refine (celluloidref07_in.calls a0_2 512 false _ A21.out).mono ?_);rintro e w' ⟨rfl,⟨nd,rfl⟩⟩;refine ⟨_,rfl,?_⟩))
                go_ret
                exact ⟨by first|rfl|(simp [errW_none,errW_some] <;> rfl)|(simp [*,errW_none,errW_some] <;> rfl),by repeat (first|(with_reducible first|exact HB.out|apply sa|apply sn|apply sd|refine sx ?_ GE294.out)|exact HB.out)⟩
            · rw [if_neg c20] at H
              by_cases c28 : x3_1 = 3
              · subst c28
                have H1 : ((celluloidref07_in.f a0_3 512).bind fun t301 => (if t301 = true then ((celluloidref07_in.f a0_7 255).bind fun t302 => (if t302 = true then (celluloidref07_Cx.l0 k1 (3 + 1) a0_0 a0_1 a0_2 a0_3 a0_4 a0_5 a0_6 a0_7) else (some false))) else (some false))) = some r:=by rw [if_pos rfl] at H;exact H
                clear H;have H:=H1;clear H1;replace H:=Option.bind_eq_some_iff.mp H;obtain ⟨t301,A290,H⟩:=H;replace H : (if t301 = true then ((celluloidref07_in.f a0_7 255).bind fun t302 => (if t302 = true then (celluloidref07_Cx.l0 k1 (3 + 1) a0_0 a0_1 a0_2 a0_3 a0_4 a0_5 a0_6 a0_7) else (some false))) else (some false)) = some r:=H;have A29:=am A290;clear A290
                by_cases c30 : t301 = true
                · subst c30
                  have H1 : ((celluloidref07_in.f a0_7 255).bind fun t302 => (if t302 = true then (celluloidref07_Cx.l0 k1 (3 + 1) a0_0 a0_1 a0_2 a0_3 a0_4 a0_5 a0_6 a0_7) else (some false))) = some r:=by rw [if_pos rfl] at H;exact H
                  clear H;have H:=H1;clear H1;replace H:=Option.bind_eq_some_iff.mp H;obtain ⟨t302,A310,H⟩:=H;replace H : (if t302 = true then (celluloidref07_Cx.l0 k1 (3 + 1) a0_0 a0_1 a0_2 a0_3 a0_4 a0_5 a0_6 a0_7) else (some false)) = some r:=H;have A31:=am A310;clear A310
                  by_cases c32 : t302 = true
                  · subst c32
                    have H1 : (celluloidref07_Cx.l0 k1 (3 + 1) a0_0 a0_1 a0_2 a0_3 a0_4 a0_5 a0_6 a0_7) = some r:=by rw [if_pos rfl] at H;exact H
                    clear H;have H:=H1;clear H1;have H':=am H;clear H;have hcz33_0 : wr.cell? ⟨gb294,0,none⟩ = some (.int .i64 a0_0):=(bc BK294.out 0).trans rfl;have hcz33_1 : wr.cell? ⟨gb294,1,none⟩ = some (.int .i64 a0_1):=(bc BK294.out 1).trans rfl;have hcz33_2 : wr.cell? ⟨gb294,2,none⟩ = some (.int .i64 a0_2):=(bc BK294.out 2).trans rfl;have hcz33_3 : wr.cell? ⟨gb294,3,none⟩ = some (.int .i64 a0_3):=(bc BK294.out 3).trans rfl;have hcz33_4 : wr.cell? ⟨gb294,4,none⟩ = some (.int .i64 a0_4):=(bc BK294.out 4).trans rfl;have hcz33_5 : wr.cell? ⟨gb294,5,none⟩ = some (.int .i64 a0_5):=(bc BK294.out 5).trans rfl;have hcz33_6 : wr.cell? ⟨gb294,6,none⟩ = some (.int .i64 a0_6):=(bc BK294.out 6).trans rfl;have hcz33_7 : wr.cell? ⟨gb294,7,none⟩ = some (.int .i64 a0_7):=(bc BK294.out 7).trans rfl;have hfz33_0:=bz BK294.out 0;have hfz33_1:=bz BK294.out 1;have hfz33_2:=bz BK294.out 2;have hfz33_3:=bz BK294.out 3;have hfz33_4:=bz BK294.out 4;have hfz33_5:=bz BK294.out 5;have hfz33_6:=bz BK294.out 6;have hfz33_7:=bz BK294.out 7
                    go_wp2_with (first|((with_reducible refine gate_callee (f:=37) rfl ?_);refine goesL_ (some 12) rfl rfl Try.func37 (by kernel_rfl) rfl #[.int .i64 a0_3,.int .i64 512] rfl (by (try simp only [List.map_toArray,List.map_cons,List.map_nil]);first|done|rfl|(simp only [List.length_drop,List.length_take];rfl)) ?_;(with_reducible refine (celluloidref07_in.calls a0_3 512 true _ A29.out).mono ?_);rintro e w' ⟨rfl,⟨nd,rfl⟩⟩;refine ⟨_,rfl,?_⟩)|(go_at_call 37;(with_reducible refine (celluloidref07_in.calls a0_7 255 true _ A31.out).mono ?_);rintro e w' ⟨rfl,⟨nd,rfl⟩⟩))
                    go_roundg k1
                    case measure => have:=HK1.out;omega
                    case rel => exact ⟨(3 + 1),(by first|rfl|(simp;done)|(simp [*];done)),H',⟨by have:=HK1.out;omega⟩,⟨by exact BK294.out⟩,⟨by repeat (first|(with_reducible first|exact HB.out|apply sa|apply sn|apply sd|refine sx ?_ GE294.out)|exact HB.out)⟩⟩
                  · replace c32:=Bool.eq_false_iff.mpr c32
                    subst c32
                    have H1 : (some false) = some r:=by rw [if_neg (show ¬ (false = true) by decide)] at H;exact H
                    clear H;have H:=H1;clear H1;obtain rfl:=Option.some.inj H;have hcz34_0 : wr.cell? ⟨gb294,0,none⟩ = some (.int .i64 a0_0):=(bc BK294.out 0).trans rfl;have hcz34_1 : wr.cell? ⟨gb294,1,none⟩ = some (.int .i64 a0_1):=(bc BK294.out 1).trans rfl;have hcz34_2 : wr.cell? ⟨gb294,2,none⟩ = some (.int .i64 a0_2):=(bc BK294.out 2).trans rfl;have hcz34_3 : wr.cell? ⟨gb294,3,none⟩ = some (.int .i64 a0_3):=(bc BK294.out 3).trans rfl;have hcz34_4 : wr.cell? ⟨gb294,4,none⟩ = some (.int .i64 a0_4):=(bc BK294.out 4).trans rfl;have hcz34_5 : wr.cell? ⟨gb294,5,none⟩ = some (.int .i64 a0_5):=(bc BK294.out 5).trans rfl;have hcz34_6 : wr.cell? ⟨gb294,6,none⟩ = some (.int .i64 a0_6):=(bc BK294.out 6).trans rfl;have hcz34_7 : wr.cell? ⟨gb294,7,none⟩ = some (.int .i64 a0_7):=(bc BK294.out 7).trans rfl;have hfz34_0:=bz BK294.out 0;have hfz34_1:=bz BK294.out 1;have hfz34_2:=bz BK294.out 2;have hfz34_3:=bz BK294.out 3;have hfz34_4:=bz BK294.out 4;have hfz34_5:=bz BK294.out 5;have hfz34_6:=bz BK294.out 6;have hfz34_7:=bz BK294.out 7
                    go_wp2_with (first|((with_reducible refine gate_callee (f:=37) rfl ?_);refine goesL_ (some 12) rfl rfl Try.func37 (by kernel_rfl) rfl #[.int .i64 a0_3,.int .i64 512] rfl (by (try simp only [List.map_toArray,List.map_cons,List.map_nil]);first|done|rfl|(simp only [List.length_drop,List.length_take];rfl)) ?_;(with_reducible refine (celluloidref07_in.calls a0_3 512 true _ A29.out).mono ?_);rintro e w' ⟨rfl,⟨nd,rfl⟩⟩;refine ⟨_,rfl,?_⟩)|(go_at_call 37;(with_reducible refine (celluloidref07_in.calls a0_7 255 false _ A31.out).mono ?_);rintro e w' ⟨rfl,⟨nd,rfl⟩⟩))
                    go_ret
                    exact ⟨by first|rfl|(simp [errW_none,errW_some] <;> rfl)|(simp [*,errW_none,errW_some] <;> rfl),by repeat (first|(with_reducible first|exact HB.out|apply sa|apply sn|apply sd|refine sx ?_ GE294.out)|exact HB.out)⟩
                · replace c30:=Bool.eq_false_iff.mpr c30
                  subst c30
                  have H1 : (some false) = some r:=by rw [if_neg (show ¬ (false = true) by decide)] at H;exact H
                  clear H;have H:=H1;clear H1;obtain rfl:=Option.some.inj H;have hcz35_0 : wr.cell? ⟨gb294,0,none⟩ = some (.int .i64 a0_0):=(bc BK294.out 0).trans rfl;have hcz35_1 : wr.cell? ⟨gb294,1,none⟩ = some (.int .i64 a0_1):=(bc BK294.out 1).trans rfl;have hcz35_2 : wr.cell? ⟨gb294,2,none⟩ = some (.int .i64 a0_2):=(bc BK294.out 2).trans rfl;have hcz35_3 : wr.cell? ⟨gb294,3,none⟩ = some (.int .i64 a0_3):=(bc BK294.out 3).trans rfl;have hcz35_4 : wr.cell? ⟨gb294,4,none⟩ = some (.int .i64 a0_4):=(bc BK294.out 4).trans rfl;have hcz35_5 : wr.cell? ⟨gb294,5,none⟩ = some (.int .i64 a0_5):=(bc BK294.out 5).trans rfl;have hcz35_6 : wr.cell? ⟨gb294,6,none⟩ = some (.int .i64 a0_6):=(bc BK294.out 6).trans rfl;have hcz35_7 : wr.cell? ⟨gb294,7,none⟩ = some (.int .i64 a0_7):=(bc BK294.out 7).trans rfl;have hfz35_0:=bz BK294.out 0;have hfz35_1:=bz BK294.out 1;have hfz35_2:=bz BK294.out 2;have hfz35_3:=bz BK294.out 3;have hfz35_4:=bz BK294.out 4;have hfz35_5:=bz BK294.out 5;have hfz35_6:=bz BK294.out 6;have hfz35_7:=bz BK294.out 7
                  go_wp2_with (first|((with_reducible refine gate_callee (f:=37) rfl ?_);refine goesL_ (some 12) rfl rfl Try.func37 (by kernel_rfl) rfl #[.int .i64 a0_3,.int .i64 512] rfl (by (try simp only [List.map_toArray,List.map_cons,List.map_nil]);first|done|rfl|(simp only [List.length_drop,List.length_take];rfl)) ?_;(with_reducible refine (celluloidref07_in.calls a0_3 512 false _ A29.out).mono ?_);rintro e w' ⟨rfl,⟨nd,rfl⟩⟩;refine ⟨_,rfl,?_⟩))
                  go_ret
                  exact ⟨by first|rfl|(simp [errW_none,errW_some] <;> rfl)|(simp [*,errW_none,errW_some] <;> rfl),by repeat (first|(with_reducible first|exact HB.out|apply sa|apply sn|apply sd|refine sx ?_ GE294.out)|exact HB.out)⟩
              · rw [if_neg c28] at H
                exact absurd H (by simp)
      · rw [if_neg c3] at H
        have c3b0 : decide (x3_1 < 4) = false:=decide_eq_false c3;clear c3;obtain rfl:=Option.some.inj H
        go_wp2
        go_ret
        exact ⟨by first|rfl|(simp [errW_none,errW_some] <;> rfl)|(simp [*,errW_none,errW_some] <;> rfl),by repeat (first|(with_reducible first|exact HB.out|apply sa|apply sn|apply sd|refine sx ?_ GE294.out)|exact HB.out)⟩

/-! ### celluloidref07_RGBA: function 22 -/
def celluloidref07_RGBA.l0 : Nat → List Int → Int → Int → Option (Bool)
  | 0,_,_,_ => none
  | k + 1,x13,x14,x15 => if x15 < x14 then (if 0 ≤ x15 then (if x15 < (x13.length : Int) then (if (rd x13 x15) < 0 then (some false) else (if (rd x13 x15) > 255 then (some false) else (celluloidref07_RGBA.l0 k x13 x14 (wrap64 (x15 + 1))))) else (none)) else (none)) else (some true)
def celluloidref07_RGBA.f (k : Nat) (a0_0 : Int) (a0_1 : Int) (a0_2 : Int) (a0_3 : Int) : Option (Bool):=(some (([a0_0,a0_1,a0_2,a0_3] : List Int) : List Int)).bind fun y304 => (celluloidref07_RGBA.l0 k y304 (y304.length : Int) 0)
theorem celluloidref07_RGBA.mono_l : ∀ k,(∀ y0 y1 y2,LeO (celluloidref07_RGBA.l0 k y0 y1 y2) (celluloidref07_RGBA.l0 (k + 1) y0 y1 y2))
  | 0 => fun _ _ _ r h => by simp [celluloidref07_RGBA.l0] at h
  | k + 1 => by
    have ih0:=celluloidref07_RGBA.mono_l k
    · intro y0 y1 y2
      unfold celluloidref07_RGBA.l0
      repeat' first
      | (with_reducible exact ih0 _ _ _)
      | (with_reducible exact LeO.refl _)
      | (with_reducible exact LeO.none _)
      | (with_reducible refine LeO.ite ?_ ?_)
      | (with_reducible refine LeO.bind ?_ (fun _ => ?_))
      | exact ih0 _ _ _
      | exact LeO.none _
      | refine LeO.ite ?_ ?_
      | refine LeO.bind ?_ (fun _ => ?_)
theorem celluloidref07_RGBA.mono : ∀ a0 a1 a2 a3 k,LeO (celluloidref07_RGBA.f k a0 a1 a2 a3) (celluloidref07_RGBA.f (k + 1) a0 a1 a2 a3):=by
  intro a0 a1 a2 a3 k
  have ih0:=celluloidref07_RGBA.mono_l k
  unfold celluloidref07_RGBA.f
  repeat' first
      | (with_reducible exact ih0 _ _ _)
      | (with_reducible exact LeO.refl _)
      | (with_reducible exact LeO.none _)
      | (with_reducible refine LeO.ite ?_ ?_)
      | (with_reducible refine LeO.bind ?_ (fun _ => ?_))
      | exact ih0 _ _ _
      | exact LeO.none _
      | refine LeO.ite ?_ ?_
      | refine LeO.bind ?_ (fun _ => ?_)
set_option maxHeartbeats 8000000 in
set_option maxRecDepth 100000 in
theorem celluloidref07_RGBA.calls (k : Nat) (a0_0 : Int) (a0_1 : Int) (a0_2 : Int) (a0_3 : Int) (r : Bool) (w : World) (h : celluloidref07_RGBA.f k a0_0 a0_1 a0_2 a0_3 = some r) :
    Calls Try.prog 22 #[.agg #[.int .i64 a0_0,.int .i64 a0_1,.int .i64 a0_2,.int .i64 a0_3]] w fun e w' => e = .returned (.bool r) ∧ Below w.heap.size w w':=by
  have hu43:=Try.underlying43;have HB:=am (Below.refl w.heap.size w);have H : ((some (([a0_0,a0_1,a0_2,a0_3] : List Int) : List Int)).bind fun y304 => (celluloidref07_RGBA.l0 k y304 (y304.length : Int) 0)) = some r:=h;clear h;obtain ⟨y304,hy304⟩ : ∃ y_ : List Int,y_ = (([a0_0,a0_1,a0_2,a0_3] : List Int)):=⟨_,rfl⟩
  replace H : (celluloidref07_RGBA.l0 k y304 (y304.length : Int) 0) = some r:=by first|(rw [hy304];with_reducible exact H)|(have H2_:=(Option.bind_some _ _).symm.trans H;rw [hy304];with_reducible exact H2_)|(have H2_:=(Option.bind_some _ _).symm.trans H;with_reducible exact H2_)|with_reducible exact H|(rw [hy304];exact H)|exact H
  have Ny304:=am hy304;clear hy304;have H':=am H;clear H
  go_enter Try.func22,Try.ntmps22
  go_wp2_with (first|((with_reducible refine gate_dst (N:=1) rfl ?_);refine box_event ?hg (N:=1) ?hd (cs:=#[.int .i64 a0_0,.int .i64 a0_1,.int .i64 a0_2,.int .i64 a0_3]) (t:=43) ?hr ?_;(case hd => rfl);(case hg => rfl);(case hr => first|(go_simp;done)|(go_simp;rfl));intro gb303 hg w2 hbox hb;have BK303:=am (hbox);have GW303:=am ((by rw [hg];exact (sz (by repeat (first|(with_reducible first|exact HB.out|apply sa|apply sn|apply sd)|exact HB.out))) : w.heap.size ≤ gb303));have GE303:=am ((by rw [hg];exact (sz (by repeat (first|(with_reducible first|exact HB.out|apply sa|apply sn|apply sd)|exact HB.out))) : w.heap.size ≤ gb303));replace HB:=am (ss (by repeat (first|(with_reducible first|exact HB.out|apply sa|apply sn|apply sd)|exact HB.out)) hb);clear hb hbox hg;obtain ⟨hcz3_0,hcz3_1,hcz3_2,hcz3_3⟩:=cq4 BK303.out;obtain ⟨hfz3_0,hfz3_1,hfz3_2,hfz3_3⟩:=fq4 BK303.out)|((with_reducible refine gate_dst (N:=13) rfl ?_);refine Kd.R_lit (Kd.int .i64) _ 3 ?hg (N:=13) ?hd (xs:=([a0_0,a0_1,a0_2,a0_3] : List Int)) (inner:=[.int .i64 a0_0,.int .i64 a0_1,.int .i64 a0_2,.int .i64 a0_3]) (ok:=fun _ => True) (okp:=fun _ => True) ?hr ?hp (fun _ hk => hk) trivial (Below.refl _ _) (Nat.le_refl _) (by simp) ?_;(case hd => rfl);(case hg => rfl);(case hr => first|(go_simp;done)|(go_simp;rfl));(case hp => exact (Reps.one (show Kd.M (Kd.int .i64) _ _ _ a0_0 [.int .i64 a0_0] from rfl) (Reps.one (show Kd.M (Kd.int .i64) _ _ _ a0_1 [.int .i64 a0_1] from rfl) (Reps.one (show Kd.M (Kd.int .i64) _ _ _ a0_2 [.int .i64 a0_2] from rfl) (Reps.one (show Kd.M (Kd.int .i64) _ _ _ a0_3 [.int .i64 a0_3] from rfl) (Reps.none _ _))))));intro v305 w4 ho5 hb hg_ hnew_;clear hg_ hnew_;(first|rw [← Ny304.out] at ho5|(simp only [Int.reduceToNat] at ho5;rw [← Ny304.out] at ho5));have HO306:=am (Kd.R_lower ho5 (sz (by repeat (first|(with_reducible first|exact HB.out|apply sa|apply sn|apply sd|refine sx ?_ GE303.out)|exact HB.out))));replace BK303:=am (bw (by exact BK303.out) hb);replace HB:=am (ss (by repeat (first|(with_reducible first|exact HB.out|apply sa|apply sn|apply sd|refine sx ?_ GE303.out)|exact HB.out)) hb);clear hb ho5;obtain ⟨Ao6,co6,eo6⟩:=Kd.R_slice HO306.out;subst eo6))
  go_loopg [15] k (fun kq v15 w' => ∃ (x15_1 : Int),v15 = .int .i64 x15_1 ∧ Aside0 (celluloidref07_RGBA.l0 kq y304 (y304.length : Int) x15_1 = some r) ∧ Aside0 (kq ≤ k) ∧ Aside0 (Kd.R (Kd.int .i64) 3 w' w.heap.size (fun _ => True) (.slice Ao6 y304.length co6) y304) ∧ Aside0 (w'.heap[gb303]? = some (.cells #[.int .i64 a0_0,.int .i64 a0_1,.int .i64 a0_2,.int .i64 a0_3] 43 (0,0))) ∧ Aside0 (Below w.heap.size w w'))
  case atStart => exact ⟨(0),(by first|rfl|(simp;done)|(simp [*];done)),H',⟨Nat.le_refl _⟩,⟨by (with_reducible repeat (first|apply Kd.R_alloc|apply Kd.R_drewN|apply Kd.R_drew));exact HO306.out⟩,⟨by exact BK303.out⟩,⟨by repeat (first|(with_reducible first|exact HB.out|apply sa|apply sn|apply sd|refine sx ?_ GE303.out)|exact HB.out)⟩⟩
  case round =>
    clear H'
    try clear c2
    try clear p2
    try clear hcz3_0
    try clear hcz3_1
    try clear hcz3_2
    try clear hcz3_3
    try clear hfz3_0
    try clear hfz3_1
    try clear hfz3_2
    try clear hfz3_3
    obtain ⟨x15_1,rfl,HA,HK1,HO_13,BK303,HB⟩:=hrel
    cases gk with
    | zero => exact absurd HA.out (by simp [celluloidref07_RGBA.l0])
    | succ k1 =>
      have H:=HA.out;clear HA;simp only [celluloidref07_RGBA.l0] at H
      by_cases c7 : x15_1 < (y304.length : Int)
      · rw [if_pos c7] at H
        have c7b0 : decide (x15_1 < (y304.length : Int)) = true:=decide_eq_true c7;clear c7
        by_cases c8 : 0 ≤ x15_1
        · rw [if_pos c8] at H
          have c8b0 : decide (0 ≤ x15_1) = true:=decide_eq_true c8;clear c8
          by_cases c9 : x15_1 < (y304.length : Int)
          · rw [if_pos c9] at H
            have c9b0 : decide (x15_1 < (y304.length : Int)) = true:=decide_eq_true c9;clear c9
            by_cases c10 : (rd y304 x15_1) < 0
            · rw [if_pos c10] at H
              have c10b0 : decide ((rd y304 x15_1) < 0) = true:=decide_eq_true c10;clear c10;obtain rfl:=Option.some.inj H;have p307 : 0 ≤ (x15_1 : Int):=of_decide_eq_true (by first|(with_reducible assumption)|assumption);have q307 : x15_1 < (y304.length : Int):=of_decide_eq_true (by first|(with_reducible assumption)|assumption);obtain ⟨ad307,e307,hx307_0⟩:=Kd.at_int (Kd.R_reads' HO_13.out).2.2 x15_1 p307 q307
              cases e307
              replace p307:=eq_true p307;replace q307:=eq_true q307
              go_wp2
              go_ret
              exact ⟨by first|rfl|(simp [errW_none,errW_some] <;> rfl)|(simp [*,errW_none,errW_some] <;> rfl),by repeat (first|(with_reducible first|exact HB.out|apply sa|apply sn|apply sd|refine sx ?_ GE303.out)|exact HB.out)⟩
            · rw [if_neg c10] at H
              have c10b0 : decide ((rd y304 x15_1) < 0) = false:=decide_eq_false c10;clear c10
              by_cases c11 : (rd y304 x15_1) > 255
              · rw [if_pos c11] at H
                have c11b0 : decide (255 < (rd y304 x15_1)) = true:=decide_eq_true c11;clear c11;obtain rfl:=Option.some.inj H;have p307 : 0 ≤ (x15_1 : Int):=of_decide_eq_true (by first|(with_reducible assumption)|assumption);have q307 : x15_1 < (y304.length : Int):=of_decide_eq_true (by first|(with_reducible assumption)|assumption);obtain ⟨ad307,e307,hx307_0⟩:=Kd.at_int (Kd.R_reads' HO_13.out).2.2 x15_1 p307 q307
                cases e307
                replace p307:=eq_true p307;replace q307:=eq_true q307
                go_wp2
                go_ret
                exact ⟨by first|rfl|(simp [errW_none,errW_some] <;> rfl)|(simp [*,errW_none,errW_some] <;> rfl),by repeat (first|(with_reducible first|exact HB.out|apply sa|apply sn|apply sd|refine sx ?_ GE303.out)|exact HB.out)⟩
              · rw [if_neg c11] at H
                have c11b0 : decide (255 < (rd y304 x15_1)) = false:=decide_eq_false c11;clear c11;have H':=am H;clear H;have p307 : 0 ≤ (x15_1 : Int):=of_decide_eq_true (by first|(with_reducible assumption)|assumption);have q307 : x15_1 < (y304.length : Int):=of_decide_eq_true (by first|(with_reducible assumption)|assumption);obtain ⟨ad307,e307,hx307_0⟩:=Kd.at_int (Kd.R_reads' HO_13.out).2.2 x15_1 p307 q307
                cases e307
                replace p307:=eq_true p307;replace q307:=eq_true q307
                go_wp2
                go_roundg k1
                case measure => have:=HK1.out;omega
                case rel => exact ⟨(wrap64 (x15_1 + 1)),(by first|rfl|(simp;done)|(simp [*];done)),H',⟨by have:=HK1.out;omega⟩,⟨by (with_reducible repeat (first|apply Kd.R_alloc|apply Kd.R_drewN|apply Kd.R_drew));exact HO_13.out⟩,⟨by exact BK303.out⟩,⟨by repeat (first|(with_reducible first|exact HB.out|apply sa|apply sn|apply sd|refine sx ?_ GE303.out)|exact HB.out)⟩⟩
          · rw [if_neg c9] at H
            exact absurd H (by simp)
        · rw [if_neg c8] at H
          exact absurd H (by simp)
      · rw [if_neg c7] at H
        have c7b0 : decide (x15_1 < (y304.length : Int)) = false:=decide_eq_false c7;clear c7;obtain rfl:=Option.some.inj H
        go_wp2
        go_ret
        exact ⟨by first|rfl|(simp [errW_none,errW_some] <;> rfl)|(simp [*,errW_none,errW_some] <;> rfl),by repeat (first|(with_reducible first|exact HB.out|apply sa|apply sn|apply sd|refine sx ?_ GE303.out)|exact HB.out)⟩

/-! ### celluloidref14_end: function 40 -/
def celluloidref14_end.f (a0 : Int) (a1 : Int) (a2 : Int) : Option (Int):=if a0 < a1 then (some a1) else (if a0 > a2 then (some a2) else (some a0))
set_option maxHeartbeats 8000000 in
set_option maxRecDepth 100000 in
theorem celluloidref14_end.calls (a0 : Int) (a1 : Int) (a2 : Int) (r : Int) (w : World) (h : celluloidref14_end.f a0 a1 a2 = some r) :
    Calls Try.prog 40 #[.int .i64 a0,.int .i64 a1,.int .i64 a2] w fun e w' => e = .returned (.int .i64 r) ∧ Drawn0 w w':=by
  have H : (if a0 < a1 then (some a1) else (if a0 > a2 then (some a2) else (some a0))) = some r:=h;clear h
  by_cases c4 : a0 < a1
  · rw [if_pos c4] at H
    have c4b0 : decide (a0 < a1) = true:=decide_eq_true c4;clear c4;obtain rfl:=Option.some.inj H
    go_enter Try.func40,Try.ntmps40
    go_wp2
    go_ret
    exact ⟨by first|rfl|(simp;done)|(simp [*];done),by repeat (first|exact Drawn0.refl _|apply Drawn0.step)⟩
  · rw [if_neg c4] at H
    have c4b0 : decide (a0 < a1) = false:=decide_eq_false c4;clear c4
    by_cases c5 : a0 > a2
    · rw [if_pos c5] at H
      have c5b0 : decide (a2 < a0) = true:=decide_eq_true c5;clear c5;obtain rfl:=Option.some.inj H
      go_enter Try.func40,Try.ntmps40
      go_wp2
      go_ret
      exact ⟨by first|rfl|(simp;done)|(simp [*];done),by repeat (first|exact Drawn0.refl _|apply Drawn0.step)⟩
    · rw [if_neg c5] at H
      have c5b0 : decide (a2 < a0) = false:=decide_eq_false c5;clear c5;obtain rfl:=Option.some.inj H
      go_enter Try.func40,Try.ntmps40
      go_wp2
      go_ret
      exact ⟨by first|rfl|(simp;done)|(simp [*];done),by repeat (first|exact Drawn0.refl _|apply Drawn0.step)⟩

end Go.Proofs.Ytaognlikgbcejaa.P
