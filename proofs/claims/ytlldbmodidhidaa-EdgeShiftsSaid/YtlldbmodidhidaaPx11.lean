/- Printed by printx.py (wip/tool) out of the translation: plain functions that tell what the program answers,and the proofs that the program comes to these answers,for all arguments of their kinds. Lean checks it. -/
import Derived.Test.YtlldbmodidhidaaShort
import Derived.Test.YtlldbmodidhidaaPx0
import Derived.Test.YtlldbmodidhidaaPx6
import Derived.Test.YtlldbmodidhidaaPx8
import Derived.Test.YtlldbmodidhidaaPx10
namespace Go.Proofs.Ytlldbmodidhidaa.P
open Go.RowKit Go.Proofs.YtlldbmodidhidaaW.PrintWords Go.Proofs.YtlldbmodidhidaaW.PrintLast Go.Proofs.YtlldbmodidhidaaW.PrintMore
attribute [local go_sem] max2_int min2_int max_two min_two max_three min_three max_four min_four max_five min_five max_six min_six   -- for this text's walks alone
set_option linter.unusedVariables false
set_option linter.unusedSimpArgs false

attribute [local go_sem high] eqA79
/-! ### style_RightStroke: function 46 -/
def style_RightStroke.f (k : Nat) (a0_0 : Int) (a0_1 : Int) (a0_2 : Int) (a0_3 : Int) (a0_4 : Int) : Option (Bool):=if a0_0 ≥ 0 then (if a0_0 < 65536 then ((field_RightRGBA.f k a0_1 a0_2 a0_3 a0_4).bind fun t150 => (some t150)) else (some false)) else (some false)
theorem style_RightStroke.mono : ∀ a0 a1 a2 a3 a4 k,LeO (style_RightStroke.f k a0 a1 a2 a3 a4) (style_RightStroke.f (k + 1) a0 a1 a2 a3 a4):=by
  intro a0 a1 a2 a3 a4 k
  unfold style_RightStroke.f
  repeat' first
      | (with_reducible exact field_RightRGBA.mono _ _ _ _ _)
      | (with_reducible exact LeO.refl _)
      | (with_reducible exact LeO.none _)
      | (with_reducible refine LeO.ite ?_ ?_)
      | (with_reducible refine LeO.bind ?_ (fun _ => ?_))
      | exact field_RightRGBA.mono _ _ _ _ _
      | exact LeO.none _
      | refine LeO.ite ?_ ?_
      | refine LeO.bind ?_ (fun _ => ?_)
set_option maxHeartbeats 8000000 in
set_option maxRecDepth 100000 in
theorem style_RightStroke.calls (k : Nat) (a0_0 : Int) (a0_1 : Int) (a0_2 : Int) (a0_3 : Int) (a0_4 : Int) (r : Bool) (w : World) (h : style_RightStroke.f k a0_0 a0_1 a0_2 a0_3 a0_4 = some r) :
    Calls Try.prog 46 #[.agg #[.int .i64 a0_0,.int .i64 a0_1,.int .i64 a0_2,.int .i64 a0_3,.int .i64 a0_4]] w fun e w' => e = .returned (.bool r) ∧ Below w.heap.size w w':=by
  have hu79:=Try.underlying79;have hu60:=Try.underlying60;have HB:=am (Below.refl w.heap.size w);have H : (if a0_0 ≥ 0 then (if a0_0 < 65536 then ((field_RightRGBA.f k a0_1 a0_2 a0_3 a0_4).bind fun t150 => (some t150)) else (some false)) else (some false)) = some r:=h;clear h
  by_cases c2 : a0_0 ≥ 0
  · rw [if_pos c2] at H
    have c2b0 : decide (0 ≤ a0_0) = true:=decide_eq_true c2;clear c2
    by_cases c3 : a0_0 < 65536
    · rw [if_pos c3] at H
      have c3b0 : decide (a0_0 < 65536) = true:=decide_eq_true c3;clear c3;replace H:=Option.bind_eq_some_iff.mp H;obtain ⟨t150,A40,H⟩:=H;replace H : (some t150) = some r:=H;have A4:=am A40;clear A40;obtain rfl:=Option.some.inj H
      go_enter Try.func46,Try.ntmps46
      go_wp2_with (first|((with_reducible refine gate_dst (N:=1) rfl ?_);refine box_event ?hg (N:=1) ?hd (cs:=#[.int .i64 a0_0,.int .i64 a0_1,.int .i64 a0_2,.int .i64 a0_3,.int .i64 a0_4]) (t:=79) ?hr ?_;(case hd => rfl);(case hg => rfl);(case hr => first|(go_simp;done)|(go_simp;rfl));intro gb149 hg w5 hbox hb;have BK149:=am (hbox);have GW149:=am ((by rw [hg];exact (sz (by repeat (first|(with_reducible first|exact HB.out|apply sa|apply sn|apply sd)|exact HB.out))) : w.heap.size ≤ gb149));have GE149:=am ((by rw [hg];exact (sz (by repeat (first|(with_reducible first|exact HB.out|apply sa|apply sn|apply sd)|exact HB.out))) : w.heap.size ≤ gb149));replace HB:=am (ss (by repeat (first|(with_reducible first|exact HB.out|apply sa|apply sn|apply sd)|exact HB.out)) hb);clear hb hbox hg;obtain ⟨hcz6_0,hcz6_1,hcz6_2,hcz6_3,hcz6_4⟩:=cq5 BK149.out;obtain ⟨hfz6_0,hfz6_1,hfz6_2,hfz6_3,hfz6_4⟩:=fq5 BK149.out)|(go_at_call 52;(with_reducible refine (field_RightRGBA.calls k a0_1 a0_2 a0_3 a0_4 t150 _ A4.out).mono ?_);rintro e w7 ⟨rfl,hb⟩;replace BK149:=am (bw (by exact BK149.out) hb);replace HB:=am (ss (by repeat (first|(with_reducible first|exact HB.out|apply sa|apply sn|apply sd|refine sx ?_ GE149.out)|exact HB.out)) hb);(try clear hb);(try clear hb2);(try clear hk);(try clear hi)))
      go_ret
      exact ⟨by first|rfl|(simp [errW_none,errW_some] <;> rfl)|(simp [*,errW_none,errW_some] <;> rfl),by repeat (first|(with_reducible first|exact HB.out|apply sa|apply sn|apply sd|refine sx ?_ GE149.out)|exact HB.out)⟩
    · rw [if_neg c3] at H
      have c3b0 : decide (a0_0 < 65536) = false:=decide_eq_false c3;clear c3;obtain rfl:=Option.some.inj H
      go_enter Try.func46,Try.ntmps46
      go_wp2_with (first|((with_reducible refine gate_dst (N:=1) rfl ?_);refine box_event ?hg (N:=1) ?hd (cs:=#[.int .i64 a0_0,.int .i64 a0_1,.int .i64 a0_2,.int .i64 a0_3,.int .i64 a0_4]) (t:=79) ?hr ?_;(case hd => rfl);(case hg => rfl);(case hr => first|(go_simp;done)|(go_simp;rfl));intro gb149 hg w8 hbox hb;have BK149:=am (hbox);have GW149:=am ((by rw [hg];exact (sz (by repeat (first|(with_reducible first|exact HB.out|apply sa|apply sn|apply sd)|exact HB.out))) : w.heap.size ≤ gb149));have GE149:=am ((by rw [hg];exact (sz (by repeat (first|(with_reducible first|exact HB.out|apply sa|apply sn|apply sd)|exact HB.out))) : w.heap.size ≤ gb149));replace HB:=am (ss (by repeat (first|(with_reducible first|exact HB.out|apply sa|apply sn|apply sd)|exact HB.out)) hb);clear hb hbox hg;obtain ⟨hcz9_0,hcz9_1,hcz9_2,hcz9_3,hcz9_4⟩:=cq5 BK149.out;obtain ⟨hfz9_0,hfz9_1,hfz9_2,hfz9_3,hfz9_4⟩:=fq5 BK149.out))
      go_ret
      exact ⟨by first|rfl|(simp [errW_none,errW_some] <;> rfl)|(simp [*,errW_none,errW_some] <;> rfl),by repeat (first|(with_reducible first|exact HB.out|apply sa|apply sn|apply sd|refine sx ?_ GE149.out)|exact HB.out)⟩
  · rw [if_neg c2] at H
    have c2b0 : decide (0 ≤ a0_0) = false:=decide_eq_false c2;clear c2;obtain rfl:=Option.some.inj H
    go_enter Try.func46,Try.ntmps46
    go_wp2_with (first|((with_reducible refine gate_dst (N:=1) rfl ?_);refine box_event ?hg (N:=1) ?hd (cs:=#[.int .i64 a0_0,.int .i64 a0_1,.int .i64 a0_2,.int .i64 a0_3,.int .i64 a0_4]) (t:=79) ?hr ?_;(case hd => rfl);(case hg => rfl);(case hr => first|(go_simp;done)|(go_simp;rfl));intro gb149 hg w10 hbox hb;have BK149:=am (hbox);have GW149:=am ((by rw [hg];exact (sz (by repeat (first|(with_reducible first|exact HB.out|apply sa|apply sn|apply sd)|exact HB.out))) : w.heap.size ≤ gb149));have GE149:=am ((by rw [hg];exact (sz (by repeat (first|(with_reducible first|exact HB.out|apply sa|apply sn|apply sd)|exact HB.out))) : w.heap.size ≤ gb149));replace HB:=am (ss (by repeat (first|(with_reducible first|exact HB.out|apply sa|apply sn|apply sd)|exact HB.out)) hb);clear hb hbox hg;obtain ⟨hcz11_0,hcz11_1,hcz11_2,hcz11_3,hcz11_4⟩:=cq5 BK149.out;obtain ⟨hfz11_0,hfz11_1,hfz11_2,hfz11_3,hfz11_4⟩:=fq5 BK149.out))
    go_ret
    exact ⟨by first|rfl|(simp [errW_none,errW_some] <;> rfl)|(simp [*,errW_none,errW_some] <;> rfl),by repeat (first|(with_reducible first|exact HB.out|apply sa|apply sn|apply sd|refine sx ?_ GE149.out)|exact HB.out)⟩

/-! ### style_Right_2: function 45 -/
def style_Right_2.f (k : Nat) (a0_0 : Int) (a0_1 : Int) (a0_2 : Int) (a0_3 : Int) (a0_4 : Int) : Option (Bool):=(style_RightStroke.f k a0_0 a0_1 a0_2 a0_3 a0_4).bind fun t152 => (some (!t152))
theorem style_Right_2.mono : ∀ a0 a1 a2 a3 a4 k,LeO (style_Right_2.f k a0 a1 a2 a3 a4) (style_Right_2.f (k + 1) a0 a1 a2 a3 a4):=by
  intro a0 a1 a2 a3 a4 k
  unfold style_Right_2.f
  repeat' first
      | (with_reducible exact style_RightStroke.mono _ _ _ _ _ _)
      | (with_reducible exact LeO.refl _)
      | (with_reducible exact LeO.none _)
      | (with_reducible refine LeO.ite ?_ ?_)
      | (with_reducible refine LeO.bind ?_ (fun _ => ?_))
      | exact style_RightStroke.mono _ _ _ _ _ _
      | exact LeO.none _
      | refine LeO.ite ?_ ?_
      | refine LeO.bind ?_ (fun _ => ?_)
set_option maxHeartbeats 8000000 in
set_option maxRecDepth 100000 in
theorem style_Right_2.calls (k : Nat) (a0_0 : Int) (a0_1 : Int) (a0_2 : Int) (a0_3 : Int) (a0_4 : Int) (r : Bool) (w : World) (h : style_Right_2.f k a0_0 a0_1 a0_2 a0_3 a0_4 = some r) :
    Calls Try.prog 45 #[.agg #[.int .i64 a0_0,.int .i64 a0_1,.int .i64 a0_2,.int .i64 a0_3,.int .i64 a0_4]] w fun e w' => e = .returned (.bool r) ∧ Below w.heap.size w w':=by
  have hu79:=Try.underlying79;have HB:=am (Below.refl w.heap.size w);have H : ((style_RightStroke.f k a0_0 a0_1 a0_2 a0_3 a0_4).bind fun t152 => (some (!t152))) = some r:=h;clear h;replace H:=Option.bind_eq_some_iff.mp H;obtain ⟨t152,A20,H⟩:=H;replace H : (some (!t152)) = some r:=H;have A2:=am A20;clear A20;obtain rfl:=Option.some.inj H
  go_enter Try.func45,Try.ntmps45
  go_wp2_with (first|((with_reducible refine gate_dst (N:=1) rfl ?_);refine box_event ?hg (N:=1) ?hd (cs:=#[.int .i64 a0_0,.int .i64 a0_1,.int .i64 a0_2,.int .i64 a0_3,.int .i64 a0_4]) (t:=79) ?hr ?_;(case hd => rfl);(case hg => rfl);(case hr => first|(go_simp;done)|(go_simp;rfl));intro gb151 hg w3 hbox hb;have BK151:=am (hbox);have GW151:=am ((by rw [hg];exact (sz (by repeat (first|(with_reducible first|exact HB.out|apply sa|apply sn|apply sd)|exact HB.out))) : w.heap.size ≤ gb151));have GE151:=am ((by rw [hg];exact (sz (by repeat (first|(with_reducible first|exact HB.out|apply sa|apply sn|apply sd)|exact HB.out))) : w.heap.size ≤ gb151));replace HB:=am (ss (by repeat (first|(with_reducible first|exact HB.out|apply sa|apply sn|apply sd)|exact HB.out)) hb);clear hb hbox hg;obtain ⟨hcz4_0,hcz4_1,hcz4_2,hcz4_3,hcz4_4⟩:=cq5 BK151.out;obtain ⟨hfz4_0,hfz4_1,hfz4_2,hfz4_3,hfz4_4⟩:=fq5 BK151.out)|((with_reducible refine gate_callee (f:=46) rfl ?_);refine goesL_ (some 4) rfl rfl Try.func46 (by kernel_rfl) rfl #[.agg #[.int .i64 a0_0,.int .i64 a0_1,.int .i64 a0_2,.int .i64 a0_3,.int .i64 a0_4]] rfl (by (try simp only [List.map_toArray,List.map_cons,List.map_nil]);first|done|rfl|(simp only [List.length_drop,List.length_take];rfl)) ?_;(with_reducible refine (style_RightStroke.calls k a0_0 a0_1 a0_2 a0_3 a0_4 t152 _ A2.out).mono ?_);rintro e w5 ⟨rfl,hb⟩;refine ⟨_,rfl,?_⟩;replace BK151:=am (bw (by exact BK151.out) hb);replace HB:=am (ss (by repeat (first|(with_reducible first|exact HB.out|apply sa|apply sn|apply sd|refine sx ?_ GE151.out)|exact HB.out)) hb);(try clear hb);(try clear hb2);(try clear hk);(try clear hi)))
  go_ret
  exact ⟨by first|rfl|(simp [errW_none,errW_some] <;> rfl)|(simp [*,errW_none,errW_some] <;> rfl),by repeat (first|(with_reducible first|exact HB.out|apply sa|apply sn|apply sd|refine sx ?_ GE151.out)|exact HB.out)⟩

/-! ### api_Fill_51: function 51 -/
def api_Fill_51.l0 : Nat → List (S65) → Int → Int → Option (Int)
  | 0,_,_,_ => none
  | k + 1,x0,x7,x8 => if x8 < x7 then (if 0 ≤ x8 then (if x8 < (x0.length : Int) then ((style_Right_1.f k ((rd_T65 x0 x8).f0) ((rd_T65 x0 x8).f1.f0) ((rd_T65 x0 x8).f1.f1) ((rd_T65 x0 x8).f1.f2) ((rd_T65 x0 x8).f1.f3) ((rd_T65 x0 x8).f2.f0) ((rd_T65 x0 x8).f2.f1) ((rd_T65 x0 x8).f2.f2) ((rd_T65 x0 x8).f2.f3) ((rd_T65 x0 x8).f2.f4) ((rd_T65 x0 x8).f2.f5) ((rd_T65 x0 x8).f3) ((rd_T65 x0 x8).f4) ((rd_T65 x0 x8).f5)).bind fun t154 => (if t154 = true then (some x8) else (api_Fill_51.l0 k x0 x7 (wrap64 (x8 + 1))))) else (none)) else (none)) else (some (-1))
def api_Fill_51.f (k : Nat) (l0 : List (S65))  : Option (Int):=api_Fill_51.l0 k l0 (l0.length : Int) 0
theorem api_Fill_51.mono_l : ∀ k,(∀ y0 y1 y2,LeO (api_Fill_51.l0 k y0 y1 y2) (api_Fill_51.l0 (k + 1) y0 y1 y2))
  | 0 => fun _ _ _ r h => by simp [api_Fill_51.l0] at h
  | k + 1 => by
    have ih0:=api_Fill_51.mono_l k
    · intro y0 y1 y2
      unfold api_Fill_51.l0
      repeat' first
      | (with_reducible exact ih0 _ _ _)
      | (with_reducible exact style_Right_1.mono _ _ _ _ _ _ _ _ _ _ _ _ _ _ _)
      | (with_reducible exact LeO.refl _)
      | (with_reducible exact LeO.none _)
      | (with_reducible refine LeO.ite ?_ ?_)
      | (with_reducible refine LeO.bind ?_ (fun _ => ?_))
      | exact ih0 _ _ _
      | exact style_Right_1.mono _ _ _ _ _ _ _ _ _ _ _ _ _ _ _
      | exact LeO.none _
      | refine LeO.ite ?_ ?_
      | refine LeO.bind ?_ (fun _ => ?_)
theorem api_Fill_51.mono : ∀ a0 k,LeO (api_Fill_51.f k a0) (api_Fill_51.f (k + 1) a0):=by
  intro a0 k
  have ih0:=api_Fill_51.mono_l k
  unfold api_Fill_51.f
  repeat' first
      | (with_reducible exact ih0 _ _ _)
      | (with_reducible exact style_Right_1.mono _ _ _ _ _ _ _ _ _ _ _ _ _ _ _)
      | (with_reducible exact LeO.refl _)
      | (with_reducible exact LeO.none _)
      | (with_reducible refine LeO.ite ?_ ?_)
      | (with_reducible refine LeO.bind ?_ (fun _ => ?_))
      | exact ih0 _ _ _
      | exact style_Right_1.mono _ _ _ _ _ _ _ _ _ _ _ _ _ _ _
      | exact LeO.none _
      | refine LeO.ite ?_ ?_
      | refine LeO.bind ?_ (fun _ => ?_)
set_option maxHeartbeats 8000000 in
set_option maxRecDepth 100000 in
theorem api_Fill_51.calls (k : Nat) (A0 : Option Addr) (c0 : Nat) (l0 : List (S65))  (r : Int) (w : World) (hr0 : Kd.C k65 w A0 l0.length l0) (hc0 : l0.length ≤ c0) (h : api_Fill_51.f k l0 = some r) :
    Calls Try.prog 51 #[.slice A0 l0.length c0,.func (.func 42) #[] #[]] w fun e w' => e = .returned (.int .i64 r) ∧ Below w.heap.size w w':=by
  have hu65:=Try.underlying65;have HR0:=am hr0;have HC0:=am hc0;clear hr0 hc0;have HB:=am (Below.refl w.heap.size w);have H : (api_Fill_51.l0 k l0 (l0.length : Int) 0) = some r:=h;clear h;have H':=am H;clear H
  go_enter Try.func51,Try.ntmps51
  go_wp2
  go_loopg [8] k (fun kq v8 w' => ∃ (x8_1 : Int),v8 = .int .i64 x8_1 ∧ Aside0 (api_Fill_51.l0 kq l0 (l0.length : Int) x8_1 = some r) ∧ Aside0 (kq ≤ k) ∧ Aside0 (Below w.heap.size w w'))
  case atStart => exact ⟨(0),(by first|rfl|(simp;done)|(simp [*];done)),H',⟨Nat.le_refl _⟩,⟨by repeat (first|(with_reducible first|exact HB.out|apply sa|apply sn|apply sd)|exact HB.out)⟩⟩
  case round =>
    clear H'
    (try clear p2)
    obtain ⟨x8_1,rfl,HA,HK1,HB⟩:=hrel
    cases gk with
    | zero => exact absurd HA.out (by simp [api_Fill_51.l0])
    | succ k1 =>
      have H:=HA.out;clear HA;simp only [api_Fill_51.l0] at H
      by_cases c3 : x8_1 < (l0.length : Int)
      · rw [if_pos c3] at H
        have c3b0 : decide (x8_1 < (l0.length : Int)) = true:=decide_eq_true c3;clear c3
        by_cases c4 : 0 ≤ x8_1
        · rw [if_pos c4] at H
          have c4b0 : decide (0 ≤ x8_1) = true:=decide_eq_true c4;clear c4
          by_cases c5 : x8_1 < (l0.length : Int)
          · rw [if_pos c5] at H
            have c5b0 : decide (x8_1 < (l0.length : Int)) = true:=decide_eq_true c5;clear c5;replace H:=Option.bind_eq_some_iff.mp H;obtain ⟨t154,A60,H⟩:=H;replace H : (if t154 = true then (some x8_1) else (api_Fill_51.l0 k1 l0 (l0.length : Int) (wrap64 (x8_1 + 1)))) = some r:=H;have A6:=am A60;clear A60
            by_cases c7 : t154 = true
            · subst c7
              have H1 : (some x8_1) = some r:=by rw [if_pos rfl] at H;exact H
              clear H;have H:=H1;clear H1;obtain rfl:=Option.some.inj H;have p153 : 0 ≤ (x8_1 : Int):=of_decide_eq_true (by first|(with_reducible assumption)|assumption);have q153 : x8_1 < (l0.length : Int):=of_decide_eq_true (by first|(with_reducible assumption)|assumption);obtain ⟨ad153,A153_12,c153_12,e153,hx153_0,hx153_1,hx153_2,hx153_3,hx153_4,hx153_5,hx153_6,hx153_7,hx153_8,hx153_9,hx153_10,hx153_11,hx153_12,hx153_13,hl153_12,hi153_12⟩:=at_T65 HR0.out x8_1 p153 q153
              cases e153
              replace hx153_0:=(HB.out.cell (World.block_lt_of_cell? w _ hx153_0)).trans hx153_0;replace hx153_1:=(HB.out.cell (World.block_lt_of_cell? w _ hx153_1)).trans hx153_1;replace hx153_2:=(HB.out.cell (World.block_lt_of_cell? w _ hx153_2)).trans hx153_2;replace hx153_3:=(HB.out.cell (World.block_lt_of_cell? w _ hx153_3)).trans hx153_3;replace hx153_4:=(HB.out.cell (World.block_lt_of_cell? w _ hx153_4)).trans hx153_4;replace hx153_5:=(HB.out.cell (World.block_lt_of_cell? w _ hx153_5)).trans hx153_5;replace hx153_6:=(HB.out.cell (World.block_lt_of_cell? w _ hx153_6)).trans hx153_6;replace hx153_7:=(HB.out.cell (World.block_lt_of_cell? w _ hx153_7)).trans hx153_7;replace hx153_8:=(HB.out.cell (World.block_lt_of_cell? w _ hx153_8)).trans hx153_8;replace hx153_9:=(HB.out.cell (World.block_lt_of_cell? w _ hx153_9)).trans hx153_9;replace hx153_10:=(HB.out.cell (World.block_lt_of_cell? w _ hx153_10)).trans hx153_10;replace hx153_11:=(HB.out.cell (World.block_lt_of_cell? w _ hx153_11)).trans hx153_11;replace hx153_12:=(HB.out.cell (World.block_lt_of_cell? w _ hx153_12)).trans hx153_12;replace hx153_13:=(HB.out.cell (World.block_lt_of_cell? w _ hx153_13)).trans hx153_13;have HR153_12:=am hi153_12;have HC153_12:=am hl153_12;clear hi153_12 hl153_12;replace p153:=eq_true p153;replace q153:=eq_true q153
              go_wp2_with (first|(go_at_call 42;(with_reducible refine (style_Right_1.calls k1 ((rd_T65 l0 x8_1).f0) ((rd_T65 l0 x8_1).f1.f0) ((rd_T65 l0 x8_1).f1.f1) ((rd_T65 l0 x8_1).f1.f2) ((rd_T65 l0 x8_1).f1.f3) ((rd_T65 l0 x8_1).f2.f0) ((rd_T65 l0 x8_1).f2.f1) ((rd_T65 l0 x8_1).f2.f2) ((rd_T65 l0 x8_1).f2.f3) ((rd_T65 l0 x8_1).f2.f4) ((rd_T65 l0 x8_1).f2.f5) ((rd_T65 l0 x8_1).f3) _ _ ((rd_T65 l0 x8_1).f4) ((rd_T65 l0 x8_1).f5) true _ ?side1 ?side2 A6.out).mono ?_);(case side1 => repeat (first|exact (Kd.C_below HR153_12.out HB.out)|(with_reducible refine Kd.C_alloc ?_ _)|(with_reducible refine Kd.C_drewN ?_ _)|(with_reducible refine Kd.C_drew ?_)));(case side2 => exact HC153_12.out);rintro e w8 ⟨rfl,hb⟩;replace HB:=am (ss (by repeat (first|(with_reducible first|exact HB.out|apply sa|apply sn|apply sd)|exact HB.out)) hb);(try clear hb);(try clear hb2);(try clear hk);(try clear hi)))
              go_ret
              exact ⟨by first|rfl|(simp [errW_none,errW_some] <;> rfl)|(simp [*,errW_none,errW_some] <;> rfl),by repeat (first|(with_reducible first|exact HB.out|apply sa|apply sn|apply sd)|exact HB.out)⟩
            · replace c7:=Bool.eq_false_iff.mpr c7
              subst c7
              have H1 : (api_Fill_51.l0 k1 l0 (l0.length : Int) (wrap64 (x8_1 + 1))) = some r:=by rw [if_neg (show ¬ (false = true) by decide)] at H;exact H
              clear H;have H:=H1;clear H1;have H':=am H;clear H;have p153 : 0 ≤ (x8_1 : Int):=of_decide_eq_true (by first|(with_reducible assumption)|assumption);have q153 : x8_1 < (l0.length : Int):=of_decide_eq_true (by first|(with_reducible assumption)|assumption);obtain ⟨ad153,A153_12,c153_12,e153,hx153_0,hx153_1,hx153_2,hx153_3,hx153_4,hx153_5,hx153_6,hx153_7,hx153_8,hx153_9,hx153_10,hx153_11,hx153_12,hx153_13,hl153_12,hi153_12⟩:=at_T65 HR0.out x8_1 p153 q153
              cases e153
              replace hx153_0:=(HB.out.cell (World.block_lt_of_cell? w _ hx153_0)).trans hx153_0;replace hx153_1:=(HB.out.cell (World.block_lt_of_cell? w _ hx153_1)).trans hx153_1;replace hx153_2:=(HB.out.cell (World.block_lt_of_cell? w _ hx153_2)).trans hx153_2;replace hx153_3:=(HB.out.cell (World.block_lt_of_cell? w _ hx153_3)).trans hx153_3;replace hx153_4:=(HB.out.cell (World.block_lt_of_cell? w _ hx153_4)).trans hx153_4;replace hx153_5:=(HB.out.cell (World.block_lt_of_cell? w _ hx153_5)).trans hx153_5;replace hx153_6:=(HB.out.cell (World.block_lt_of_cell? w _ hx153_6)).trans hx153_6;replace hx153_7:=(HB.out.cell (World.block_lt_of_cell? w _ hx153_7)).trans hx153_7;replace hx153_8:=(HB.out.cell (World.block_lt_of_cell? w _ hx153_8)).trans hx153_8;replace hx153_9:=(HB.out.cell (World.block_lt_of_cell? w _ hx153_9)).trans hx153_9;replace hx153_10:=(HB.out.cell (World.block_lt_of_cell? w _ hx153_10)).trans hx153_10;replace hx153_11:=(HB.out.cell (World.block_lt_of_cell? w _ hx153_11)).trans hx153_11;replace hx153_12:=(HB.out.cell (World.block_lt_of_cell? w _ hx153_12)).trans hx153_12;replace hx153_13:=(HB.out.cell (World.block_lt_of_cell? w _ hx153_13)).trans hx153_13;have HR153_12:=am hi153_12;have HC153_12:=am hl153_12;clear hi153_12 hl153_12;replace p153:=eq_true p153;replace q153:=eq_true q153
              go_wp2_with (first|(go_at_call 42;(with_reducible refine (style_Right_1.calls k1 ((rd_T65 l0 x8_1).f0) ((rd_T65 l0 x8_1).f1.f0) ((rd_T65 l0 x8_1).f1.f1) ((rd_T65 l0 x8_1).f1.f2) ((rd_T65 l0 x8_1).f1.f3) ((rd_T65 l0 x8_1).f2.f0) ((rd_T65 l0 x8_1).f2.f1) ((rd_T65 l0 x8_1).f2.f2) ((rd_T65 l0 x8_1).f2.f3) ((rd_T65 l0 x8_1).f2.f4) ((rd_T65 l0 x8_1).f2.f5) ((rd_T65 l0 x8_1).f3) _ _ ((rd_T65 l0 x8_1).f4) ((rd_T65 l0 x8_1).f5) false _ ?side1 ?side2 A6.out).mono ?_);(case side1 => repeat (first|exact (Kd.C_below HR153_12.out HB.out)|(with_reducible refine Kd.C_alloc ?_ _)|(with_reducible refine Kd.C_drewN ?_ _)|(with_reducible refine Kd.C_drew ?_)));(case side2 => exact HC153_12.out);rintro e w9 ⟨rfl,hb⟩;replace HB:=am (ss (by repeat (first|(with_reducible first|exact HB.out|apply sa|apply sn|apply sd)|exact HB.out)) hb);(try clear hb);(try clear hb2);(try clear hk);(try clear hi)))
              go_roundg k1
              case measure => have:=HK1.out;omega
              case rel => exact ⟨(wrap64 (x8_1 + 1)),(by first|rfl|(simp;done)|(simp [*];done)),H',⟨by have:=HK1.out;omega⟩,⟨by repeat (first|(with_reducible first|exact HB.out|apply sa|apply sn|apply sd)|exact HB.out)⟩⟩
          · rw [if_neg c5] at H
            exact absurd H (by simp)
        · rw [if_neg c4] at H
          exact absurd H (by simp)
      · rw [if_neg c3] at H
        have c3b0 : decide (x8_1 < (l0.length : Int)) = false:=decide_eq_false c3;clear c3;obtain rfl:=Option.some.inj H
        go_wp2
        go_ret
        exact ⟨by first|rfl|(simp [errW_none,errW_some] <;> rfl)|(simp [*,errW_none,errW_some] <;> rfl),by repeat (first|(with_reducible first|exact HB.out|apply sa|apply sn|apply sd)|exact HB.out)⟩

/-! ### api_Fill_41: function 41 -/
def api_Fill_41.f (k : Nat) (l0 : List (S65))  : Option (Bool):=(api_Fill_51.f k l0).bind fun t155 => (some (decide (t155 ≥ 0)))
theorem api_Fill_41.mono : ∀ a0 k,LeO (api_Fill_41.f k a0) (api_Fill_41.f (k + 1) a0):=by
  intro a0 k
  unfold api_Fill_41.f
  repeat' first
      | (with_reducible exact api_Fill_51.mono _ _)
      | (with_reducible exact LeO.refl _)
      | (with_reducible exact LeO.none _)
      | (with_reducible refine LeO.ite ?_ ?_)
      | (with_reducible refine LeO.bind ?_ (fun _ => ?_))
      | exact api_Fill_51.mono _ _
      | exact LeO.none _
      | refine LeO.ite ?_ ?_
      | refine LeO.bind ?_ (fun _ => ?_)
set_option maxHeartbeats 8000000 in
set_option maxRecDepth 100000 in
theorem api_Fill_41.calls (k : Nat) (A0 : Option Addr) (c0 : Nat) (l0 : List (S65))  (r : Bool) (w : World) (hr0 : Kd.C k65 w A0 l0.length l0) (hc0 : l0.length ≤ c0) (h : api_Fill_41.f k l0 = some r) :
    Calls Try.prog 41 #[.slice A0 l0.length c0,.func (.func 42) #[] #[]] w fun e w' => e = .returned (.bool r) ∧ Below w.heap.size w w':=by
  have HR0:=am hr0;have HC0:=am hc0;clear hr0 hc0;have HB:=am (Below.refl w.heap.size w);have H : ((api_Fill_51.f k l0).bind fun t155 => (some (decide (t155 ≥ 0)))) = some r:=h;clear h;replace H:=Option.bind_eq_some_iff.mp H;obtain ⟨t155,A30,H⟩:=H;replace H : (some (decide (t155 ≥ 0))) = some r:=H;have A3:=am A30;clear A30;obtain rfl:=Option.some.inj H
  go_enter Try.func41,Try.ntmps41
  go_wp2_with (first|((with_reducible refine gate_callee (f:=51) rfl ?_);refine goesL_ (some 7) rfl rfl Try.func51 (by kernel_rfl) rfl #[.slice A0 l0.length c0,.func (.func 42) #[] #[]] rfl (by (try simp only [List.map_toArray,List.map_cons,List.map_nil]);first|done|rfl|(simp only [List.length_drop,List.length_take];rfl)) ?_;(with_reducible refine (api_Fill_51.calls k _ _ l0  t155 _ ?side1 ?side2 A3.out).mono ?_);(case side1 => repeat (first|exact HR0.out|(with_reducible refine Kd.C_alloc ?_ _)|(with_reducible refine Kd.C_drewN ?_ _)|(with_reducible refine Kd.C_drew ?_)));(case side2 => exact HC0.out);rintro e w4 ⟨rfl,hb⟩;refine ⟨_,rfl,?_⟩;replace HB:=am (ss (by repeat (first|(with_reducible first|exact HB.out|apply sa|apply sn|apply sd)|exact HB.out)) hb);(try clear hb);(try clear hb2);(try clear hk);(try clear hi)))
  go_ret
  exact ⟨by first|rfl|(simp [errW_none,errW_some] <;> rfl)|(simp [*,errW_none,errW_some] <;> rfl),by repeat (first|(with_reducible first|exact HB.out|apply sa|apply sn|apply sd)|exact HB.out)⟩

/-! ### api_Stroke_58: function 58 -/
def api_Stroke_58.l0 : Nat → List (S79) → Int → Int → Option (Int)
  | 0,_,_,_ => none
  | k + 1,x0,x7,x8 => if x8 < x7 then (if 0 ≤ x8 then (if x8 < (x0.length : Int) then ((style_Right_2.f k ((rd_T79 x0 x8).f0) ((rd_T79 x0 x8).f1.f0) ((rd_T79 x0 x8).f1.f1) ((rd_T79 x0 x8).f1.f2) ((rd_T79 x0 x8).f1.f3)).bind fun t157 => (if t157 = true then (some x8) else (api_Stroke_58.l0 k x0 x7 (wrap64 (x8 + 1))))) else (none)) else (none)) else (some (-1))
def api_Stroke_58.f (k : Nat) (l0 : List (S79))  : Option (Int):=api_Stroke_58.l0 k l0 (l0.length : Int) 0
theorem api_Stroke_58.mono_l : ∀ k,(∀ y0 y1 y2,LeO (api_Stroke_58.l0 k y0 y1 y2) (api_Stroke_58.l0 (k + 1) y0 y1 y2))
  | 0 => fun _ _ _ r h => by simp [api_Stroke_58.l0] at h
  | k + 1 => by
    have ih0:=api_Stroke_58.mono_l k
    · intro y0 y1 y2
      unfold api_Stroke_58.l0
      repeat' first
      | (with_reducible exact ih0 _ _ _)
      | (with_reducible exact style_Right_2.mono _ _ _ _ _ _)
      | (with_reducible exact LeO.refl _)
      | (with_reducible exact LeO.none _)
      | (with_reducible refine LeO.ite ?_ ?_)
      | (with_reducible refine LeO.bind ?_ (fun _ => ?_))
      | exact ih0 _ _ _
      | exact style_Right_2.mono _ _ _ _ _ _
      | exact LeO.none _
      | refine LeO.ite ?_ ?_
      | refine LeO.bind ?_ (fun _ => ?_)
theorem api_Stroke_58.mono : ∀ a0 k,LeO (api_Stroke_58.f k a0) (api_Stroke_58.f (k + 1) a0):=by
  intro a0 k
  have ih0:=api_Stroke_58.mono_l k
  unfold api_Stroke_58.f
  repeat' first
      | (with_reducible exact ih0 _ _ _)
      | (with_reducible exact style_Right_2.mono _ _ _ _ _ _)
      | (with_reducible exact LeO.refl _)
      | (with_reducible exact LeO.none _)
      | (with_reducible refine LeO.ite ?_ ?_)
      | (with_reducible refine LeO.bind ?_ (fun _ => ?_))
      | exact ih0 _ _ _
      | exact style_Right_2.mono _ _ _ _ _ _
      | exact LeO.none _
      | refine LeO.ite ?_ ?_
      | refine LeO.bind ?_ (fun _ => ?_)
set_option maxHeartbeats 8000000 in
set_option maxRecDepth 100000 in
theorem api_Stroke_58.calls (k : Nat) (A0 : Option Addr) (c0 : Nat) (l0 : List (S79))  (r : Int) (w : World) (hr0 : Kd.C k79 w A0 l0.length l0) (hc0 : l0.length ≤ c0) (h : api_Stroke_58.f k l0 = some r) :
    Calls Try.prog 58 #[.slice A0 l0.length c0,.func (.func 45) #[] #[]] w fun e w' => e = .returned (.int .i64 r) ∧ Below w.heap.size w w':=by
  have hu79:=Try.underlying79;have HR0:=am hr0;have HC0:=am hc0;clear hr0 hc0;have HB:=am (Below.refl w.heap.size w);have H : (api_Stroke_58.l0 k l0 (l0.length : Int) 0) = some r:=h;clear h;have H':=am H;clear H
  go_enter Try.func58,Try.ntmps58
  go_wp2
  go_loopg [8] k (fun kq v8 w' => ∃ (x8_1 : Int),v8 = .int .i64 x8_1 ∧ Aside0 (api_Stroke_58.l0 kq l0 (l0.length : Int) x8_1 = some r) ∧ Aside0 (kq ≤ k) ∧ Aside0 (Below w.heap.size w w'))
  case atStart => exact ⟨(0),(by first|rfl|(simp;done)|(simp [*];done)),H',⟨Nat.le_refl _⟩,⟨by repeat (first|(with_reducible first|exact HB.out|apply sa|apply sn|apply sd)|exact HB.out)⟩⟩
  case round =>
    clear H'
    (try clear p2)
    obtain ⟨x8_1,rfl,HA,HK1,HB⟩:=hrel
    cases gk with
    | zero => exact absurd HA.out (by simp [api_Stroke_58.l0])
    | succ k1 =>
      have H:=HA.out;clear HA;simp only [api_Stroke_58.l0] at H
      by_cases c3 : x8_1 < (l0.length : Int)
      · rw [if_pos c3] at H
        have c3b0 : decide (x8_1 < (l0.length : Int)) = true:=decide_eq_true c3;clear c3
        by_cases c4 : 0 ≤ x8_1
        · rw [if_pos c4] at H
          have c4b0 : decide (0 ≤ x8_1) = true:=decide_eq_true c4;clear c4
          by_cases c5 : x8_1 < (l0.length : Int)
          · rw [if_pos c5] at H
            have c5b0 : decide (x8_1 < (l0.length : Int)) = true:=decide_eq_true c5;clear c5;replace H:=Option.bind_eq_some_iff.mp H;obtain ⟨t157,A60,H⟩:=H;replace H : (if t157 = true then (some x8_1) else (api_Stroke_58.l0 k1 l0 (l0.length : Int) (wrap64 (x8_1 + 1)))) = some r:=H;have A6:=am A60;clear A60
            by_cases c7 : t157 = true
            · subst c7
              have H1 : (some x8_1) = some r:=by rw [if_pos rfl] at H;exact H
              clear H;have H:=H1;clear H1;obtain rfl:=Option.some.inj H;have p156 : 0 ≤ (x8_1 : Int):=of_decide_eq_true (by first|(with_reducible assumption)|assumption);have q156 : x8_1 < (l0.length : Int):=of_decide_eq_true (by first|(with_reducible assumption)|assumption);obtain ⟨ad156,e156,hx156_0,hx156_1,hx156_2,hx156_3,hx156_4⟩:=at_T79 HR0.out x8_1 p156 q156
              cases e156
              replace hx156_0:=(HB.out.cell (World.block_lt_of_cell? w _ hx156_0)).trans hx156_0;replace hx156_1:=(HB.out.cell (World.block_lt_of_cell? w _ hx156_1)).trans hx156_1;replace hx156_2:=(HB.out.cell (World.block_lt_of_cell? w _ hx156_2)).trans hx156_2;replace hx156_3:=(HB.out.cell (World.block_lt_of_cell? w _ hx156_3)).trans hx156_3;replace hx156_4:=(HB.out.cell (World.block_lt_of_cell? w _ hx156_4)).trans hx156_4;replace p156:=eq_true p156;replace q156:=eq_true q156
              go_wp2_with (first|(go_at_call 45;(with_reducible refine (style_Right_2.calls k1 ((rd_T79 l0 x8_1).f0) ((rd_T79 l0 x8_1).f1.f0) ((rd_T79 l0 x8_1).f1.f1) ((rd_T79 l0 x8_1).f1.f2) ((rd_T79 l0 x8_1).f1.f3) true _ A6.out).mono ?_);rintro e w8 ⟨rfl,hb⟩;replace HB:=am (ss (by repeat (first|(with_reducible first|exact HB.out|apply sa|apply sn|apply sd)|exact HB.out)) hb);(try clear hb);(try clear hb2);(try clear hk);(try clear hi)))
              go_ret
              exact ⟨by first|rfl|(simp [errW_none,errW_some] <;> rfl)|(simp [*,errW_none,errW_some] <;> rfl),by repeat (first|(with_reducible first|exact HB.out|apply sa|apply sn|apply sd)|exact HB.out)⟩
            · replace c7:=Bool.eq_false_iff.mpr c7
              subst c7
              have H1 : (api_Stroke_58.l0 k1 l0 (l0.length : Int) (wrap64 (x8_1 + 1))) = some r:=by rw [if_neg (show ¬ (false = true) by decide)] at H;exact H
              clear H;have H:=H1;clear H1;have H':=am H;clear H;have p156 : 0 ≤ (x8_1 : Int):=of_decide_eq_true (by first|(with_reducible assumption)|assumption);have q156 : x8_1 < (l0.length : Int):=of_decide_eq_true (by first|(with_reducible assumption)|assumption);obtain ⟨ad156,e156,hx156_0,hx156_1,hx156_2,hx156_3,hx156_4⟩:=at_T79 HR0.out x8_1 p156 q156
              cases e156
              replace hx156_0:=(HB.out.cell (World.block_lt_of_cell? w _ hx156_0)).trans hx156_0;replace hx156_1:=(HB.out.cell (World.block_lt_of_cell? w _ hx156_1)).trans hx156_1;replace hx156_2:=(HB.out.cell (World.block_lt_of_cell? w _ hx156_2)).trans hx156_2;replace hx156_3:=(HB.out.cell (World.block_lt_of_cell? w _ hx156_3)).trans hx156_3;replace hx156_4:=(HB.out.cell (World.block_lt_of_cell? w _ hx156_4)).trans hx156_4;replace p156:=eq_true p156;replace q156:=eq_true q156
              go_wp2_with (first|(go_at_call 45;(with_reducible refine (style_Right_2.calls k1 ((rd_T79 l0 x8_1).f0) ((rd_T79 l0 x8_1).f1.f0) ((rd_T79 l0 x8_1).f1.f1) ((rd_T79 l0 x8_1).f1.f2) ((rd_T79 l0 x8_1).f1.f3) false _ A6.out).mono ?_);rintro e w9 ⟨rfl,hb⟩;replace HB:=am (ss (by repeat (first|(with_reducible first|exact HB.out|apply sa|apply sn|apply sd)|exact HB.out)) hb);(try clear hb);(try clear hb2);(try clear hk);(try clear hi)))
              go_roundg k1
              case measure => have:=HK1.out;omega
              case rel => exact ⟨(wrap64 (x8_1 + 1)),(by first|rfl|(simp;done)|(simp [*];done)),H',⟨by have:=HK1.out;omega⟩,⟨by repeat (first|(with_reducible first|exact HB.out|apply sa|apply sn|apply sd)|exact HB.out)⟩⟩
          · rw [if_neg c5] at H
            exact absurd H (by simp)
        · rw [if_neg c4] at H
          exact absurd H (by simp)
      · rw [if_neg c3] at H
        have c3b0 : decide (x8_1 < (l0.length : Int)) = false:=decide_eq_false c3;clear c3;obtain rfl:=Option.some.inj H
        go_wp2
        go_ret
        exact ⟨by first|rfl|(simp [errW_none,errW_some] <;> rfl)|(simp [*,errW_none,errW_some] <;> rfl),by repeat (first|(with_reducible first|exact HB.out|apply sa|apply sn|apply sd)|exact HB.out)⟩

/-! ### api_Stroke_44: function 44 -/
def api_Stroke_44.f (k : Nat) (l0 : List (S79))  : Option (Bool):=(api_Stroke_58.f k l0).bind fun t158 => (some (decide (t158 ≥ 0)))
theorem api_Stroke_44.mono : ∀ a0 k,LeO (api_Stroke_44.f k a0) (api_Stroke_44.f (k + 1) a0):=by
  intro a0 k
  unfold api_Stroke_44.f
  repeat' first
      | (with_reducible exact api_Stroke_58.mono _ _)
      | (with_reducible exact LeO.refl _)
      | (with_reducible exact LeO.none _)
      | (with_reducible refine LeO.ite ?_ ?_)
      | (with_reducible refine LeO.bind ?_ (fun _ => ?_))
      | exact api_Stroke_58.mono _ _
      | exact LeO.none _
      | refine LeO.ite ?_ ?_
      | refine LeO.bind ?_ (fun _ => ?_)
set_option maxHeartbeats 8000000 in
set_option maxRecDepth 100000 in
theorem api_Stroke_44.calls (k : Nat) (A0 : Option Addr) (c0 : Nat) (l0 : List (S79))  (r : Bool) (w : World) (hr0 : Kd.C k79 w A0 l0.length l0) (hc0 : l0.length ≤ c0) (h : api_Stroke_44.f k l0 = some r) :
    Calls Try.prog 44 #[.slice A0 l0.length c0,.func (.func 45) #[] #[]] w fun e w' => e = .returned (.bool r) ∧ Below w.heap.size w w':=by
  have HR0:=am hr0;have HC0:=am hc0;clear hr0 hc0;have HB:=am (Below.refl w.heap.size w);have H : ((api_Stroke_58.f k l0).bind fun t158 => (some (decide (t158 ≥ 0)))) = some r:=h;clear h;replace H:=Option.bind_eq_some_iff.mp H;obtain ⟨t158,A30,H⟩:=H;replace H : (some (decide (t158 ≥ 0))) = some r:=H;have A3:=am A30;clear A30;obtain rfl:=Option.some.inj H
  go_enter Try.func44,Try.ntmps44
  go_wp2_with (first|((with_reducible refine gate_callee (f:=58) rfl ?_);refine goesL_ (some 7) rfl rfl Try.func58 (by kernel_rfl) rfl #[.slice A0 l0.length c0,.func (.func 45) #[] #[]] rfl (by (try simp only [List.map_toArray,List.map_cons,List.map_nil]);first|done|rfl|(simp only [List.length_drop,List.length_take];rfl)) ?_;(with_reducible refine (api_Stroke_58.calls k _ _ l0  t158 _ ?side1 ?side2 A3.out).mono ?_);(case side1 => repeat (first|exact HR0.out|(with_reducible refine Kd.C_alloc ?_ _)|(with_reducible refine Kd.C_drewN ?_ _)|(with_reducible refine Kd.C_drew ?_)));(case side2 => exact HC0.out);rintro e w4 ⟨rfl,hb⟩;refine ⟨_,rfl,?_⟩;replace HB:=am (ss (by repeat (first|(with_reducible first|exact HB.out|apply sa|apply sn|apply sd)|exact HB.out)) hb);(try clear hb);(try clear hb2);(try clear hk);(try clear hi)))
  go_ret
  exact ⟨by first|rfl|(simp [errW_none,errW_some] <;> rfl)|(simp [*,errW_none,errW_some] <;> rfl),by repeat (first|(with_reducible first|exact HB.out|apply sa|apply sn|apply sd)|exact HB.out)⟩

/-! ### style_Right: function 31 -/
def style_Right.f (k : Nat) (l0 : List (S65)) (l1 : List (S79)) : Option (Bool):=if (l0.length : Int) ≤ 15 then (if (l1.length : Int) ≤ 15 then ((api_Fill_41.f k l0).bind fun t159 => (if t159 = true then (some false) else ((api_Stroke_44.f k l1).bind fun t160 => (some (!t160))))) else (some false)) else (some false)
theorem style_Right.mono : ∀ a0 a1 k,LeO (style_Right.f k a0 a1) (style_Right.f (k + 1) a0 a1):=by
  intro a0 a1 k
  unfold style_Right.f
  repeat' first
      | (with_reducible exact api_Fill_41.mono _ _)
      | (with_reducible exact api_Stroke_44.mono _ _)
      | (with_reducible exact LeO.refl _)
      | (with_reducible exact LeO.none _)
      | (with_reducible refine LeO.ite ?_ ?_)
      | (with_reducible refine LeO.bind ?_ (fun _ => ?_))
      | exact api_Fill_41.mono _ _
      | exact api_Stroke_44.mono _ _
      | exact LeO.none _
      | refine LeO.ite ?_ ?_
      | refine LeO.bind ?_ (fun _ => ?_)
set_option maxHeartbeats 8000000 in
set_option maxRecDepth 100000 in
theorem style_Right.calls (k : Nat) (A0 : Option Addr) (c0 : Nat) (l0 : List (S65)) (A1 : Option Addr) (c1 : Nat) (l1 : List (S79)) (r : Bool) (w : World) (hr0 : Kd.C k65 w A0 l0.length l0) (hc0 : l0.length ≤ c0) (hr1 : Kd.C k79 w A1 l1.length l1) (hc1 : l1.length ≤ c1) (h : style_Right.f k l0 l1 = some r) :
    Calls Try.prog 31 #[.slice A0 l0.length c0,.slice A1 l1.length c1] w fun e w' => e = .returned (.bool r) ∧ Below w.heap.size w w':=by
  have HR0:=am hr0;have HC0:=am hc0;clear hr0 hc0;have HR1:=am hr1;have HC1:=am hc1;clear hr1 hc1;have HB:=am (Below.refl w.heap.size w);have H : (if (l0.length : Int) ≤ 15 then (if (l1.length : Int) ≤ 15 then ((api_Fill_41.f k l0).bind fun t159 => (if t159 = true then (some false) else ((api_Stroke_44.f k l1).bind fun t160 => (some (!t160))))) else (some false)) else (some false)) = some r:=h;clear h
  by_cases c3 : (l0.length : Int) ≤ 15
  · rw [if_pos c3] at H
    have c3b0 : decide ((l0.length : Int) ≤ 15) = true:=decide_eq_true c3;have c3b1 : decide (l0.length ≤ 15) = true:=decide_eq_true (by omega);clear c3
    by_cases c4 : (l1.length : Int) ≤ 15
    · rw [if_pos c4] at H
      have c4b0 : decide ((l1.length : Int) ≤ 15) = true:=decide_eq_true c4;have c4b1 : decide (l1.length ≤ 15) = true:=decide_eq_true (by omega);clear c4;replace H:=Option.bind_eq_some_iff.mp H;obtain ⟨t159,A50,H⟩:=H;replace H : (if t159 = true then (some false) else ((api_Stroke_44.f k l1).bind fun t160 => (some (!t160)))) = some r:=H;have A5:=am A50;clear A50
      by_cases c6 : t159 = true
      · subst c6
        have H1 : (some false) = some r:=by rw [if_pos rfl] at H;exact H
        clear H;have H:=H1;clear H1;obtain rfl:=Option.some.inj H
        go_enter Try.func31,Try.ntmps31
        go_wp2_with (first|(go_at_call 41;(with_reducible refine (api_Fill_41.calls k _ _ l0  true _ ?side1 ?side2 A5.out).mono ?_);(case side1 => repeat (first|exact HR0.out|(with_reducible refine Kd.C_alloc ?_ _)|(with_reducible refine Kd.C_drewN ?_ _)|(with_reducible refine Kd.C_drew ?_)));(case side2 => exact HC0.out);rintro e w7 ⟨rfl,hb⟩;replace HB:=am (ss (by repeat (first|(with_reducible first|exact HB.out|apply sa|apply sn|apply sd)|exact HB.out)) hb);(try clear hb);(try clear hb2);(try clear hk);(try clear hi)))
        go_ret
        exact ⟨by first|rfl|(simp [errW_none,errW_some] <;> rfl)|(simp [*,errW_none,errW_some] <;> rfl),by repeat (first|(with_reducible first|exact HB.out|apply sa|apply sn|apply sd)|exact HB.out)⟩
      · replace c6:=Bool.eq_false_iff.mpr c6
        subst c6
        have H1 : ((api_Stroke_44.f k l1).bind fun t160 => (some (!t160))) = some r:=by rw [if_neg (show ¬ (false = true) by decide)] at H;exact H
        clear H;have H:=H1;clear H1;replace H:=Option.bind_eq_some_iff.mp H;obtain ⟨t160,A80,H⟩:=H;replace H : (some (!t160)) = some r:=H;have A8:=am A80;clear A80;obtain rfl:=Option.some.inj H
        go_enter Try.func31,Try.ntmps31
        go_wp2_with (first|(go_at_call 41;(with_reducible refine (api_Fill_41.calls k _ _ l0  false _ ?side1 ?side2 A5.out).mono ?_);(case side1 => repeat (first|exact HR0.out|(with_reducible refine Kd.C_alloc ?_ _)|(with_reducible refine Kd.C_drewN ?_ _)|(with_reducible refine Kd.C_drew ?_)));(case side2 => exact HC0.out);rintro e w9 ⟨rfl,hb⟩;replace HB:=am (ss (by repeat (first|(with_reducible first|exact HB.out|apply sa|apply sn|apply sd)|exact HB.out)) hb);(try clear hb);(try clear hb2);(try clear hk);(try clear hi))|(go_at_call 44;(with_reducible refine (api_Stroke_44.calls k _ _ l1  t160 _ ?side1 ?side2 A8.out).mono ?_);(case side1 => repeat (first|exact (Kd.C_below HR1.out HB.out)|(with_reducible refine Kd.C_alloc ?_ _)|(with_reducible refine Kd.C_drewN ?_ _)|(with_reducible refine Kd.C_drew ?_)));(case side2 => exact HC1.out);rintro e w10 ⟨rfl,hb⟩;replace HB:=am (ss (by repeat (first|(with_reducible first|exact HB.out|apply sa|apply sn|apply sd)|exact HB.out)) hb);(try clear hb);(try clear hb2);(try clear hk);(try clear hi)))
        go_ret
        exact ⟨by first|rfl|(simp [errW_none,errW_some] <;> rfl)|(simp [*,errW_none,errW_some] <;> rfl),by repeat (first|(with_reducible first|exact HB.out|apply sa|apply sn|apply sd)|exact HB.out)⟩
    · rw [if_neg c4] at H
      have c4b0 : decide ((l1.length : Int) ≤ 15) = false:=decide_eq_false c4;have c4b1 : decide (l1.length ≤ 15) = false:=decide_eq_false (by omega);clear c4;obtain rfl:=Option.some.inj H
      go_enter Try.func31,Try.ntmps31
      go_wp2
      go_ret
      exact ⟨by first|rfl|(simp [errW_none,errW_some] <;> rfl)|(simp [*,errW_none,errW_some] <;> rfl),by repeat (first|(with_reducible first|exact HB.out|apply sa|apply sn|apply sd)|exact HB.out)⟩
  · rw [if_neg c3] at H
    have c3b0 : decide ((l0.length : Int) ≤ 15) = false:=decide_eq_false c3;have c3b1 : decide (l0.length ≤ 15) = false:=decide_eq_false (by omega);clear c3;obtain rfl:=Option.some.inj H
    go_enter Try.func31,Try.ntmps31
    go_wp2
    go_ret
    exact ⟨by first|rfl|(simp [errW_none,errW_some] <;> rfl)|(simp [*,errW_none,errW_some] <;> rfl),by repeat (first|(with_reducible first|exact HB.out|apply sa|apply sn|apply sd)|exact HB.out)⟩

/-! ### api_Stroke_61: function 61 -/
def api_Stroke_61.l0 : Nat → List (S79) → List (S79) → Int → Int → Option (Bool)
  | 0,_,_,_,_ => none
  | k + 1,x0,x1,x12,x13 => if x13 < x12 then (if 0 ≤ x13 then (if x13 < (x0.length : Int) then (if x13 < (x1.length : Int) then (if (!(((rd_T79 x0 x13).f0) == ((rd_T79 x1 x13).f0)) || ((!(((rd_T79 x0 x13).f1.f0) == ((rd_T79 x1 x13).f1.f0)) || (!(((rd_T79 x0 x13).f1.f1) == ((rd_T79 x1 x13).f1.f1)) || (!(((rd_T79 x0 x13).f1.f2) == ((rd_T79 x1 x13).f1.f2)) || (!(((rd_T79 x0 x13).f1.f3) == ((rd_T79 x1 x13).f1.f3)))))))) = true then (some false) else (api_Stroke_61.l0 k x0 x1 x12 (wrap64 (x13 + 1)))) else (none)) else (none)) else (none)) else (some true)
def api_Stroke_61.f (k : Nat) (l0 : List (S79)) (l1 : List (S79)) : Option (Bool):=if (l0.length : Int) = (l1.length : Int) then (api_Stroke_61.l0 k l0 l1 (l0.length : Int) 0) else (some false)
theorem api_Stroke_61.mono_l : ∀ k,(∀ y0 y1 y2 y3,LeO (api_Stroke_61.l0 k y0 y1 y2 y3) (api_Stroke_61.l0 (k + 1) y0 y1 y2 y3))
  | 0 => fun _ _ _ _ r h => by simp [api_Stroke_61.l0] at h
  | k + 1 => by
    have ih0:=api_Stroke_61.mono_l k
    · intro y0 y1 y2 y3
      unfold api_Stroke_61.l0
      repeat' first
      | (with_reducible exact ih0 _ _ _ _)
      | (with_reducible exact LeO.refl _)
      | (with_reducible exact LeO.none _)
      | (with_reducible refine LeO.ite ?_ ?_)
      | (with_reducible refine LeO.bind ?_ (fun _ => ?_))
      | exact ih0 _ _ _ _
      | exact LeO.none _
      | refine LeO.ite ?_ ?_
      | refine LeO.bind ?_ (fun _ => ?_)
theorem api_Stroke_61.mono : ∀ a0 a1 k,LeO (api_Stroke_61.f k a0 a1) (api_Stroke_61.f (k + 1) a0 a1):=by
  intro a0 a1 k
  have ih0:=api_Stroke_61.mono_l k
  unfold api_Stroke_61.f
  repeat' first
      | (with_reducible exact ih0 _ _ _ _)
      | (with_reducible exact LeO.refl _)
      | (with_reducible exact LeO.none _)
      | (with_reducible refine LeO.ite ?_ ?_)
      | (with_reducible refine LeO.bind ?_ (fun _ => ?_))
      | exact ih0 _ _ _ _
      | exact LeO.none _
      | refine LeO.ite ?_ ?_
      | refine LeO.bind ?_ (fun _ => ?_)
set_option maxHeartbeats 8000000 in
set_option maxRecDepth 100000 in
theorem api_Stroke_61.calls (k : Nat) (A0 : Option Addr) (c0 : Nat) (l0 : List (S79)) (A1 : Option Addr) (c1 : Nat) (l1 : List (S79)) (r : Bool) (w : World) (hr0 : Kd.C k79 w A0 l0.length l0) (hc0 : l0.length ≤ c0) (hr1 : Kd.C k79 w A1 l1.length l1) (hc1 : l1.length ≤ c1) (h : api_Stroke_61.f k l0 l1 = some r) :
    Calls Try.prog 61 #[.slice A0 l0.length c0,.slice A1 l1.length c1] w fun e w' => e = .returned (.bool r) ∧ Drawn0 w w':=by
  have hu79:=Try.underlying79;have HR0:=am hr0;have HC0:=am hc0;clear hr0 hc0;have HR1:=am hr1;have HC1:=am hc1;clear hr1 hc1;have H : (if (l0.length : Int) = (l1.length : Int) then (api_Stroke_61.l0 k l0 l1 (l0.length : Int) 0) else (some false)) = some r:=h;clear h
  by_cases c3 : (l0.length : Int) = (l1.length : Int)
  · rw [if_pos c3] at H
    have c3b0 : ((l0.length : Int) == (l1.length : Int)) = true:=beq_iff_eq.mpr c3;have c3b1 : ((l0.length : Int) != (l1.length : Int)) = false:=bne_eq_false_iff_eq.mpr c3
    have c3b2 : (l0.length == l1.length) = true:=by first|simpa using c3|(simp at c3 ⊢;omega)
    clear c3;have H':=am H;clear H
    go_enter Try.func61,Try.ntmps61
    go_wp2
    repeat (go_quiet (fail);try go_wp2)
    go_loopg [13] k (fun kq v13 w' => ∃ (x13_1 : Int),v13 = .int .i64 x13_1 ∧ Aside0 (api_Stroke_61.l0 kq l0 l1 (l0.length : Int) x13_1 = some r) ∧ Aside0 (kq ≤ k) ∧ Drawn0 w w')
    case atStart => exact ⟨(0),(by first|rfl|(simp;done)|(simp [*];done)),H',⟨Nat.le_refl _⟩,by repeat (first|exact Drawn0.refl _|apply Drawn0.step)⟩
    case round =>
      clear H'
      (try clear c1);(try clear p2);(try clear c3);(try clear c3b0);(try clear c3b1);(try clear c3b2)
      obtain ⟨x13_1,rfl,HA,HK1,⟨m1,rfl⟩⟩:=hrel
      cases gk with
      | zero => exact absurd HA.out (by simp [api_Stroke_61.l0])
      | succ k1 =>
        have H:=HA.out;clear HA;simp only [api_Stroke_61.l0] at H
        by_cases c4 : x13_1 < (l0.length : Int)
        · rw [if_pos c4] at H
          have c4b0 : decide (x13_1 < (l0.length : Int)) = true:=decide_eq_true c4;clear c4
          by_cases c5 : 0 ≤ x13_1
          · rw [if_pos c5] at H
            have c5b0 : decide (0 ≤ x13_1) = true:=decide_eq_true c5;clear c5
            by_cases c6 : x13_1 < (l0.length : Int)
            · rw [if_pos c6] at H
              have c6b0 : decide (x13_1 < (l0.length : Int)) = true:=decide_eq_true c6;clear c6
              by_cases c7 : x13_1 < (l1.length : Int)
              · rw [if_pos c7] at H
                have c7b0 : decide (x13_1 < (l1.length : Int)) = true:=decide_eq_true c7;clear c7
                by_cases c8 : (!(((rd_T79 l0 x13_1).f0) == ((rd_T79 l1 x13_1).f0)) || ((!(((rd_T79 l0 x13_1).f1.f0) == ((rd_T79 l1 x13_1).f1.f0)) || (!(((rd_T79 l0 x13_1).f1.f1) == ((rd_T79 l1 x13_1).f1.f1)) || (!(((rd_T79 l0 x13_1).f1.f2) == ((rd_T79 l1 x13_1).f1.f2)) || (!(((rd_T79 l0 x13_1).f1.f3) == ((rd_T79 l1 x13_1).f1.f3)))))))) = true
                · rw [if_pos c8] at H
                  have c8b0 : (!(((rd_T79 l0 x13_1).f0) == ((rd_T79 l1 x13_1).f0)) || ((!(((rd_T79 l0 x13_1).f1.f0) == ((rd_T79 l1 x13_1).f1.f0)) || (!(((rd_T79 l0 x13_1).f1.f1) == ((rd_T79 l1 x13_1).f1.f1)) || (!(((rd_T79 l0 x13_1).f1.f2) == ((rd_T79 l1 x13_1).f1.f2)) || (!(((rd_T79 l0 x13_1).f1.f3) == ((rd_T79 l1 x13_1).f1.f3)))))))) = true:=c8;clear c8;obtain rfl:=Option.some.inj H;have p161 : 0 ≤ (x13_1 : Int):=of_decide_eq_true (by first|(with_reducible assumption)|assumption);have q161 : x13_1 < (l0.length : Int):=of_decide_eq_true (by first|(with_reducible assumption)|assumption);obtain ⟨ad161,e161,hx161_0,hx161_1,hx161_2,hx161_3,hx161_4⟩:=at_T79 HR0.out x13_1 p161 q161
                  cases e161
                  replace p161:=eq_true p161;replace q161:=eq_true q161;have p162 : 0 ≤ (x13_1 : Int):=of_decide_eq_true (by first|(with_reducible assumption)|assumption);have q162 : x13_1 < (l1.length : Int):=of_decide_eq_true (by first|(with_reducible assumption)|assumption);obtain ⟨ad162,e162,hx162_0,hx162_1,hx162_2,hx162_3,hx162_4⟩:=at_T79 HR1.out x13_1 p162 q162
                  cases e162
                  replace p162:=eq_true p162;replace q162:=eq_true q162
                  go_wp2
                  repeat (go_quiet (fail);try go_wp2)
                  go_ret
                  exact ⟨by first|rfl|(simp;done)|(simp [*];done),by repeat (first|exact Drawn0.refl _|apply Drawn0.step)⟩
                · rw [if_neg c8] at H
                  have c8b0 : (!(((rd_T79 l0 x13_1).f0) == ((rd_T79 l1 x13_1).f0)) || ((!(((rd_T79 l0 x13_1).f1.f0) == ((rd_T79 l1 x13_1).f1.f0)) || (!(((rd_T79 l0 x13_1).f1.f1) == ((rd_T79 l1 x13_1).f1.f1)) || (!(((rd_T79 l0 x13_1).f1.f2) == ((rd_T79 l1 x13_1).f1.f2)) || (!(((rd_T79 l0 x13_1).f1.f3) == ((rd_T79 l1 x13_1).f1.f3)))))))) = false:=by simpa using c8
                  clear c8;have H':=am H;clear H;have p161 : 0 ≤ (x13_1 : Int):=of_decide_eq_true (by first|(with_reducible assumption)|assumption);have q161 : x13_1 < (l0.length : Int):=of_decide_eq_true (by first|(with_reducible assumption)|assumption);obtain ⟨ad161,e161,hx161_0,hx161_1,hx161_2,hx161_3,hx161_4⟩:=at_T79 HR0.out x13_1 p161 q161
                  cases e161
                  replace p161:=eq_true p161;replace q161:=eq_true q161;have p162 : 0 ≤ (x13_1 : Int):=of_decide_eq_true (by first|(with_reducible assumption)|assumption);have q162 : x13_1 < (l1.length : Int):=of_decide_eq_true (by first|(with_reducible assumption)|assumption);obtain ⟨ad162,e162,hx162_0,hx162_1,hx162_2,hx162_3,hx162_4⟩:=at_T79 HR1.out x13_1 p162 q162
                  cases e162
                  replace p162:=eq_true p162;replace q162:=eq_true q162
                  go_wp2
                  repeat (go_quiet (fail);try go_wp2)
                  go_roundg k1
                  case measure => have:=HK1.out;omega
                  case rel => exact ⟨(wrap64 (x13_1 + 1)),(by first|rfl|(simp;done)|(simp [*];done)),H',⟨by have:=HK1.out;omega⟩,by repeat (first|exact Drawn0.refl _|apply Drawn0.step)⟩
              · rw [if_neg c7] at H
                exact absurd H (by simp)
            · rw [if_neg c6] at H
              exact absurd H (by simp)
          · rw [if_neg c5] at H
            exact absurd H (by simp)
        · rw [if_neg c4] at H
          have c4b0 : decide (x13_1 < (l0.length : Int)) = false:=decide_eq_false c4;clear c4;obtain rfl:=Option.some.inj H
          go_wp2
          repeat (go_quiet (fail);try go_wp2)
          go_ret
          exact ⟨by first|rfl|(simp;done)|(simp [*];done),by repeat (first|exact Drawn0.refl _|apply Drawn0.step)⟩
  · rw [if_neg c3] at H
    have c3b0 : ((l0.length : Int) == (l1.length : Int)) = false:=beq_eq_false_iff_ne.mpr c3;have c3b1 : ((l0.length : Int) != (l1.length : Int)) = true:=bne_iff_ne.mpr c3
    have c3b2 : (l0.length == l1.length) = false:=by first|simpa using c3|(simp at c3 ⊢;omega)
    obtain rfl:=Option.some.inj H
    go_enter Try.func61,Try.ntmps61
    go_wp2
    repeat (go_quiet (fail);try go_wp2)
    go_ret
    exact ⟨by first|rfl|(simp;done)|(simp [*];done),by repeat (first|exact Drawn0.refl _|apply Drawn0.step)⟩

end Go.Proofs.Ytlldbmodidhidaa.P
