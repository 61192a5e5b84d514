/- Printed by printx.py (wip/tool) out of the translation: plain functions that tell what the program answers,and the proofs that the program comes to these answers,for all arguments of their kinds. Lean checks it. -/
import Derived.Test.YtmdfcinjmlagcaaShort
import Derived.Test.YtmdfcinjmlagcaaPx0
import Derived.Test.YtmdfcinjmlagcaaPx1
import Derived.Test.YtmdfcinjmlagcaaPx4
namespace Go.Proofs.Ytmdfcinjmlagcaa.P
open Go.RowKit Go.Proofs.YtmdfcinjmlagcaaW.PrintWords Go.Proofs.YtmdfcinjmlagcaaW.PrintLast Go.Proofs.YtmdfcinjmlagcaaW.PrintMore
attribute [local go_sem] max2_int min2_int max_two min_two max_three min_three max_four min_four max_five min_five max_six min_six   -- for this text's walks alone
set_option linter.unusedVariables false
set_option linter.unusedSimpArgs false

attribute [local go_sem high] eqA23
/-! ### pixel_faint: function 43 -/
def pixel_faint.f (k : Nat) (a0_0 : Int) (a0_1 : Int) (a0_2 : Int) (a0_3 : Int) : Option (Bool):=(field_RightRGBA.f k a0_0 a0_1 a0_2 a0_3).bind fun t187 => (if t187 = true then (some (decide ((mx (mx a0_0 a0_1) a0_2) ≤ a0_3))) else (some false))
theorem pixel_faint.mono : ∀ a0 a1 a2 a3 k,LeO (pixel_faint.f k a0 a1 a2 a3) (pixel_faint.f (k + 1) a0 a1 a2 a3):=by
  intro a0 a1 a2 a3 k
  unfold pixel_faint.f
  repeat' first
      | (with_reducible exact field_RightRGBA.mono _ _ _ _ _)
      | (with_reducible exact LeO.refl _)
      | (with_reducible exact LeO.none _)
      | (with_reducible refine LeO.ite ?_ ?_)
      | (with_reducible refine LeO.bind ?_ (fun _ => ?_))
      | exact field_RightRGBA.mono _ _ _ _ _
      | exact LeO.none _
      | refine LeO.ite ?_ ?_
      | refine LeO.bind ?_ (fun _ => ?_)
set_option maxHeartbeats 8000000 in
set_option maxRecDepth 100000 in
theorem pixel_faint.calls (k : Nat) (a0_0 : Int) (a0_1 : Int) (a0_2 : Int) (a0_3 : Int) (r : Bool) (w : World) (h : pixel_faint.f k a0_0 a0_1 a0_2 a0_3 = some r) :
    Calls Try.prog 43 #[.agg #[.int .i64 a0_0,.int .i64 a0_1,.int .i64 a0_2,.int .i64 a0_3]] w fun e w' => e = .returned (.bool r) ∧ Below w.heap.size w w':=by
  have hu23:=Try.underlying23;have HB:=am (Below.refl w.heap.size w);have H : ((field_RightRGBA.f k a0_0 a0_1 a0_2 a0_3).bind fun t187 => (if t187 = true then (some (decide ((mx (mx a0_0 a0_1) a0_2) ≤ a0_3))) else (some false))) = some r:=h;clear h;replace H:=Option.bind_eq_some_iff.mp H;obtain ⟨t187,A20,H⟩:=H;replace H : (if t187 = true then (some (decide ((mx (mx a0_0 a0_1) a0_2) ≤ a0_3))) else (some false)) = some r:=H;have A2:=am A20;clear A20
  by_cases c3 : t187 = true
  · subst c3
    have H1 : (some (decide ((mx (mx a0_0 a0_1) a0_2) ≤ a0_3))) = some r:=by rw [if_pos rfl] at H;exact H
    clear H;have H:=H1;clear H1;obtain ⟨ji4,hji4⟩ : ∃ j_ : Int,(mx a0_0 a0_1) = j_:=⟨_,rfl⟩
    replace H : (some (decide ((mx (ji4) a0_2) ≤ a0_3))) = some r:=by first|(rw [hji4] at H;exact H)|(simp only [hji4] at H ⊢;exact H)
    (try rw [hji4] at A2);have hji4_ : (if a0_0 < a0_1 then a0_1 else a0_0) = ji4:=hji4;obtain ⟨ji5,hji5⟩ : ∃ j_ : Int,(mx (ji4) a0_2) = j_:=⟨_,rfl⟩
    replace H : (some (decide ((ji5) ≤ a0_3))) = some r:=by first|(rw [hji5] at H;exact H)|(simp only [hji5] at H ⊢;exact H)
    (try rw [hji5] at A2);have hji5_ : (if (ji4) < a0_2 then a0_2 else (ji4)) = ji5:=hji5;obtain rfl:=Option.some.inj H
    go_enter Try.func43,Try.ntmps43
    go_wp2_with (first|((with_reducible refine gate_dst (N:=1) rfl ?_);(try (refine gate_guard (by rfl) ?_;dsimp only));refine box_event ?hg (N:=1) ?hd (cs:=#[.int .i64 a0_0,.int .i64 a0_1,.int .i64 a0_2,.int .i64 a0_3]) (t:=23) ?hr ?_;(case hd => rfl);(case hg => rfl);(case hr => first|(go_simp;done)|(go_simp;rfl));intro gb186 hg w6 hbox hb;have BK186:=am (hbox);have GW186:=am ((by rw [hg];exact (sz (by repeat (first|(with_reducible first|exact HB.out|apply sa|apply sn|apply sd)|exact HB.out))) : w.heap.size ≤ gb186));have GE186:=am ((by rw [hg];exact (sz (by repeat (first|(with_reducible first|exact HB.out|apply sa|apply sn|apply sd)|exact HB.out))) : w.heap.size ≤ gb186));replace HB:=am (ss (by repeat (first|(with_reducible first|exact HB.out|apply sa|apply sn|apply sd)|exact HB.out)) hb);clear hb hbox hg;obtain ⟨hcz7_0,hcz7_1,hcz7_2,hcz7_3⟩:=cq4 BK186.out;obtain ⟨hfz7_0,hfz7_1,hfz7_2,hfz7_3⟩:=fq4 BK186.out)|((with_reducible refine gate_callee (f:=24) rfl ?_);refine goesL_ (some 4) rfl rfl Try.func24 (by kernel_rfl) rfl #[.agg #[.int .i64 a0_0,.int .i64 a0_1,.int .i64 a0_2,.int .i64 a0_3]] rfl (by (try simp only [List.map_toArray,List.map_cons,List.map_nil]);first|done|rfl|(simp only [List.length_drop,List.length_take];rfl)) ?_;(with_reducible refine (field_RightRGBA.calls k a0_0 a0_1 a0_2 a0_3 true _ A2.out).mono ?_);rintro e w8 ⟨rfl,hb⟩;refine ⟨_,rfl,?_⟩;replace BK186:=am (bw (by exact BK186.out) hb);replace HB:=am (ss (by repeat (first|(with_reducible first|exact HB.out|apply sa|apply sn|apply sd|refine sx ?_ GE186.out)|exact HB.out)) hb);(try clear hb);(try clear hb2);(try clear hk);(try clear hi);obtain ⟨hcz9_0,hcz9_1,hcz9_2,hcz9_3⟩:=cq4 BK186.out;obtain ⟨hfz9_0,hfz9_1,hfz9_2,hfz9_3⟩:=fq4 BK186.out))
    go_ret
    exact ⟨by first|rfl|(simp [errW_none,errW_some] <;> rfl)|(simp only [← hji4, ← hji5];first|rfl|(simp [errW_none,errW_some] <;> rfl))|(simp [*,errW_none,errW_some] <;> rfl),by repeat (first|(with_reducible first|exact HB.out|apply sa|apply sn|apply sd|refine sx ?_ GE186.out)|exact HB.out)⟩
  · replace c3:=Bool.eq_false_iff.mpr c3
    subst c3
    have H1 : (some false) = some r:=by rw [if_neg (show ¬ (false = true) by decide)] at H;exact H
    clear H;have H:=H1;clear H1;obtain rfl:=Option.some.inj H
    go_enter Try.func43,Try.ntmps43
    go_wp2_with (first|((with_reducible refine gate_dst (N:=1) rfl ?_);(try (refine gate_guard (by rfl) ?_;dsimp only));refine box_event ?hg (N:=1) ?hd (cs:=#[.int .i64 a0_0,.int .i64 a0_1,.int .i64 a0_2,.int .i64 a0_3]) (t:=23) ?hr ?_;(case hd => rfl);(case hg => rfl);(case hr => first|(go_simp;done)|(go_simp;rfl));intro gb186 hg w10 hbox hb;have BK186:=am (hbox);have GW186:=am ((by rw [hg];exact (sz (by repeat (first|(with_reducible first|exact HB.out|apply sa|apply sn|apply sd)|exact HB.out))) : w.heap.size ≤ gb186));have GE186:=am ((by rw [hg];exact (sz (by repeat (first|(with_reducible first|exact HB.out|apply sa|apply sn|apply sd)|exact HB.out))) : w.heap.size ≤ gb186));replace HB:=am (ss (by repeat (first|(with_reducible first|exact HB.out|apply sa|apply sn|apply sd)|exact HB.out)) hb);clear hb hbox hg;obtain ⟨hcz11_0,hcz11_1,hcz11_2,hcz11_3⟩:=cq4 BK186.out;obtain ⟨hfz11_0,hfz11_1,hfz11_2,hfz11_3⟩:=fq4 BK186.out)|((with_reducible refine gate_callee (f:=24) rfl ?_);refine goesL_ (some 4) rfl rfl Try.func24 (by kernel_rfl) rfl #[.agg #[.int .i64 a0_0,.int .i64 a0_1,.int .i64 a0_2,.int .i64 a0_3]] rfl (by (try simp only [List.map_toArray,List.map_cons,List.map_nil]);first|done|rfl|(simp only [List.length_drop,List.length_take];rfl)) ?_;(with_reducible refine (field_RightRGBA.calls k a0_0 a0_1 a0_2 a0_3 false _ A2.out).mono ?_);rintro e w12 ⟨rfl,hb⟩;refine ⟨_,rfl,?_⟩;replace BK186:=am (bw (by exact BK186.out) hb);replace HB:=am (ss (by repeat (first|(with_reducible first|exact HB.out|apply sa|apply sn|apply sd|refine sx ?_ GE186.out)|exact HB.out)) hb);(try clear hb);(try clear hb2);(try clear hk);(try clear hi)))
    go_ret
    exact ⟨by first|rfl|(simp [errW_none,errW_some] <;> rfl)|(simp [*,errW_none,errW_some] <;> rfl),by repeat (first|(with_reducible first|exact HB.out|apply sa|apply sn|apply sd|refine sx ?_ GE186.out)|exact HB.out)⟩

/-! ### pixel_Right_1: function 42 -/
def pixel_Right_1.f (k : Nat) (a0_0 : Int) (a0_1 : Int) (a0_2 : Int) (a0_3 : Int) : Option (Bool):=(pixel_faint.f k a0_0 a0_1 a0_2 a0_3).bind fun t189 => (some (!t189))
theorem pixel_Right_1.mono : ∀ a0 a1 a2 a3 k,LeO (pixel_Right_1.f k a0 a1 a2 a3) (pixel_Right_1.f (k + 1) a0 a1 a2 a3):=by
  intro a0 a1 a2 a3 k
  unfold pixel_Right_1.f
  repeat' first
      | (with_reducible exact pixel_faint.mono _ _ _ _ _)
      | (with_reducible exact LeO.refl _)
      | (with_reducible exact LeO.none _)
      | (with_reducible refine LeO.ite ?_ ?_)
      | (with_reducible refine LeO.bind ?_ (fun _ => ?_))
      | exact pixel_faint.mono _ _ _ _ _
      | exact LeO.none _
      | refine LeO.ite ?_ ?_
      | refine LeO.bind ?_ (fun _ => ?_)
set_option maxHeartbeats 8000000 in
set_option maxRecDepth 100000 in
theorem pixel_Right_1.calls (k : Nat) (a0_0 : Int) (a0_1 : Int) (a0_2 : Int) (a0_3 : Int) (r : Bool) (w : World) (h : pixel_Right_1.f k a0_0 a0_1 a0_2 a0_3 = some r) :
    Calls Try.prog 42 #[.agg #[.int .i64 a0_0,.int .i64 a0_1,.int .i64 a0_2,.int .i64 a0_3]] w fun e w' => e = .returned (.bool r) ∧ Below w.heap.size w w':=by
  have hu23:=Try.underlying23;have HB:=am (Below.refl w.heap.size w);have H : ((pixel_faint.f k a0_0 a0_1 a0_2 a0_3).bind fun t189 => (some (!t189))) = some r:=h;clear h;replace H:=Option.bind_eq_some_iff.mp H;obtain ⟨t189,A20,H⟩:=H;replace H : (some (!t189)) = some r:=H;have A2:=am A20;clear A20;obtain rfl:=Option.some.inj H
  go_enter Try.func42,Try.ntmps42
  go_wp2_with (first|((with_reducible refine gate_dst (N:=1) rfl ?_);refine box_event ?hg (N:=1) ?hd (cs:=#[.int .i64 a0_0,.int .i64 a0_1,.int .i64 a0_2,.int .i64 a0_3]) (t:=23) ?hr ?_;(case hd => rfl);(case hg => rfl);(case hr => first|(go_simp;done)|(go_simp;rfl));intro gb188 hg w3 hbox hb;have BK188:=am (hbox);have GW188:=am ((by rw [hg];exact (sz (by repeat (first|(with_reducible first|exact HB.out|apply sa|apply sn|apply sd)|exact HB.out))) : w.heap.size ≤ gb188));have GE188:=am ((by rw [hg];exact (sz (by repeat (first|(with_reducible first|exact HB.out|apply sa|apply sn|apply sd)|exact HB.out))) : w.heap.size ≤ gb188));replace HB:=am (ss (by repeat (first|(with_reducible first|exact HB.out|apply sa|apply sn|apply sd)|exact HB.out)) hb);clear hb hbox hg;obtain ⟨hcz4_0,hcz4_1,hcz4_2,hcz4_3⟩:=cq4 BK188.out;obtain ⟨hfz4_0,hfz4_1,hfz4_2,hfz4_3⟩:=fq4 BK188.out)|((with_reducible refine gate_callee (f:=43) rfl ?_);refine goesL_ (some 4) rfl rfl Try.func43 (by kernel_rfl) rfl #[.agg #[.int .i64 a0_0,.int .i64 a0_1,.int .i64 a0_2,.int .i64 a0_3]] rfl (by (try simp only [List.map_toArray,List.map_cons,List.map_nil]);first|done|rfl|(simp only [List.length_drop,List.length_take];rfl)) ?_;(with_reducible refine (pixel_faint.calls k a0_0 a0_1 a0_2 a0_3 t189 _ A2.out).mono ?_);rintro e w5 ⟨rfl,hb⟩;refine ⟨_,rfl,?_⟩;replace BK188:=am (bw (by exact BK188.out) hb);replace HB:=am (ss (by repeat (first|(with_reducible first|exact HB.out|apply sa|apply sn|apply sd|refine sx ?_ GE188.out)|exact HB.out)) hb);(try clear hb);(try clear hb2);(try clear hk);(try clear hi)))
  go_ret
  exact ⟨by first|rfl|(simp [errW_none,errW_some] <;> rfl)|(simp [*,errW_none,errW_some] <;> rfl),by repeat (first|(with_reducible first|exact HB.out|apply sa|apply sn|apply sd|refine sx ?_ GE188.out)|exact HB.out)⟩

/-! ### api_RGBA_70: function 70 -/
def api_RGBA_70.l0 : Nat → List (S23) → Int → Int → Option (Int)
  | 0,_,_,_ => none
  | k + 1,x0,x7,x8 => if x8 < x7 then (if 0 ≤ x8 then (if x8 < (x0.length : Int) then ((pixel_Right_1.f k ((rd_T23 x0 x8).f0) ((rd_T23 x0 x8).f1) ((rd_T23 x0 x8).f2) ((rd_T23 x0 x8).f3)).bind fun t191 => (if t191 = true then (some x8) else (api_RGBA_70.l0 k x0 x7 (wrap64 (x8 + 1))))) else (none)) else (none)) else (some (-1))
def api_RGBA_70.f (k : Nat) (l0 : List (S23))  : Option (Int):=api_RGBA_70.l0 k l0 (l0.length : Int) 0
theorem api_RGBA_70.mono_l : ∀ k,(∀ y0 y1 y2,LeO (api_RGBA_70.l0 k y0 y1 y2) (api_RGBA_70.l0 (k + 1) y0 y1 y2))
  | 0 => fun _ _ _ r h => by simp [api_RGBA_70.l0] at h
  | k + 1 => by
    have ih0:=api_RGBA_70.mono_l k
    · intro y0 y1 y2
      unfold api_RGBA_70.l0
      repeat' first
      | (with_reducible exact ih0 _ _ _)
      | (with_reducible exact pixel_Right_1.mono _ _ _ _ _)
      | (with_reducible exact LeO.refl _)
      | (with_reducible exact LeO.none _)
      | (with_reducible refine LeO.ite ?_ ?_)
      | (with_reducible refine LeO.bind ?_ (fun _ => ?_))
      | exact ih0 _ _ _
      | exact pixel_Right_1.mono _ _ _ _ _
      | exact LeO.none _
      | refine LeO.ite ?_ ?_
      | refine LeO.bind ?_ (fun _ => ?_)
theorem api_RGBA_70.mono : ∀ a0 k,LeO (api_RGBA_70.f k a0) (api_RGBA_70.f (k + 1) a0):=by
  intro a0 k
  have ih0:=api_RGBA_70.mono_l k
  unfold api_RGBA_70.f
  repeat' first
      | (with_reducible exact ih0 _ _ _)
      | (with_reducible exact pixel_Right_1.mono _ _ _ _ _)
      | (with_reducible exact LeO.refl _)
      | (with_reducible exact LeO.none _)
      | (with_reducible refine LeO.ite ?_ ?_)
      | (with_reducible refine LeO.bind ?_ (fun _ => ?_))
      | exact ih0 _ _ _
      | exact pixel_Right_1.mono _ _ _ _ _
      | exact LeO.none _
      | refine LeO.ite ?_ ?_
      | refine LeO.bind ?_ (fun _ => ?_)
set_option maxHeartbeats 8000000 in
set_option maxRecDepth 100000 in
theorem api_RGBA_70.calls (k : Nat) (A0 : Option Addr) (c0 : Nat) (l0 : List (S23))  (r : Int) (w : World) (hr0 : Kd.C k23 w A0 l0.length l0) (hc0 : l0.length ≤ c0) (h : api_RGBA_70.f k l0 = some r) :
    Calls Try.prog 70 #[.slice A0 l0.length c0,.func (.func 42) #[] #[]] w fun e w' => e = .returned (.int .i64 r) ∧ Below w.heap.size w w':=by
  have hu23:=Try.underlying23;have HR0:=am hr0;have HC0:=am hc0;clear hr0 hc0;have HB:=am (Below.refl w.heap.size w);have H : (api_RGBA_70.l0 k l0 (l0.length : Int) 0) = some r:=h;clear h;have H':=am H;clear H
  go_enter Try.func70,Try.ntmps70
  go_wp2
  go_loopg [8] k (fun kq v8 w' => ∃ (x8_1 : Int),v8 = .int .i64 x8_1 ∧ Aside0 (api_RGBA_70.l0 kq l0 (l0.length : Int) x8_1 = some r) ∧ Aside0 (kq ≤ k) ∧ Aside0 (Below w.heap.size w w'))
  case atStart => exact ⟨(0),(by first|rfl|(simp;done)|(simp [*];done)),H',⟨Nat.le_refl _⟩,⟨by repeat (first|(with_reducible first|exact HB.out|apply sa|apply sn|apply sd)|exact HB.out)⟩⟩
  case round =>
    clear H'
    (try clear p2)
    obtain ⟨x8_1,rfl,HA,HK1,HB⟩:=hrel
    cases gk with
    | zero => exact absurd HA.out (by simp [api_RGBA_70.l0])
    | succ k1 =>
      have H:=HA.out;clear HA;simp only [api_RGBA_70.l0] at H
      by_cases c3 : x8_1 < (l0.length : Int)
      · rw [if_pos c3] at H
        have c3b0 : decide (x8_1 < (l0.length : Int)) = true:=decide_eq_true c3;clear c3
        by_cases c4 : 0 ≤ x8_1
        · rw [if_pos c4] at H
          have c4b0 : decide (0 ≤ x8_1) = true:=decide_eq_true c4;clear c4
          by_cases c5 : x8_1 < (l0.length : Int)
          · rw [if_pos c5] at H
            have c5b0 : decide (x8_1 < (l0.length : Int)) = true:=decide_eq_true c5;clear c5;replace H:=Option.bind_eq_some_iff.mp H;obtain ⟨t191,A60,H⟩:=H;replace H : (if t191 = true then (some x8_1) else (api_RGBA_70.l0 k1 l0 (l0.length : Int) (wrap64 (x8_1 + 1)))) = some r:=H;have A6:=am A60;clear A60
            by_cases c7 : t191 = true
            · subst c7
              have H1 : (some x8_1) = some r:=by rw [if_pos rfl] at H;exact H
              clear H;have H:=H1;clear H1;obtain rfl:=Option.some.inj H;have p190 : 0 ≤ (x8_1 : Int):=of_decide_eq_true (by first|(with_reducible assumption)|assumption);have q190 : x8_1 < (l0.length : Int):=of_decide_eq_true (by first|(with_reducible assumption)|assumption);obtain ⟨ad190,e190,hx190_0,hx190_1,hx190_2,hx190_3⟩:=at_T23 HR0.out x8_1 p190 q190
              cases e190
              replace hx190_0:=(HB.out.cell (World.block_lt_of_cell? w _ hx190_0)).trans hx190_0;replace hx190_1:=(HB.out.cell (World.block_lt_of_cell? w _ hx190_1)).trans hx190_1;replace hx190_2:=(HB.out.cell (World.block_lt_of_cell? w _ hx190_2)).trans hx190_2;replace hx190_3:=(HB.out.cell (World.block_lt_of_cell? w _ hx190_3)).trans hx190_3;replace p190:=eq_true p190;replace q190:=eq_true q190
              go_wp2_with (first|(go_at_call 42;(with_reducible refine (pixel_Right_1.calls k1 ((rd_T23 l0 x8_1).f0) ((rd_T23 l0 x8_1).f1) ((rd_T23 l0 x8_1).f2) ((rd_T23 l0 x8_1).f3) true _ A6.out).mono ?_);rintro e w8 ⟨rfl,hb⟩;replace HB:=am (ss (by repeat (first|(with_reducible first|exact HB.out|apply sa|apply sn|apply sd)|exact HB.out)) hb);(try clear hb);(try clear hb2);(try clear hk);(try clear hi)))
              go_ret
              exact ⟨by first|rfl|(simp [errW_none,errW_some] <;> rfl)|(simp [*,errW_none,errW_some] <;> rfl),by repeat (first|(with_reducible first|exact HB.out|apply sa|apply sn|apply sd)|exact HB.out)⟩
            · replace c7:=Bool.eq_false_iff.mpr c7
              subst c7
              have H1 : (api_RGBA_70.l0 k1 l0 (l0.length : Int) (wrap64 (x8_1 + 1))) = some r:=by rw [if_neg (show ¬ (false = true) by decide)] at H;exact H
              clear H;have H:=H1;clear H1;have H':=am H;clear H;have p190 : 0 ≤ (x8_1 : Int):=of_decide_eq_true (by first|(with_reducible assumption)|assumption);have q190 : x8_1 < (l0.length : Int):=of_decide_eq_true (by first|(with_reducible assumption)|assumption);obtain ⟨ad190,e190,hx190_0,hx190_1,hx190_2,hx190_3⟩:=at_T23 HR0.out x8_1 p190 q190
              cases e190
              replace hx190_0:=(HB.out.cell (World.block_lt_of_cell? w _ hx190_0)).trans hx190_0;replace hx190_1:=(HB.out.cell (World.block_lt_of_cell? w _ hx190_1)).trans hx190_1;replace hx190_2:=(HB.out.cell (World.block_lt_of_cell? w _ hx190_2)).trans hx190_2;replace hx190_3:=(HB.out.cell (World.block_lt_of_cell? w _ hx190_3)).trans hx190_3;replace p190:=eq_true p190;replace q190:=eq_true q190
              go_wp2_with (first|(go_at_call 42;(with_reducible refine (pixel_Right_1.calls k1 ((rd_T23 l0 x8_1).f0) ((rd_T23 l0 x8_1).f1) ((rd_T23 l0 x8_1).f2) ((rd_T23 l0 x8_1).f3) false _ A6.out).mono ?_);rintro e w9 ⟨rfl,hb⟩;replace HB:=am (ss (by repeat (first|(with_reducible first|exact HB.out|apply sa|apply sn|apply sd)|exact HB.out)) hb);(try clear hb);(try clear hb2);(try clear hk);(try clear hi)))
              go_roundg k1
              case measure => have:=HK1.out;omega
              case rel => exact ⟨(wrap64 (x8_1 + 1)),(by first|rfl|(simp;done)|(simp [*];done)),H',⟨by have:=HK1.out;omega⟩,⟨by repeat (first|(with_reducible first|exact HB.out|apply sa|apply sn|apply sd)|exact HB.out)⟩⟩
          · rw [if_neg c5] at H
            exact absurd H (by simp)
        · rw [if_neg c4] at H
          exact absurd H (by simp)
      · rw [if_neg c3] at H
        have c3b0 : decide (x8_1 < (l0.length : Int)) = false:=decide_eq_false c3;clear c3;obtain rfl:=Option.some.inj H
        go_wp2
        go_ret
        exact ⟨by first|rfl|(simp [errW_none,errW_some] <;> rfl)|(simp [*,errW_none,errW_some] <;> rfl),by repeat (first|(with_reducible first|exact HB.out|apply sa|apply sn|apply sd)|exact HB.out)⟩

/-! ### api_RGBA_41: function 41 -/
def api_RGBA_41.f (k : Nat) (l0 : List (S23))  : Option (Bool):=(api_RGBA_70.f k l0).bind fun t192 => (some (decide (t192 ≥ 0)))
theorem api_RGBA_41.mono : ∀ a0 k,LeO (api_RGBA_41.f k a0) (api_RGBA_41.f (k + 1) a0):=by
  intro a0 k
  unfold api_RGBA_41.f
  repeat' first
      | (with_reducible exact api_RGBA_70.mono _ _)
      | (with_reducible exact LeO.refl _)
      | (with_reducible exact LeO.none _)
      | (with_reducible refine LeO.ite ?_ ?_)
      | (with_reducible refine LeO.bind ?_ (fun _ => ?_))
      | exact api_RGBA_70.mono _ _
      | exact LeO.none _
      | refine LeO.ite ?_ ?_
      | refine LeO.bind ?_ (fun _ => ?_)
set_option maxHeartbeats 8000000 in
set_option maxRecDepth 100000 in
theorem api_RGBA_41.calls (k : Nat) (A0 : Option Addr) (c0 : Nat) (l0 : List (S23))  (r : Bool) (w : World) (hr0 : Kd.C k23 w A0 l0.length l0) (hc0 : l0.length ≤ c0) (h : api_RGBA_41.f k l0 = some r) :
    Calls Try.prog 41 #[.slice A0 l0.length c0,.func (.func 42) #[] #[]] w fun e w' => e = .returned (.bool r) ∧ Below w.heap.size w w':=by
  have HR0:=am hr0;have HC0:=am hc0;clear hr0 hc0;have HB:=am (Below.refl w.heap.size w);have H : ((api_RGBA_70.f k l0).bind fun t192 => (some (decide (t192 ≥ 0)))) = some r:=h;clear h;replace H:=Option.bind_eq_some_iff.mp H;obtain ⟨t192,A30,H⟩:=H;replace H : (some (decide (t192 ≥ 0))) = some r:=H;have A3:=am A30;clear A30;obtain rfl:=Option.some.inj H
  go_enter Try.func41,Try.ntmps41
  go_wp2_with (first|((with_reducible refine gate_callee (f:=70) rfl ?_);refine goesL_ (some 7) rfl rfl Try.func70 (by kernel_rfl) rfl #[.slice A0 l0.length c0,.func (.func 42) #[] #[]] rfl (by (try simp only [List.map_toArray,List.map_cons,List.map_nil]);first|done|rfl|(simp only [List.length_drop,List.length_take];rfl)) ?_;(with_reducible refine (api_RGBA_70.calls k _ _ l0  t192 _ ?side1 ?side2 A3.out).mono ?_);(case side1 => repeat (first|exact HR0.out|(with_reducible refine Kd.C_alloc ?_ _)|(with_reducible refine Kd.C_drewN ?_ _)|(with_reducible refine Kd.C_drew ?_)));(case side2 => exact HC0.out);rintro e w4 ⟨rfl,hb⟩;refine ⟨_,rfl,?_⟩;replace HB:=am (ss (by repeat (first|(with_reducible first|exact HB.out|apply sa|apply sn|apply sd)|exact HB.out)) hb);(try clear hb);(try clear hb2);(try clear hk);(try clear hi)))
  go_ret
  exact ⟨by first|rfl|(simp [errW_none,errW_some] <;> rfl)|(simp [*,errW_none,errW_some] <;> rfl),by repeat (first|(with_reducible first|exact HB.out|apply sa|apply sn|apply sd)|exact HB.out)⟩
end Go.Proofs.Ytmdfcinjmlagcaa.P
