/- Printed by printx.py (wip/tool) out of the translation: plain functions that tell what the program answers,and the proofs that the program comes to these answers,for all arguments of their kinds. Lean checks it. -/
import Derived.Test.YtmdfcinjmlagcaaShort
import Derived.Test.YtmdfcinjmlagcaaPx0
import Derived.Test.YtmdfcinjmlagcaaPx4
import Derived.Test.YtmdfcinjmlagcaaPx14
namespace Go.Proofs.Ytmdfcinjmlagcaa.P
open Go.RowKit Go.Proofs.YtmdfcinjmlagcaaW.PrintWords Go.Proofs.YtmdfcinjmlagcaaW.PrintLast Go.Proofs.YtmdfcinjmlagcaaW.PrintMore
attribute [local go_sem] max2_int min2_int max_two min_two max_three min_three max_four min_four max_five min_five max_six min_six   -- for this text's walks alone
set_option linter.unusedVariables false
set_option linter.unusedSimpArgs false

/-! ### ramp_right: function 74 -/
def ramp_right.l0 : Nat → List (S80) → Int → List (S80) → Int → Int → Option (Bool)
  | 0,_,_,_,_,_ => none
  | k + 1,x0,x3,x6,x7,x8 => if x8 < x7 then (if 0 ≤ x8 then (if x8 < (x6.length : Int) then (if ((rd_T80 x6 x8).f0) < x3 then (some false) else (if ((rd_T80 x6 x8).f0) > 255 then (some false) else ((field_RightRGBA.f k ((rd_T80 x6 x8).f1.f0) ((rd_T80 x6 x8).f1.f1) ((rd_T80 x6 x8).f1.f2) ((rd_T80 x6 x8).f1.f3)).bind fun t277 => (if t277 = true then (ramp_right.l0 k x0 ((rd_T80 x6 x8).f0) x6 x7 (wrap64 (x8 + 1))) else (some false))))) else (none)) else (none)) else (some (decide ((x0.length : Int) > 0)))
def ramp_right.f (k : Nat) (l0 : List (S80)) : Option (Bool):=ramp_right.l0 k l0 0 l0 (l0.length : Int) 0
theorem ramp_right.mono_l : ∀ k,(∀ y0 y1 y2 y3 y4,LeO (ramp_right.l0 k y0 y1 y2 y3 y4) (ramp_right.l0 (k + 1) y0 y1 y2 y3 y4))
  | 0 => fun _ _ _ _ _ r h => by simp [ramp_right.l0] at h
  | k + 1 => by
    have ih0:=ramp_right.mono_l k
    · intro y0 y1 y2 y3 y4
      unfold ramp_right.l0
      repeat' first
      | (with_reducible exact ih0 _ _ _ _ _)
      | (with_reducible exact field_RightRGBA.mono _ _ _ _ _)
      | (with_reducible exact LeO.refl _)
      | (with_reducible exact LeO.none _)
      | (with_reducible refine LeO.ite ?_ ?_)
      | (with_reducible refine LeO.bind ?_ (fun _ => ?_))
      | exact ih0 _ _ _ _ _
      | exact field_RightRGBA.mono _ _ _ _ _
      | exact LeO.none _
      | refine LeO.ite ?_ ?_
      | refine LeO.bind ?_ (fun _ => ?_)
theorem ramp_right.mono : ∀ a0 k,LeO (ramp_right.f k a0) (ramp_right.f (k + 1) a0):=by
  intro a0 k
  have ih0:=ramp_right.mono_l k
  unfold ramp_right.f
  repeat' first
      | (with_reducible exact ih0 _ _ _ _ _)
      | (with_reducible exact field_RightRGBA.mono _ _ _ _ _)
      | (with_reducible exact LeO.refl _)
      | (with_reducible exact LeO.none _)
      | (with_reducible refine LeO.ite ?_ ?_)
      | (with_reducible refine LeO.bind ?_ (fun _ => ?_))
      | exact ih0 _ _ _ _ _
      | exact field_RightRGBA.mono _ _ _ _ _
      | exact LeO.none _
      | refine LeO.ite ?_ ?_
      | refine LeO.bind ?_ (fun _ => ?_)
set_option maxHeartbeats 8000000 in
set_option maxRecDepth 100000 in
theorem ramp_right.calls (k : Nat) (A0 : Option Addr) (c0 : Nat) (l0 : List (S80)) (r : Bool) (w : World) (hr0 : Kd.C k80 w A0 l0.length l0) (hc0 : l0.length ≤ c0) (h : ramp_right.f k l0 = some r) :
    Calls Try.prog 74 #[.slice A0 l0.length c0] w fun e w' => e = .returned (.bool r) ∧ Below w.heap.size w w':=by
  have hu80:=Try.underlying80;have hu23:=Try.underlying23;have HR0:=am hr0;have HC0:=am hc0;clear hr0 hc0;have HB:=am (Below.refl w.heap.size w);have H : (ramp_right.l0 k l0 0 l0 (l0.length : Int) 0) = some r:=h;clear h;have H':=am H;clear H
  go_enter Try.func74,Try.ntmps74
  go_wp2
  go_loopg [3,8] k (fun kq v3 v8 w' => ∃ (x3_1 : Int) (x8_1 : Int),v3 = .int .i64 x3_1 ∧ v8 = .int .i64 x8_1 ∧ Aside0 (ramp_right.l0 kq l0 x3_1 l0 (l0.length : Int) x8_1 = some r) ∧ Aside0 (kq ≤ k) ∧ Aside0 (Below w.heap.size w w'))
  case atStart => exact ⟨(0),(0),(by first|rfl|(simp;done)|(simp [*];done)),(by first|rfl|(simp;done)|(simp [*];done)),H',⟨Nat.le_refl _⟩,⟨by repeat (first|(with_reducible first|exact HB.out|apply sa|apply sn|apply sd)|exact HB.out)⟩⟩
  case round =>
    clear H';obtain ⟨x3_1,x8_1,rfl,rfl,HA,HK1,HB⟩:=hrel
    cases gk with
    | zero => exact absurd HA.out (by simp [ramp_right.l0])
    | succ k1 =>
      have H:=HA.out;clear HA;simp only [ramp_right.l0] at H
      by_cases c2 : x8_1 < (l0.length : Int)
      · rw [if_pos c2] at H
        have c2b0 : decide (x8_1 < (l0.length : Int)) = true:=decide_eq_true c2;clear c2
        by_cases c3 : 0 ≤ x8_1
        · rw [if_pos c3] at H
          have c3b0 : decide (0 ≤ x8_1) = true:=decide_eq_true c3;clear c3
          by_cases c4 : x8_1 < (l0.length : Int)
          · rw [if_pos c4] at H
            have c4b0 : decide (x8_1 < (l0.length : Int)) = true:=decide_eq_true c4;clear c4
            by_cases c5 : ((rd_T80 l0 x8_1).f0) < x3_1
            · rw [if_pos c5] at H
              have c5b0 : decide (((rd_T80 l0 x8_1).f0) < x3_1) = true:=decide_eq_true c5;clear c5;obtain rfl:=Option.some.inj H;have p275 : 0 ≤ (x8_1 : Int):=of_decide_eq_true (by first|(with_reducible assumption)|assumption);have q275 : x8_1 < (l0.length : Int):=of_decide_eq_true (by first|(with_reducible assumption)|assumption);obtain ⟨ad275,e275,hx275_0,hx275_1,hx275_2,hx275_3,hx275_4⟩:=at_T80 HR0.out x8_1 p275 q275
              cases e275
              replace hx275_0:=(HB.out.cell (World.block_lt_of_cell? w _ hx275_0)).trans hx275_0;replace hx275_1:=(HB.out.cell (World.block_lt_of_cell? w _ hx275_1)).trans hx275_1;replace hx275_2:=(HB.out.cell (World.block_lt_of_cell? w _ hx275_2)).trans hx275_2;replace hx275_3:=(HB.out.cell (World.block_lt_of_cell? w _ hx275_3)).trans hx275_3;replace hx275_4:=(HB.out.cell (World.block_lt_of_cell? w _ hx275_4)).trans hx275_4;replace p275:=eq_true p275;replace q275:=eq_true q275
              go_wp2_with (first|((with_reducible refine gate_dst (N:=5) rfl ?_);refine box_event ?hg (N:=5) ?hd (cs:=#[.int .i64 0,.int .i64 0,.int .i64 0,.int .i64 0,.int .i64 0]) (t:=80) ?hr ?_;(case hd => rfl);(case hg => rfl);(case hr => first|(go_simp;done)|(go_simp;rfl));intro gb276 hg w6 hbox hb;have BK276:=am (hbox);have GW276:=am ((by rw [hg];exact (sz (by repeat (first|(with_reducible first|exact HB.out|apply sa|apply sn|apply sd)|exact HB.out))) : w.heap.size ≤ gb276));have GE276:=am ((by rw [hg];exact (sz (by repeat (first|(with_reducible first|exact HB.out|apply sa|apply sn|apply sd)|exact HB.out))) : w.heap.size ≤ gb276));replace HB:=am (ss (by repeat (first|(with_reducible first|exact HB.out|apply sa|apply sn|apply sd)|exact HB.out)) hb);clear hb hbox hg;obtain ⟨hcz7_0,hcz7_1,hcz7_2,hcz7_3,hcz7_4⟩:=cq5 BK276.out;obtain ⟨hfz7_0,hfz7_1,hfz7_2,hfz7_3,hfz7_4⟩:=fq5 BK276.out))
              go_ret
              exact ⟨by first|rfl|(simp [errW_none,errW_some] <;> rfl)|(simp [*,errW_none,errW_some] <;> rfl),by repeat (first|(with_reducible first|exact HB.out|apply sa|apply sn|apply sd|refine sx ?_ GE276.out)|exact HB.out)⟩
            · rw [if_neg c5] at H
              have c5b0 : decide (((rd_T80 l0 x8_1).f0) < x3_1) = false:=decide_eq_false c5;clear c5
              by_cases c8 : ((rd_T80 l0 x8_1).f0) > 255
              · rw [if_pos c8] at H
                have c8b0 : decide (255 < ((rd_T80 l0 x8_1).f0)) = true:=decide_eq_true c8;clear c8;obtain rfl:=Option.some.inj H;have p275 : 0 ≤ (x8_1 : Int):=of_decide_eq_true (by first|(with_reducible assumption)|assumption);have q275 : x8_1 < (l0.length : Int):=of_decide_eq_true (by first|(with_reducible assumption)|assumption);obtain ⟨ad275,e275,hx275_0,hx275_1,hx275_2,hx275_3,hx275_4⟩:=at_T80 HR0.out x8_1 p275 q275
                cases e275
                replace hx275_0:=(HB.out.cell (World.block_lt_of_cell? w _ hx275_0)).trans hx275_0;replace hx275_1:=(HB.out.cell (World.block_lt_of_cell? w _ hx275_1)).trans hx275_1;replace hx275_2:=(HB.out.cell (World.block_lt_of_cell? w _ hx275_2)).trans hx275_2;replace hx275_3:=(HB.out.cell (World.block_lt_of_cell? w _ hx275_3)).trans hx275_3;replace hx275_4:=(HB.out.cell (World.block_lt_of_cell? w _ hx275_4)).trans hx275_4;replace p275:=eq_true p275;replace q275:=eq_true q275
                go_wp2_with (first|((with_reducible refine gate_dst (N:=5) rfl ?_);refine box_event ?hg (N:=5) ?hd (cs:=#[.int .i64 0,.int .i64 0,.int .i64 0,.int .i64 0,.int .i64 0]) (t:=80) ?hr ?_;(case hd => rfl);(case hg => rfl);(case hr => first|(go_simp;done)|(go_simp;rfl));intro gb276 hg w9 hbox hb;have BK276:=am (hbox);have GW276:=am ((by rw [hg];exact (sz (by repeat (first|(with_reducible first|exact HB.out|apply sa|apply sn|apply sd)|exact HB.out))) : w.heap.size ≤ gb276));have GE276:=am ((by rw [hg];exact (sz (by repeat (first|(with_reducible first|exact HB.out|apply sa|apply sn|apply sd)|exact HB.out))) : w.heap.size ≤ gb276));replace HB:=am (ss (by repeat (first|(with_reducible first|exact HB.out|apply sa|apply sn|apply sd)|exact HB.out)) hb);clear hb hbox hg;obtain ⟨hcz10_0,hcz10_1,hcz10_2,hcz10_3,hcz10_4⟩:=cq5 BK276.out;obtain ⟨hfz10_0,hfz10_1,hfz10_2,hfz10_3,hfz10_4⟩:=fq5 BK276.out))
                go_ret
                exact ⟨by first|rfl|(simp [errW_none,errW_some] <;> rfl)|(simp [*,errW_none,errW_some] <;> rfl),by repeat (first|(with_reducible first|exact HB.out|apply sa|apply sn|apply sd|refine sx ?_ GE276.out)|exact HB.out)⟩
              · rw [if_neg c8] at H
                have c8b0 : decide (255 < ((rd_T80 l0 x8_1).f0)) = false:=decide_eq_false c8;clear c8;replace H:=Option.bind_eq_some_iff.mp H;obtain ⟨t277,A110,H⟩:=H;replace H : (if t277 = true then (ramp_right.l0 k1 l0 ((rd_T80 l0 x8_1).f0) l0 (l0.length : Int) (wrap64 (x8_1 + 1))) else (some false)) = some r:=H;have A11:=am A110;clear A110
                by_cases c12 : t277 = true
                · subst c12
                  have H1 : (ramp_right.l0 k1 l0 ((rd_T80 l0 x8_1).f0) l0 (l0.length : Int) (wrap64 (x8_1 + 1))) = some r:=by rw [if_pos rfl] at H;exact H
                  clear H;have H:=H1;clear H1;have H':=am H;clear H;have p275 : 0 ≤ (x8_1 : Int):=of_decide_eq_true (by first|(with_reducible assumption)|assumption);have q275 : x8_1 < (l0.length : Int):=of_decide_eq_true (by first|(with_reducible assumption)|assumption);obtain ⟨ad275,e275,hx275_0,hx275_1,hx275_2,hx275_3,hx275_4⟩:=at_T80 HR0.out x8_1 p275 q275
                  cases e275
                  replace hx275_0:=(HB.out.cell (World.block_lt_of_cell? w _ hx275_0)).trans hx275_0;replace hx275_1:=(HB.out.cell (World.block_lt_of_cell? w _ hx275_1)).trans hx275_1;replace hx275_2:=(HB.out.cell (World.block_lt_of_cell? w _ hx275_2)).trans hx275_2;replace hx275_3:=(HB.out.cell (World.block_lt_of_cell? w _ hx275_3)).trans hx275_3;replace hx275_4:=(HB.out.cell (World.block_lt_of_cell? w _ hx275_4)).trans hx275_4;replace p275:=eq_true p275;replace q275:=eq_true q275
                  go_wp2_with (first|((with_reducible refine gate_dst (N:=5) rfl ?_);refine box_event ?hg (N:=5) ?hd (cs:=#[.int .i64 0,.int .i64 0,.int .i64 0,.int .i64 0,.int .i64 0]) (t:=80) ?hr ?_;(case hd => rfl);(case hg => rfl);(case hr => first|(go_simp;done)|(go_simp;rfl));intro gb276 hg w13 hbox hb;have BK276:=am (hbox);have GW276:=am ((by rw [hg];exact (sz (by repeat (first|(with_reducible first|exact HB.out|apply sa|apply sn|apply sd)|exact HB.out))) : w.heap.size ≤ gb276));have GE276:=am ((by rw [hg];exact (sz (by repeat (first|(with_reducible first|exact HB.out|apply sa|apply sn|apply sd)|exact HB.out))) : w.heap.size ≤ gb276));replace HB:=am (ss (by repeat (first|(with_reducible first|exact HB.out|apply sa|apply sn|apply sd)|exact HB.out)) hb);clear hb hbox hg;obtain ⟨hcz14_0,hcz14_1,hcz14_2,hcz14_3,hcz14_4⟩:=cq5 BK276.out;obtain ⟨hfz14_0,hfz14_1,hfz14_2,hfz14_3,hfz14_4⟩:=fq5 BK276.out)|(go_at_call 24;(with_reducible refine (field_RightRGBA.calls k1 ((rd_T80 l0 x8_1).f1.f0) ((rd_T80 l0 x8_1).f1.f1) ((rd_T80 l0 x8_1).f1.f2) ((rd_T80 l0 x8_1).f1.f3) true _ A11.out).mono ?_);rintro e w15 ⟨rfl,hb⟩;replace BK276:=am (bw (g:=gb276) (o:=.cells #[.int .i64 ((rd_T80 l0 x8_1).f0),.int .i64 ((rd_T80 l0 x8_1).f1.f0),.int .i64 ((rd_T80 l0 x8_1).f1.f1),.int .i64 ((rd_T80 l0 x8_1).f1.f2),.int .i64 ((rd_T80 l0 x8_1).f1.f3)] 80 (0,0)) (bp (bp (bp (bp (bp BK276.out 0 _ rfl) 1 _ rfl) 2 _ rfl) 3 _ rfl) 4 _ rfl) hb);replace HB:=am (ss (by repeat (first|(with_reducible first|exact HB.out|apply sa|apply sn|apply sd|refine sx ?_ GE276.out)|exact HB.out)) hb);(try clear hb);(try clear hb2);(try clear hk);(try clear hi);obtain ⟨hcz16_0,hcz16_1,hcz16_2,hcz16_3,hcz16_4⟩:=cq5 BK276.out;obtain ⟨hfz16_0,hfz16_1,hfz16_2,hfz16_3,hfz16_4⟩:=fq5 BK276.out))
                  go_roundg k1
                  case measure => have:=HK1.out;omega
                  case rel => exact ⟨((rd_T80 l0 x8_1).f0),(wrap64 (x8_1 + 1)),(by first|rfl|(simp;done)|(simp [*];done)),(by first|rfl|(simp;done)|(simp [*];done)),H',⟨by have:=HK1.out;omega⟩,⟨by repeat (first|(with_reducible first|exact HB.out|apply sa|apply sn|apply sd|refine sx ?_ GE276.out)|exact HB.out)⟩⟩
                · replace c12:=Bool.eq_false_iff.mpr c12
                  subst c12
                  have H1 : (some false) = some r:=by rw [if_neg (show ¬ (false = true) by decide)] at H;exact H
                  clear H;have H:=H1;clear H1;obtain rfl:=Option.some.inj H;have p275 : 0 ≤ (x8_1 : Int):=of_decide_eq_true (by first|(with_reducible assumption)|assumption);have q275 : x8_1 < (l0.length : Int):=of_decide_eq_true (by first|(with_reducible assumption)|assumption);obtain ⟨ad275,e275,hx275_0,hx275_1,hx275_2,hx275_3,hx275_4⟩:=at_T80 HR0.out x8_1 p275 q275
                  cases e275
                  replace hx275_0:=(HB.out.cell (World.block_lt_of_cell? w _ hx275_0)).trans hx275_0;replace hx275_1:=(HB.out.cell (World.block_lt_of_cell? w _ hx275_1)).trans hx275_1;replace hx275_2:=(HB.out.cell (World.block_lt_of_cell? w _ hx275_2)).trans hx275_2;replace hx275_3:=(HB.out.cell (World.block_lt_of_cell? w _ hx275_3)).trans hx275_3;replace hx275_4:=(HB.out.cell (World.block_lt_of_cell? w _ hx275_4)).trans hx275_4;replace p275:=eq_true p275;replace q275:=eq_true q275
                  go_wp2_with (first|((with_reducible refine gate_dst (N:=5) rfl ?_);refine box_event ?hg (N:=5) ?hd (cs:=#[.int .i64 0,.int .i64 0,.int .i64 0,.int .i64 0,.int .i64 0]) (t:=80) ?hr ?_;(case hd => rfl);(case hg => rfl);(case hr => first|(go_simp;done)|(go_simp;rfl));intro gb276 hg w17 hbox hb;have BK276:=am (hbox);have GW276:=am ((by rw [hg];exact (sz (by repeat (first|(with_reducible first|exact HB.out|apply sa|apply sn|apply sd)|exact HB.out))) : w.heap.size ≤ gb276));have GE276:=am ((by rw [hg];exact (sz (by repeat (first|(with_reducible first|exact HB.out|apply sa|apply sn|apply sd)|exact HB.out))) : w.heap.size ≤ gb276));replace HB:=am (ss (by repeat (first|(with_reducible first|exact HB.out|apply sa|apply sn|apply sd)|exact HB.out)) hb);clear hb hbox hg;obtain ⟨hcz18_0,hcz18_1,hcz18_2,hcz18_3,hcz18_4⟩:=cq5 BK276.out;obtain ⟨hfz18_0,hfz18_1,hfz18_2,hfz18_3,hfz18_4⟩:=fq5 BK276.out)|(go_at_call 24;(with_reducible refine (field_RightRGBA.calls k1 ((rd_T80 l0 x8_1).f1.f0) ((rd_T80 l0 x8_1).f1.f1) ((rd_T80 l0 x8_1).f1.f2) ((rd_T80 l0 x8_1).f1.f3) false _ A11.out).mono ?_);rintro e w19 ⟨rfl,hb⟩;replace BK276:=am (bw (g:=gb276) (o:=.cells #[.int .i64 ((rd_T80 l0 x8_1).f0),.int .i64 ((rd_T80 l0 x8_1).f1.f0),.int .i64 ((rd_T80 l0 x8_1).f1.f1),.int .i64 ((rd_T80 l0 x8_1).f1.f2),.int .i64 ((rd_T80 l0 x8_1).f1.f3)] 80 (0,0)) (bp (bp (bp (bp (bp BK276.out 0 _ rfl) 1 _ rfl) 2 _ rfl) 3 _ rfl) 4 _ rfl) hb);replace HB:=am (ss (by repeat (first|(with_reducible first|exact HB.out|apply sa|apply sn|apply sd|refine sx ?_ GE276.out)|exact HB.out)) hb);(try clear hb);(try clear hb2);(try clear hk);(try clear hi)))
                  go_ret
                  exact ⟨by first|rfl|(simp [errW_none,errW_some] <;> rfl)|(simp [*,errW_none,errW_some] <;> rfl),by repeat (first|(with_reducible first|exact HB.out|apply sa|apply sn|apply sd|refine sx ?_ GE276.out)|exact HB.out)⟩
          · rw [if_neg c4] at H
            exact absurd H (by simp)
        · rw [if_neg c3] at H
          exact absurd H (by simp)
      · rw [if_neg c2] at H
        have c2b0 : decide (x8_1 < (l0.length : Int)) = false:=decide_eq_false c2;clear c2;obtain rfl:=Option.some.inj H
        go_wp2
        go_ret
        exact ⟨by first|rfl|(simp [errW_none,errW_some] <;> rfl)|(simp [*,errW_none,errW_some] <;> rfl),by repeat (first|(with_reducible first|exact HB.out|apply sa|apply sn|apply sd)|exact HB.out)⟩

/-! ### ramp_mix: function 75 -/
def ramp_mix.f (k : Nat) (a0 : Int) (a1 : Int) (a2 : Int) (a3 : Int) : Option (Int):=(fix_Floor.f k (wrap64 ((wrap64 (a1 - a0)) * a2)) a3).bind fun bt278 => (some (wrap64 (a0 + bt278.1)))
theorem ramp_mix.mono : ∀ a0 a1 a2 a3 k,LeO (ramp_mix.f k a0 a1 a2 a3) (ramp_mix.f (k + 1) a0 a1 a2 a3):=by
  intro a0 a1 a2 a3 k
  unfold ramp_mix.f
  repeat' first
      | (with_reducible exact fix_Floor.mono _ _ _)
      | (with_reducible exact LeO.refl _)
      | (with_reducible exact LeO.none _)
      | (with_reducible refine LeO.ite ?_ ?_)
      | (with_reducible refine LeO.bind ?_ (fun _ => ?_))
      | exact fix_Floor.mono _ _ _
      | exact LeO.none _
      | refine LeO.ite ?_ ?_
      | refine LeO.bind ?_ (fun _ => ?_)
set_option maxHeartbeats 8000000 in
set_option maxRecDepth 100000 in
theorem ramp_mix.calls (k : Nat) (a0 : Int) (a1 : Int) (a2 : Int) (a3 : Int) (r : Int) (w : World) (h : ramp_mix.f k a0 a1 a2 a3 = some r) :
    Calls Try.prog 75 #[.int .i64 a0,.int .i64 a1,.int .i64 a2,.int .i64 a3] w fun e w' => e = .returned (.int .i64 r) ∧ Below w.heap.size w w':=by
  have HB:=am (Below.refl w.heap.size w);have H : ((fix_Floor.f k (wrap64 ((wrap64 (a1 - a0)) * a2)) a3).bind fun bt278 => (some (wrap64 (a0 + bt278.1)))) = some r:=h;clear h;replace H:=Option.bind_eq_some_iff.mp H;obtain ⟨⟨t278,t279⟩,A50,H⟩:=H;replace H : (some (wrap64 (a0 + t278))) = some r:=H;have A5:=am A50;clear A50;obtain rfl:=Option.some.inj H
  go_enter Try.func75,Try.ntmps75
  go_wp2_with (first|((with_reducible refine gate_callee (f:=53) rfl ?_);refine goesL_ (some 18) rfl rfl Try.func53 (by kernel_rfl) rfl #[.int .i64 (wrap64 ((wrap64 (a1 - a0)) * a2)),.int .i64 a3] rfl (by (try simp only [List.map_toArray,List.map_cons,List.map_nil]);first|done|rfl|(simp only [List.length_drop,List.length_take];rfl)) ?_;(with_reducible refine (fix_Floor.calls k (wrap64 ((wrap64 (a1 - a0)) * a2)) a3 t278 t279 _ A5.out).mono ?_);rintro e w6 ⟨rfl,hb⟩;refine ⟨_,rfl,?_⟩;replace HB:=am (ss (by repeat (first|(with_reducible first|exact HB.out|apply sa|apply sn|apply sd)|exact HB.out)) hb);(try clear hb);(try clear hb2);(try clear hk);(try clear hi)))
  go_ret
  exact ⟨by first|rfl|(simp [errW_none,errW_some] <;> rfl)|(simp [*,errW_none,errW_some] <;> rfl),by repeat (first|(with_reducible first|exact HB.out|apply sa|apply sn|apply sd)|exact HB.out)⟩
end Go.Proofs.Ytmdfcinjmlagcaa.P
