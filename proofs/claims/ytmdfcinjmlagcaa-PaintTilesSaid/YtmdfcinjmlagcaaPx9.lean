/- Printed by printx.py (wip/tool) out of the translation: plain functions that tell what the program answers,and the proofs that the program comes to these answers,for all arguments of their kinds. Lean checks it. -/
import Derived.Test.YtmdfcinjmlagcaaShort
import Derived.Test.YtmdfcinjmlagcaaPx0
import Derived.Test.YtmdfcinjmlagcaaPx1
import Derived.Test.YtmdfcinjmlagcaaPx2
import Derived.Test.YtmdfcinjmlagcaaPx3
import Derived.Test.YtmdfcinjmlagcaaPx4
import Derived.Test.YtmdfcinjmlagcaaPx8
namespace Go.Proofs.Ytmdfcinjmlagcaa.P
open Go.RowKit Go.Proofs.YtmdfcinjmlagcaaW.PrintWords Go.Proofs.YtmdfcinjmlagcaaW.PrintLast Go.Proofs.YtmdfcinjmlagcaaW.PrintMore
attribute [local go_sem] max2_int min2_int max_two min_two max_three min_three max_four min_four max_five min_five max_six min_six   -- for this text's walks alone
set_option linter.unusedVariables false
set_option linter.unusedSimpArgs false

attribute [local go_sem high] eqA23 eqA28 eqA80
/-! ### pixel_Right: function 22 -/
def pixel_Right.f (k : Nat) (a0_0 : Int) (a0_1 : Int) (a0_2 : Int) (l0_3 : List (S23)) : Option (Bool):=if a0_0 ≥ 0 then (if a0_0 < 65536 then (if a0_1 ≥ 1 then (if a0_1 ≤ 64 then (if a0_2 ≥ 1 then (if a0_2 ≤ 64 then (if (l0_3.length : Int) = (wrap64 (a0_1 * a0_2)) then ((api_RGBA_41.f k l0_3).bind fun t194 => (some (!t194))) else (some false)) else (some false)) else (some false)) else (some false)) else (some false)) else (some false)) else (some false)
theorem pixel_Right.mono : ∀ a0 a1 a2 a3 k,LeO (pixel_Right.f k a0 a1 a2 a3) (pixel_Right.f (k + 1) a0 a1 a2 a3):=by
  intro a0 a1 a2 a3 k
  unfold pixel_Right.f
  repeat' first
      | (with_reducible exact api_RGBA_41.mono _ _)
      | (with_reducible exact LeO.refl _)
      | (with_reducible exact LeO.none _)
      | (with_reducible refine LeO.ite ?_ ?_)
      | (with_reducible refine LeO.bind ?_ (fun _ => ?_))
      | exact api_RGBA_41.mono _ _
      | exact LeO.none _
      | refine LeO.ite ?_ ?_
      | refine LeO.bind ?_ (fun _ => ?_)
set_option maxHeartbeats 8000000 in
set_option maxRecDepth 100000 in
theorem pixel_Right.calls (k : Nat) (a0_0 : Int) (a0_1 : Int) (a0_2 : Int) (A0_3 : Option Addr) (c0_3 : Nat) (l0_3 : List (S23)) (r : Bool) (w : World) (hr0_3 : Kd.C k23 w A0_3 l0_3.length l0_3) (hc0_3 : l0_3.length ≤ c0_3) (h : pixel_Right.f k a0_0 a0_1 a0_2 l0_3 = some r) :
    Calls Try.prog 22 #[.agg #[.int .i64 a0_0,.int .i64 a0_1,.int .i64 a0_2,.slice A0_3 l0_3.length c0_3]] w fun e w' => e = .returned (.bool r) ∧ Below w.heap.size w w':=by
  have hu43:=Try.underlying43;have HR0_3:=am hr0_3;have HC0_3:=am hc0_3;clear hr0_3 hc0_3;have HB:=am (Below.refl w.heap.size w);have H : (if a0_0 ≥ 0 then (if a0_0 < 65536 then (if a0_1 ≥ 1 then (if a0_1 ≤ 64 then (if a0_2 ≥ 1 then (if a0_2 ≤ 64 then (if (l0_3.length : Int) = (wrap64 (a0_1 * a0_2)) then ((api_RGBA_41.f k l0_3).bind fun t194 => (some (!t194))) else (some false)) else (some false)) else (some false)) else (some false)) else (some false)) else (some false)) else (some false)) = some r:=h;clear h
  by_cases c2 : a0_0 ≥ 0
  · rw [if_pos c2] at H
    have c2b0 : decide (0 ≤ a0_0) = true:=decide_eq_true c2;clear c2
    by_cases c3 : a0_0 < 65536
    · rw [if_pos c3] at H
      have c3b0 : decide (a0_0 < 65536) = true:=decide_eq_true c3;clear c3
      by_cases c4 : a0_1 ≥ 1
      · rw [if_pos c4] at H
        have c4b0 : decide (1 ≤ a0_1) = true:=decide_eq_true c4;clear c4
        by_cases c5 : a0_1 ≤ 64
        · rw [if_pos c5] at H
          have c5b0 : decide (a0_1 ≤ 64) = true:=decide_eq_true c5;clear c5
          by_cases c6 : a0_2 ≥ 1
          · rw [if_pos c6] at H
            have c6b0 : decide (1 ≤ a0_2) = true:=decide_eq_true c6;clear c6
            by_cases c7 : a0_2 ≤ 64
            · rw [if_pos c7] at H
              have c7b0 : decide (a0_2 ≤ 64) = true:=decide_eq_true c7;clear c7
              by_cases c8 : (l0_3.length : Int) = (wrap64 (a0_1 * a0_2))
              · rw [if_pos c8] at H
                have c8b0 : ((l0_3.length : Int) == (wrap64 (a0_1 * a0_2))) = true:=beq_iff_eq.mpr c8;have c8b1 : ((l0_3.length : Int) != (wrap64 (a0_1 * a0_2))) = false:=bne_eq_false_iff_eq.mpr c8;clear c8;replace H:=Option.bind_eq_some_iff.mp H;obtain ⟨t194,A90,H⟩:=H;replace H : (some (!t194)) = some r:=H;have A9:=am A90;clear A90;obtain rfl:=Option.some.inj H
                go_enter Try.func22,Try.ntmps22
                go_wp2_with (first|((with_reducible refine gate_dst (N:=1) rfl ?_);(try (refine gate_guard (by rfl) ?_;dsimp only));refine box_event ?hg (N:=1) ?hd (cs:=#[.int .i64 a0_0,.int .i64 a0_1,.int .i64 a0_2,.slice A0_3 l0_3.length c0_3]) (t:=43) ?hr ?_;(case hd => rfl);(case hg => rfl);(case hr => first|(go_simp;done)|(go_simp;rfl));intro gb193 hg w10 hbox hb;have BK193:=am (hbox);have GW193:=am ((by rw [hg];exact (sz (by repeat (first|(with_reducible first|exact HB.out|apply sa|apply sn|apply sd)|exact HB.out))) : w.heap.size ≤ gb193));have GE193:=am ((by rw [hg];exact (sz (by repeat (first|(with_reducible first|exact HB.out|apply sa|apply sn|apply sd)|exact HB.out))) : w.heap.size ≤ gb193));replace HB:=am (ss (by repeat (first|(with_reducible first|exact HB.out|apply sa|apply sn|apply sd)|exact HB.out)) hb);clear hb hbox hg;obtain ⟨hcz11_0,hcz11_1,hcz11_2,hcz11_3⟩:=cq4 BK193.out;obtain ⟨hfz11_0,hfz11_1,hfz11_2,hfz11_3⟩:=fq4 BK193.out)|(go_at_call 41;(with_reducible refine (api_RGBA_41.calls k _ _ l0_3  t194 _ ?side1 ?side2 A9.out).mono ?_);(case side1 => repeat (first|exact (Kd.C_below HR0_3.out HB.out)|(with_reducible refine Kd.C_alloc ?_ _)|(with_reducible refine Kd.C_drewN ?_ _)|(with_reducible refine Kd.C_drew ?_)));(case side2 => exact HC0_3.out);rintro e w12 ⟨rfl,hb⟩;replace BK193:=am (bw (by exact BK193.out) hb);replace HB:=am (ss (by repeat (first|(with_reducible first|exact HB.out|apply sa|apply sn|apply sd|refine sx ?_ GE193.out)|exact HB.out)) hb);(try clear hb);(try clear hb2);(try clear hk);(try clear hi)))
                go_ret
                exact ⟨by first|rfl|(simp [errW_none,errW_some] <;> rfl)|(simp [*,errW_none,errW_some] <;> rfl),by repeat (first|(with_reducible first|exact HB.out|apply sa|apply sn|apply sd|refine sx ?_ GE193.out)|exact HB.out)⟩
              · rw [if_neg c8] at H
                have c8b0 : ((l0_3.length : Int) == (wrap64 (a0_1 * a0_2))) = false:=beq_eq_false_iff_ne.mpr c8;have c8b1 : ((l0_3.length : Int) != (wrap64 (a0_1 * a0_2))) = true:=bne_iff_ne.mpr c8;obtain rfl:=Option.some.inj H
                go_enter Try.func22,Try.ntmps22
                go_wp2_with (first|((with_reducible refine gate_dst (N:=1) rfl ?_);(try (refine gate_guard (by rfl) ?_;dsimp only));refine box_event ?hg (N:=1) ?hd (cs:=#[.int .i64 a0_0,.int .i64 a0_1,.int .i64 a0_2,.slice A0_3 l0_3.length c0_3]) (t:=43) ?hr ?_;(case hd => rfl);(case hg => rfl);(case hr => first|(go_simp;done)|(go_simp;rfl));intro gb193 hg w13 hbox hb;have BK193:=am (hbox);have GW193:=am ((by rw [hg];exact (sz (by repeat (first|(with_reducible first|exact HB.out|apply sa|apply sn|apply sd)|exact HB.out))) : w.heap.size ≤ gb193));have GE193:=am ((by rw [hg];exact (sz (by repeat (first|(with_reducible first|exact HB.out|apply sa|apply sn|apply sd)|exact HB.out))) : w.heap.size ≤ gb193));replace HB:=am (ss (by repeat (first|(with_reducible first|exact HB.out|apply sa|apply sn|apply sd)|exact HB.out)) hb);clear hb hbox hg;obtain ⟨hcz14_0,hcz14_1,hcz14_2,hcz14_3⟩:=cq4 BK193.out;obtain ⟨hfz14_0,hfz14_1,hfz14_2,hfz14_3⟩:=fq4 BK193.out))
                go_ret
                exact ⟨by first|rfl|(simp [errW_none,errW_some] <;> rfl)|(simp [*,errW_none,errW_some] <;> rfl),by repeat (first|(with_reducible first|exact HB.out|apply sa|apply sn|apply sd|refine sx ?_ GE193.out)|exact HB.out)⟩
            · rw [if_neg c7] at H
              have c7b0 : decide (a0_2 ≤ 64) = false:=decide_eq_false c7;clear c7;obtain rfl:=Option.some.inj H
              go_enter Try.func22,Try.ntmps22
              go_wp2_with (first|((with_reducible refine gate_dst (N:=1) rfl ?_);(try (refine gate_guard (by rfl) ?_;dsimp only));refine box_event ?hg (N:=1) ?hd (cs:=#[.int .i64 a0_0,.int .i64 a0_1,.int .i64 a0_2,.slice A0_3 l0_3.length c0_3]) (t:=43) ?hr ?_;(case hd => rfl);(case hg => rfl);(case hr => first|(go_simp;done)|(go_simp;rfl));intro gb193 hg w15 hbox hb;have BK193:=am (hbox);have GW193:=am ((by rw [hg];exact (sz (by repeat (first|(with_reducible first|exact HB.out|apply sa|apply sn|apply sd)|exact HB.out))) : w.heap.size ≤ gb193));have GE193:=am ((by rw [hg];exact (sz (by repeat (first|(with_reducible first|exact HB.out|apply sa|apply sn|apply sd)|exact HB.out))) : w.heap.size ≤ gb193));replace HB:=am (ss (by repeat (first|(with_reducible first|exact HB.out|apply sa|apply sn|apply sd)|exact HB.out)) hb);clear hb hbox hg;obtain ⟨hcz16_0,hcz16_1,hcz16_2,hcz16_3⟩:=cq4 BK193.out;obtain ⟨hfz16_0,hfz16_1,hfz16_2,hfz16_3⟩:=fq4 BK193.out))
              go_ret
              exact ⟨by first|rfl|(simp [errW_none,errW_some] <;> rfl)|(simp [*,errW_none,errW_some] <;> rfl),by repeat (first|(with_reducible first|exact HB.out|apply sa|apply sn|apply sd|refine sx ?_ GE193.out)|exact HB.out)⟩
          · rw [if_neg c6] at H
            have c6b0 : decide (1 ≤ a0_2) = false:=decide_eq_false c6;clear c6;obtain rfl:=Option.some.inj H
            go_enter Try.func22,Try.ntmps22
            go_wp2_with (first|((with_reducible refine gate_dst (N:=1) rfl ?_);(try (refine gate_guard (by rfl) ?_;dsimp only));refine box_event ?hg (N:=1) ?hd (cs:=#[.int .i64 a0_0,.int .i64 a0_1,.int .i64 a0_2,.slice A0_3 l0_3.length c0_3]) (t:=43) ?hr ?_;(case hd => rfl);(case hg => rfl);(case hr => first|(go_simp;done)|(go_simp;rfl));intro gb193 hg w17 hbox hb;have BK193:=am (hbox);have GW193:=am ((by rw [hg];exact (sz (by repeat (first|(with_reducible first|exact HB.out|apply sa|apply sn|apply sd)|exact HB.out))) : w.heap.size ≤ gb193));have GE193:=am ((by rw [hg];exact (sz (by repeat (first|(with_reducible first|exact HB.out|apply sa|apply sn|apply sd)|exact HB.out))) : w.heap.size ≤ gb193));replace HB:=am (ss (by repeat (first|(with_reducible first|exact HB.out|apply sa|apply sn|apply sd)|exact HB.out)) hb);clear hb hbox hg;obtain ⟨hcz18_0,hcz18_1,hcz18_2,hcz18_3⟩:=cq4 BK193.out;obtain ⟨hfz18_0,hfz18_1,hfz18_2,hfz18_3⟩:=fq4 BK193.out))
            go_ret
            exact ⟨by first|rfl|(simp [errW_none,errW_some] <;> rfl)|(simp [*,errW_none,errW_some] <;> rfl),by repeat (first|(with_reducible first|exact HB.out|apply sa|apply sn|apply sd|refine sx ?_ GE193.out)|exact HB.out)⟩
        · rw [if_neg c5] at H
          have c5b0 : decide (a0_1 ≤ 64) = false:=decide_eq_false c5;clear c5;obtain rfl:=Option.some.inj H
          go_enter Try.func22,Try.ntmps22
          go_wp2_with (first|((with_reducible refine gate_dst (N:=1) rfl ?_);(try (refine gate_guard (by rfl) ?_;dsimp only));refine box_event ?hg (N:=1) ?hd (cs:=#[.int .i64 a0_0,.int .i64 a0_1,.int .i64 a0_2,.slice A0_3 l0_3.length c0_3]) (t:=43) ?hr ?_;(case hd => rfl);(case hg => rfl);(case hr => first|(go_simp;done)|(go_simp;rfl));intro gb193 hg w19 hbox hb;have BK193:=am (hbox);have GW193:=am ((by rw [hg];exact (sz (by repeat (first|(with_reducible first|exact HB.out|apply sa|apply sn|apply sd)|exact HB.out))) : w.heap.size ≤ gb193));have GE193:=am ((by rw [hg];exact (sz (by repeat (first|(with_reducible first|exact HB.out|apply sa|apply sn|apply sd)|exact HB.out))) : w.heap.size ≤ gb193));replace HB:=am (ss (by repeat (first|(with_reducible first|exact HB.out|apply sa|apply sn|apply sd)|exact HB.out)) hb);clear hb hbox hg;obtain ⟨hcz20_0,hcz20_1,hcz20_2,hcz20_3⟩:=cq4 BK193.out;obtain ⟨hfz20_0,hfz20_1,hfz20_2,hfz20_3⟩:=fq4 BK193.out))
          go_ret
          exact ⟨by first|rfl|(simp [errW_none,errW_some] <;> rfl)|(simp [*,errW_none,errW_some] <;> rfl),by repeat (first|(with_reducible first|exact HB.out|apply sa|apply sn|apply sd|refine sx ?_ GE193.out)|exact HB.out)⟩
      · rw [if_neg c4] at H
        have c4b0 : decide (1 ≤ a0_1) = false:=decide_eq_false c4;clear c4;obtain rfl:=Option.some.inj H
        go_enter Try.func22,Try.ntmps22
        go_wp2_with (first|((with_reducible refine gate_dst (N:=1) rfl ?_);(try (refine gate_guard (by rfl) ?_;dsimp only));refine box_event ?hg (N:=1) ?hd (cs:=#[.int .i64 a0_0,.int .i64 a0_1,.int .i64 a0_2,.slice A0_3 l0_3.length c0_3]) (t:=43) ?hr ?_;(case hd => rfl);(case hg => rfl);(case hr => first|(go_simp;done)|(go_simp;rfl));intro gb193 hg w21 hbox hb;have BK193:=am (hbox);have GW193:=am ((by rw [hg];exact (sz (by repeat (first|(with_reducible first|exact HB.out|apply sa|apply sn|apply sd)|exact HB.out))) : w.heap.size ≤ gb193));have GE193:=am ((by rw [hg];exact (sz (by repeat (first|(with_reducible first|exact HB.out|apply sa|apply sn|apply sd)|exact HB.out))) : w.heap.size ≤ gb193));replace HB:=am (ss (by repeat (first|(with_reducible first|exact HB.out|apply sa|apply sn|apply sd)|exact HB.out)) hb);clear hb hbox hg;obtain ⟨hcz22_0,hcz22_1,hcz22_2,hcz22_3⟩:=cq4 BK193.out;obtain ⟨hfz22_0,hfz22_1,hfz22_2,hfz22_3⟩:=fq4 BK193.out))
        go_ret
        exact ⟨by first|rfl|(simp [errW_none,errW_some] <;> rfl)|(simp [*,errW_none,errW_some] <;> rfl),by repeat (first|(with_reducible first|exact HB.out|apply sa|apply sn|apply sd|refine sx ?_ GE193.out)|exact HB.out)⟩
    · rw [if_neg c3] at H
      have c3b0 : decide (a0_0 < 65536) = false:=decide_eq_false c3;clear c3;obtain rfl:=Option.some.inj H
      go_enter Try.func22,Try.ntmps22
      go_wp2_with (first|((with_reducible refine gate_dst (N:=1) rfl ?_);(try (refine gate_guard (by rfl) ?_;dsimp only));refine box_event ?hg (N:=1) ?hd (cs:=#[.int .i64 a0_0,.int .i64 a0_1,.int .i64 a0_2,.slice A0_3 l0_3.length c0_3]) (t:=43) ?hr ?_;(case hd => rfl);(case hg => rfl);(case hr => first|(go_simp;done)|(go_simp;rfl));intro gb193 hg w23 hbox hb;have BK193:=am (hbox);have GW193:=am ((by rw [hg];exact (sz (by repeat (first|(with_reducible first|exact HB.out|apply sa|apply sn|apply sd)|exact HB.out))) : w.heap.size ≤ gb193));have GE193:=am ((by rw [hg];exact (sz (by repeat (first|(with_reducible first|exact HB.out|apply sa|apply sn|apply sd)|exact HB.out))) : w.heap.size ≤ gb193));replace HB:=am (ss (by repeat (first|(with_reducible first|exact HB.out|apply sa|apply sn|apply sd)|exact HB.out)) hb);clear hb hbox hg;obtain ⟨hcz24_0,hcz24_1,hcz24_2,hcz24_3⟩:=cq4 BK193.out;obtain ⟨hfz24_0,hfz24_1,hfz24_2,hfz24_3⟩:=fq4 BK193.out))
      go_ret
      exact ⟨by first|rfl|(simp [errW_none,errW_some] <;> rfl)|(simp [*,errW_none,errW_some] <;> rfl),by repeat (first|(with_reducible first|exact HB.out|apply sa|apply sn|apply sd|refine sx ?_ GE193.out)|exact HB.out)⟩
  · rw [if_neg c2] at H
    have c2b0 : decide (0 ≤ a0_0) = false:=decide_eq_false c2;clear c2;obtain rfl:=Option.some.inj H
    go_enter Try.func22,Try.ntmps22
    go_wp2_with (first|((with_reducible refine gate_dst (N:=1) rfl ?_);(try (refine gate_guard (by rfl) ?_;dsimp only));refine box_event ?hg (N:=1) ?hd (cs:=#[.int .i64 a0_0,.int .i64 a0_1,.int .i64 a0_2,.slice A0_3 l0_3.length c0_3]) (t:=43) ?hr ?_;(case hd => rfl);(case hg => rfl);(case hr => first|(go_simp;done)|(go_simp;rfl));intro gb193 hg w25 hbox hb;have BK193:=am (hbox);have GW193:=am ((by rw [hg];exact (sz (by repeat (first|(with_reducible first|exact HB.out|apply sa|apply sn|apply sd)|exact HB.out))) : w.heap.size ≤ gb193));have GE193:=am ((by rw [hg];exact (sz (by repeat (first|(with_reducible first|exact HB.out|apply sa|apply sn|apply sd)|exact HB.out))) : w.heap.size ≤ gb193));replace HB:=am (ss (by repeat (first|(with_reducible first|exact HB.out|apply sa|apply sn|apply sd)|exact HB.out)) hb);clear hb hbox hg;obtain ⟨hcz26_0,hcz26_1,hcz26_2,hcz26_3⟩:=cq4 BK193.out;obtain ⟨hfz26_0,hfz26_1,hfz26_2,hfz26_3⟩:=fq4 BK193.out))
    go_ret
    exact ⟨by first|rfl|(simp [errW_none,errW_some] <;> rfl)|(simp [*,errW_none,errW_some] <;> rfl),by repeat (first|(with_reducible first|exact HB.out|apply sa|apply sn|apply sd|refine sx ?_ GE193.out)|exact HB.out)⟩

/-! ### api_Stop: function 71 -/
def api_Stop.l0 : Nat → List (S80) → List (S80) → Int → Int → Option (Bool)
  | 0,_,_,_,_ => none
  | k + 1,x0,x1,x12,x13 => if x13 < x12 then (if 0 ≤ x13 then (if x13 < (x0.length : Int) then (if x13 < (x1.length : Int) then (if (!(((rd_T80 x0 x13).f0) == ((rd_T80 x1 x13).f0)) || ((!(((rd_T80 x0 x13).f1.f0) == ((rd_T80 x1 x13).f1.f0)) || (!(((rd_T80 x0 x13).f1.f1) == ((rd_T80 x1 x13).f1.f1)) || (!(((rd_T80 x0 x13).f1.f2) == ((rd_T80 x1 x13).f1.f2)) || (!(((rd_T80 x0 x13).f1.f3) == ((rd_T80 x1 x13).f1.f3)))))))) = true then (some false) else (api_Stop.l0 k x0 x1 x12 (wrap64 (x13 + 1)))) else (none)) else (none)) else (none)) else (some true)
def api_Stop.f (k : Nat) (l0 : List (S80)) (l1 : List (S80)) : Option (Bool):=if (l0.length : Int) = (l1.length : Int) then (api_Stop.l0 k l0 l1 (l0.length : Int) 0) else (some false)
theorem api_Stop.mono_l : ∀ k,(∀ y0 y1 y2 y3,LeO (api_Stop.l0 k y0 y1 y2 y3) (api_Stop.l0 (k + 1) y0 y1 y2 y3))
  | 0 => fun _ _ _ _ r h => by simp [api_Stop.l0] at h
  | k + 1 => by
    have ih0:=api_Stop.mono_l k
    · intro y0 y1 y2 y3
      unfold api_Stop.l0
      repeat' first
      | (with_reducible exact ih0 _ _ _ _)
      | (with_reducible exact LeO.refl _)
      | (with_reducible exact LeO.none _)
      | (with_reducible refine LeO.ite ?_ ?_)
      | (with_reducible refine LeO.bind ?_ (fun _ => ?_))
      | exact ih0 _ _ _ _
      | exact LeO.none _
      | refine LeO.ite ?_ ?_
      | refine LeO.bind ?_ (fun _ => ?_)
theorem api_Stop.mono : ∀ a0 a1 k,LeO (api_Stop.f k a0 a1) (api_Stop.f (k + 1) a0 a1):=by
  intro a0 a1 k
  have ih0:=api_Stop.mono_l k
  unfold api_Stop.f
  repeat' first
      | (with_reducible exact ih0 _ _ _ _)
      | (with_reducible exact LeO.refl _)
      | (with_reducible exact LeO.none _)
      | (with_reducible refine LeO.ite ?_ ?_)
      | (with_reducible refine LeO.bind ?_ (fun _ => ?_))
      | exact ih0 _ _ _ _
      | exact LeO.none _
      | refine LeO.ite ?_ ?_
      | refine LeO.bind ?_ (fun _ => ?_)
set_option maxHeartbeats 8000000 in
set_option maxRecDepth 100000 in
theorem api_Stop.calls (k : Nat) (A0 : Option Addr) (c0 : Nat) (l0 : List (S80)) (A1 : Option Addr) (c1 : Nat) (l1 : List (S80)) (r : Bool) (w : World) (hr0 : Kd.C k80 w A0 l0.length l0) (hc0 : l0.length ≤ c0) (hr1 : Kd.C k80 w A1 l1.length l1) (hc1 : l1.length ≤ c1) (h : api_Stop.f k l0 l1 = some r) :
    Calls Try.prog 71 #[.slice A0 l0.length c0,.slice A1 l1.length c1] w fun e w' => e = .returned (.bool r) ∧ Drawn0 w w':=by
  have hu80:=Try.underlying80;have HR0:=am hr0;have HC0:=am hc0;clear hr0 hc0;have HR1:=am hr1;have HC1:=am hc1;clear hr1 hc1;have H : (if (l0.length : Int) = (l1.length : Int) then (api_Stop.l0 k l0 l1 (l0.length : Int) 0) else (some false)) = some r:=h;clear h
  by_cases c3 : (l0.length : Int) = (l1.length : Int)
  · rw [if_pos c3] at H
    have c3b0 : ((l0.length : Int) == (l1.length : Int)) = true:=beq_iff_eq.mpr c3;have c3b1 : ((l0.length : Int) != (l1.length : Int)) = false:=bne_eq_false_iff_eq.mpr c3
    have c3b2 : (l0.length == l1.length) = true:=by first|simpa using c3|(simp at c3 ⊢;omega)
    clear c3;have H':=am H;clear H
    go_enter Try.func71,Try.ntmps71
    go_wp2
    repeat (go_quiet (fail);try go_wp2)
    go_loopg [13] k (fun kq v13 w' => ∃ (x13_1 : Int),v13 = .int .i64 x13_1 ∧ Aside0 (api_Stop.l0 kq l0 l1 (l0.length : Int) x13_1 = some r) ∧ Aside0 (kq ≤ k) ∧ Drawn0 w w')
    case atStart => exact ⟨(0),(by first|rfl|(simp;done)|(simp [*];done)),H',⟨Nat.le_refl _⟩,by repeat (first|exact Drawn0.refl _|apply Drawn0.step)⟩
    case round =>
      clear H'
      (try clear c1);(try clear p2);(try clear c3);(try clear c3b0);(try clear c3b1);(try clear c3b2)
      obtain ⟨x13_1,rfl,HA,HK1,⟨m1,rfl⟩⟩:=hrel
      cases gk with
      | zero => exact absurd HA.out (by simp [api_Stop.l0])
      | succ k1 =>
        have H:=HA.out;clear HA;simp only [api_Stop.l0] at H
        by_cases c4 : x13_1 < (l0.length : Int)
        · rw [if_pos c4] at H
          have c4b0 : decide (x13_1 < (l0.length : Int)) = true:=decide_eq_true c4;clear c4
          by_cases c5 : 0 ≤ x13_1
          · rw [if_pos c5] at H
            have c5b0 : decide (0 ≤ x13_1) = true:=decide_eq_true c5;clear c5
            by_cases c6 : x13_1 < (l0.length : Int)
            · rw [if_pos c6] at H
              have c6b0 : decide (x13_1 < (l0.length : Int)) = true:=decide_eq_true c6;clear c6
              by_cases c7 : x13_1 < (l1.length : Int)
              · rw [if_pos c7] at H
                have c7b0 : decide (x13_1 < (l1.length : Int)) = true:=decide_eq_true c7;clear c7
                by_cases c8 : (!(((rd_T80 l0 x13_1).f0) == ((rd_T80 l1 x13_1).f0)) || ((!(((rd_T80 l0 x13_1).f1.f0) == ((rd_T80 l1 x13_1).f1.f0)) || (!(((rd_T80 l0 x13_1).f1.f1) == ((rd_T80 l1 x13_1).f1.f1)) || (!(((rd_T80 l0 x13_1).f1.f2) == ((rd_T80 l1 x13_1).f1.f2)) || (!(((rd_T80 l0 x13_1).f1.f3) == ((rd_T80 l1 x13_1).f1.f3)))))))) = true
                · rw [if_pos c8] at H
                  have c8b0 : (!(((rd_T80 l0 x13_1).f0) == ((rd_T80 l1 x13_1).f0)) || ((!(((rd_T80 l0 x13_1).f1.f0) == ((rd_T80 l1 x13_1).f1.f0)) || (!(((rd_T80 l0 x13_1).f1.f1) == ((rd_T80 l1 x13_1).f1.f1)) || (!(((rd_T80 l0 x13_1).f1.f2) == ((rd_T80 l1 x13_1).f1.f2)) || (!(((rd_T80 l0 x13_1).f1.f3) == ((rd_T80 l1 x13_1).f1.f3)))))))) = true:=c8;clear c8;obtain rfl:=Option.some.inj H;have p195 : 0 ≤ (x13_1 : Int):=of_decide_eq_true (by first|(with_reducible assumption)|assumption);have q195 : x13_1 < (l0.length : Int):=of_decide_eq_true (by first|(with_reducible assumption)|assumption);obtain ⟨ad195,e195,hx195_0,hx195_1,hx195_2,hx195_3,hx195_4⟩:=at_T80 HR0.out x13_1 p195 q195
                  cases e195
                  replace p195:=eq_true p195;replace q195:=eq_true q195;have p196 : 0 ≤ (x13_1 : Int):=of_decide_eq_true (by first|(with_reducible assumption)|assumption);have q196 : x13_1 < (l1.length : Int):=of_decide_eq_true (by first|(with_reducible assumption)|assumption);obtain ⟨ad196,e196,hx196_0,hx196_1,hx196_2,hx196_3,hx196_4⟩:=at_T80 HR1.out x13_1 p196 q196
                  cases e196
                  replace p196:=eq_true p196;replace q196:=eq_true q196
                  go_wp2
                  repeat (go_quiet (fail);try go_wp2)
                  go_ret
                  exact ⟨by first|rfl|(simp;done)|(simp [*];done),by repeat (first|exact Drawn0.refl _|apply Drawn0.step)⟩
                · rw [if_neg c8] at H
                  have c8b0 : (!(((rd_T80 l0 x13_1).f0) == ((rd_T80 l1 x13_1).f0)) || ((!(((rd_T80 l0 x13_1).f1.f0) == ((rd_T80 l1 x13_1).f1.f0)) || (!(((rd_T80 l0 x13_1).f1.f1) == ((rd_T80 l1 x13_1).f1.f1)) || (!(((rd_T80 l0 x13_1).f1.f2) == ((rd_T80 l1 x13_1).f1.f2)) || (!(((rd_T80 l0 x13_1).f1.f3) == ((rd_T80 l1 x13_1).f1.f3)))))))) = false:=by simpa using c8
                  clear c8;have H':=am H;clear H;have p195 : 0 ≤ (x13_1 : Int):=of_decide_eq_true (by first|(with_reducible assumption)|assumption);have q195 : x13_1 < (l0.length : Int):=of_decide_eq_true (by first|(with_reducible assumption)|assumption);obtain ⟨ad195,e195,hx195_0,hx195_1,hx195_2,hx195_3,hx195_4⟩:=at_T80 HR0.out x13_1 p195 q195
                  cases e195
                  replace p195:=eq_true p195;replace q195:=eq_true q195;have p196 : 0 ≤ (x13_1 : Int):=of_decide_eq_true (by first|(with_reducible assumption)|assumption);have q196 : x13_1 < (l1.length : Int):=of_decide_eq_true (by first|(with_reducible assumption)|assumption);obtain ⟨ad196,e196,hx196_0,hx196_1,hx196_2,hx196_3,hx196_4⟩:=at_T80 HR1.out x13_1 p196 q196
                  cases e196
                  replace p196:=eq_true p196;replace q196:=eq_true q196
                  go_wp2
                  repeat (go_quiet (fail);try go_wp2)
                  go_roundg k1
                  case measure => have:=HK1.out;omega
                  case rel => exact ⟨(wrap64 (x13_1 + 1)),(by first|rfl|(simp;done)|(simp [*];done)),H',⟨by have:=HK1.out;omega⟩,by repeat (first|exact Drawn0.refl _|apply Drawn0.step)⟩
              · rw [if_neg c7] at H
                exact absurd H (by simp)
            · rw [if_neg c6] at H
              exact absurd H (by simp)
          · rw [if_neg c5] at H
            exact absurd H (by simp)
        · rw [if_neg c4] at H
          have c4b0 : decide (x13_1 < (l0.length : Int)) = false:=decide_eq_false c4;clear c4;obtain rfl:=Option.some.inj H
          go_wp2
          repeat (go_quiet (fail);try go_wp2)
          go_ret
          exact ⟨by first|rfl|(simp;done)|(simp [*];done),by repeat (first|exact Drawn0.refl _|apply Drawn0.step)⟩
  · rw [if_neg c3] at H
    have c3b0 : ((l0.length : Int) == (l1.length : Int)) = false:=beq_eq_false_iff_ne.mpr c3;have c3b1 : ((l0.length : Int) != (l1.length : Int)) = true:=bne_iff_ne.mpr c3
    have c3b2 : (l0.length == l1.length) = false:=by first|simpa using c3|(simp at c3 ⊢;omega)
    obtain rfl:=Option.some.inj H
    go_enter Try.func71,Try.ntmps71
    go_wp2
    repeat (go_quiet (fail);try go_wp2)
    go_ret
    exact ⟨by first|rfl|(simp;done)|(simp [*];done),by repeat (first|exact Drawn0.refl _|apply Drawn0.step)⟩

/-! ### style_SameFill: function 45 -/
def style_SameFill.f (k : Nat) (a0_0 : Int) (a0_1 : Int) (a0_2 : Int) (a0_3 : Int) (a0_4 : Int) (a0_5 : Int) (a0_6 : Int) (a0_7 : Int) (a0_8 : Int) (a0_9 : Int) (a0_10 : Int) (a0_11 : Int) (l0_12 : List (S80)) (a0_13 : Int) (a1_0 : Int) (a1_1 : Int) (a1_2 : Int) (a1_3 : Int) (a1_4 : Int) (a1_5 : Int) (a1_6 : Int) (a1_7 : Int) (a1_8 : Int) (a1_9 : Int) (a1_10 : Int) (a1_11 : Int) (l1_12 : List (S80)) (a1_13 : Int) : Option (Bool):=if a0_0 = a1_0 then (if (a0_1 == a1_1 && (a0_2 == a1_2 && (a0_3 == a1_3 && (a0_4 == a1_4)))) = true then (if (a0_5 == a1_5 && (a0_6 == a1_6 && (a0_7 == a1_7 && (a0_8 == a1_8 && (a0_9 == a1_9 && (a0_10 == a1_10)))))) = true then (if a0_11 = a1_11 then (if a0_13 = a1_13 then ((api_Stop.f k l0_12 l1_12).bind fun t199 => (some t199)) else (some false)) else (some false)) else (some false)) else (some false)) else (some false)
theorem style_SameFill.mono : ∀ a0 a1 a2 a3 a4 a5 a6 a7 a8 a9 a10 a11 a12 a13 a14 a15 a16 a17 a18 a19 a20 a21 a22 a23 a24 a25 a26 a27 k,LeO (style_SameFill.f k a0 a1 a2 a3 a4 a5 a6 a7 a8 a9 a10 a11 a12 a13 a14 a15 a16 a17 a18 a19 a20 a21 a22 a23 a24 a25 a26 a27) (style_SameFill.f (k + 1) a0 a1 a2 a3 a4 a5 a6 a7 a8 a9 a10 a11 a12 a13 a14 a15 a16 a17 a18 a19 a20 a21 a22 a23 a24 a25 a26 a27):=by
  intro a0 a1 a2 a3 a4 a5 a6 a7 a8 a9 a10 a11 a12 a13 a14 a15 a16 a17 a18 a19 a20 a21 a22 a23 a24 a25 a26 a27 k
  unfold style_SameFill.f
  repeat' first
      | (with_reducible exact api_Stop.mono _ _ _)
      | (with_reducible exact LeO.refl _)
      | (with_reducible exact LeO.none _)
      | (with_reducible refine LeO.ite ?_ ?_)
      | (with_reducible refine LeO.bind ?_ (fun _ => ?_))
      | exact api_Stop.mono _ _ _
      | exact LeO.none _
      | refine LeO.ite ?_ ?_
      | refine LeO.bind ?_ (fun _ => ?_)
set_option maxHeartbeats 8000000 in
set_option maxRecDepth 100000 in
theorem style_SameFill.calls (k : Nat) (a0_0 : Int) (a0_1 : Int) (a0_2 : Int) (a0_3 : Int) (a0_4 : Int) (a0_5 : Int) (a0_6 : Int) (a0_7 : Int) (a0_8 : Int) (a0_9 : Int) (a0_10 : Int) (a0_11 : Int) (A0_12 : Option Addr) (c0_12 : Nat) (l0_12 : List (S80)) (a0_13 : Int) (a1_0 : Int) (a1_1 : Int) (a1_2 : Int) (a1_3 : Int) (a1_4 : Int) (a1_5 : Int) (a1_6 : Int) (a1_7 : Int) (a1_8 : Int) (a1_9 : Int) (a1_10 : Int) (a1_11 : Int) (A1_12 : Option Addr) (c1_12 : Nat) (l1_12 : List (S80)) (a1_13 : Int) (r : Bool) (w : World) (hr0_12 : Kd.C k80 w A0_12 l0_12.length l0_12) (hc0_12 : l0_12.length ≤ c0_12) (hr1_12 : Kd.C k80 w A1_12 l1_12.length l1_12) (hc1_12 : l1_12.length ≤ c1_12) (h : style_SameFill.f k a0_0 a0_1 a0_2 a0_3 a0_4 a0_5 a0_6 a0_7 a0_8 a0_9 a0_10 a0_11 l0_12 a0_13 a1_0 a1_1 a1_2 a1_3 a1_4 a1_5 a1_6 a1_7 a1_8 a1_9 a1_10 a1_11 l1_12 a1_13 = some r) :
    Calls Try.prog 45 #[.agg #[.int .i64 a0_0,.int .i64 a0_1,.int .i64 a0_2,.int .i64 a0_3,.int .i64 a0_4,.int .i64 a0_5,.int .i64 a0_6,.int .i64 a0_7,.int .i64 a0_8,.int .i64 a0_9,.int .i64 a0_10,.int .i64 a0_11,.slice A0_12 l0_12.length c0_12,.int .i64 a0_13],.agg #[.int .i64 a1_0,.int .i64 a1_1,.int .i64 a1_2,.int .i64 a1_3,.int .i64 a1_4,.int .i64 a1_5,.int .i64 a1_6,.int .i64 a1_7,.int .i64 a1_8,.int .i64 a1_9,.int .i64 a1_10,.int .i64 a1_11,.slice A1_12 l1_12.length c1_12,.int .i64 a1_13]] w fun e w' => e = .returned (.bool r) ∧ Below w.heap.size w w':=by
  have hu31:=Try.underlying31;have hu23:=Try.underlying23;have hu28:=Try.underlying28;have HR0_12:=am hr0_12;have HC0_12:=am hc0_12;clear hr0_12 hc0_12;have HR1_12:=am hr1_12;have HC1_12:=am hc1_12;clear hr1_12 hc1_12;have HB:=am (Below.refl w.heap.size w);have H : (if a0_0 = a1_0 then (if (a0_1 == a1_1 && (a0_2 == a1_2 && (a0_3 == a1_3 && (a0_4 == a1_4)))) = true then (if (a0_5 == a1_5 && (a0_6 == a1_6 && (a0_7 == a1_7 && (a0_8 == a1_8 && (a0_9 == a1_9 && (a0_10 == a1_10)))))) = true then (if a0_11 = a1_11 then (if a0_13 = a1_13 then ((api_Stop.f k l0_12 l1_12).bind fun t199 => (some t199)) else (some false)) else (some false)) else (some false)) else (some false)) else (some false)) = some r:=h;clear h
  by_cases c3 : a0_0 = a1_0
  focus
    rw [if_pos c3] at H;have c3b0 : (a0_0 == a1_0) = true:=beq_iff_eq.mpr c3;have c3b1 : (a0_0 != a1_0) = false:=bne_eq_false_iff_eq.mpr c3;clear c3
    by_cases c4 : (a0_1 == a1_1 && (a0_2 == a1_2 && (a0_3 == a1_3 && (a0_4 == a1_4)))) = true
    focus
      rw [if_pos c4] at H;have c4b0 : (a0_1 == a1_1 && (a0_2 == a1_2 && (a0_3 == a1_3 && (a0_4 == a1_4)))) = true:=c4
      (try (have c4b1 : decide (a0_1 = a1_1 && (a0_2 == a1_2 && (a0_3 == a1_3 && (a0_4 == a1_4)))) = true:=by simpa using c4))
      (try (have c4b2 : (a0_1 == a1_1 && (a0_2 == a1_2 && (a0_3 == a1_3 && (a0_4 == a1_4)))) = true:=by simpa using c4))
      clear c4
      by_cases c5 : (a0_5 == a1_5 && (a0_6 == a1_6 && (a0_7 == a1_7 && (a0_8 == a1_8 && (a0_9 == a1_9 && (a0_10 == a1_10)))))) = true
      focus
        rw [if_pos c5] at H;have c5b0 : (a0_5 == a1_5 && (a0_6 == a1_6 && (a0_7 == a1_7 && (a0_8 == a1_8 && (a0_9 == a1_9 && (a0_10 == a1_10)))))) = true:=c5
        (try (have c5b1 : decide (a0_5 = a1_5 && (a0_6 == a1_6 && (a0_7 == a1_7 && (a0_8 == a1_8 && (a0_9 == a1_9 && (a0_10 == a1_10)))))) = true:=by simpa using c5))
        (try (have c5b2 : (a0_5 == a1_5 && (a0_6 == a1_6 && (a0_7 == a1_7 && (a0_8 == a1_8 && (a0_9 == a1_9 && (a0_10 == a1_10)))))) = true:=by simpa using c5))
        clear c5
        by_cases c6 : a0_11 = a1_11
        focus
          rw [if_pos c6] at H;have c6b0 : (a0_11 == a1_11) = true:=beq_iff_eq.mpr c6;have c6b1 : (a0_11 != a1_11) = false:=bne_eq_false_iff_eq.mpr c6;clear c6
          by_cases c7 : a0_13 = a1_13
          focus
            rw [if_pos c7] at H;have c7b0 : (a0_13 == a1_13) = true:=beq_iff_eq.mpr c7;have c7b1 : (a0_13 != a1_13) = false:=bne_eq_false_iff_eq.mpr c7;clear c7;replace H:=Option.bind_eq_some_iff.mp H;obtain ⟨t199,A80,H⟩:=H;replace H : (some t199) = some r:=H;have A8:=am A80;clear A80;obtain rfl:=Option.some.inj H
          rotate_left
          focus
            rw [if_neg c7] at H;have c7b0 : (a0_13 == a1_13) = false:=beq_eq_false_iff_ne.mpr c7;have c7b1 : (a0_13 != a1_13) = true:=bne_iff_ne.mpr c7;obtain rfl:=Option.some.inj H
        rotate_left 2
        focus
          rw [if_neg c6] at H;have c6b0 : (a0_11 == a1_11) = false:=beq_eq_false_iff_ne.mpr c6;have c6b1 : (a0_11 != a1_11) = true:=bne_iff_ne.mpr c6;obtain rfl:=Option.some.inj H
      rotate_left 3
      focus
        rw [if_neg c5] at H
        have c5b0 : (a0_5 == a1_5 && (a0_6 == a1_6 && (a0_7 == a1_7 && (a0_8 == a1_8 && (a0_9 == a1_9 && (a0_10 == a1_10)))))) = false:=by simpa using c5
        (try (have c5b1 : decide (a0_5 = a1_5 && (a0_6 == a1_6 && (a0_7 == a1_7 && (a0_8 == a1_8 && (a0_9 == a1_9 && (a0_10 == a1_10)))))) = false:=by simpa using c5))
        (try (have c5b2 : (a0_5 == a1_5 && (a0_6 == a1_6 && (a0_7 == a1_7 && (a0_8 == a1_8 && (a0_9 == a1_9 && (a0_10 == a1_10)))))) = false:=by simpa using c5))
        (try (have c5b3 : ¬ (a0_5 = a1_5 && (a0_6 == a1_6 && (a0_7 == a1_7 && (a0_8 == a1_8 && (a0_9 == a1_9 && (a0_10 == a1_10)))))):=by simpa using c5))
        clear c5;obtain rfl:=Option.some.inj H
    rotate_left 4
    focus
      rw [if_neg c4] at H
      have c4b0 : (a0_1 == a1_1 && (a0_2 == a1_2 && (a0_3 == a1_3 && (a0_4 == a1_4)))) = false:=by simpa using c4
      (try (have c4b1 : decide (a0_1 = a1_1 && (a0_2 == a1_2 && (a0_3 == a1_3 && (a0_4 == a1_4)))) = false:=by simpa using c4))
      (try (have c4b2 : (a0_1 == a1_1 && (a0_2 == a1_2 && (a0_3 == a1_3 && (a0_4 == a1_4)))) = false:=by simpa using c4))
      (try (have c4b3 : ¬ (a0_1 = a1_1 && (a0_2 == a1_2 && (a0_3 == a1_3 && (a0_4 == a1_4)))):=by simpa using c4))
      clear c4;obtain rfl:=Option.some.inj H
  rotate_left 5
  focus
    rw [if_neg c3] at H;have c3b0 : (a0_0 == a1_0) = false:=beq_eq_false_iff_ne.mpr c3;have c3b1 : (a0_0 != a1_0) = true:=bne_iff_ne.mpr c3;obtain rfl:=Option.some.inj H
  all_goals
    go_enter Try.func45,Try.ntmps45
    go_wp2_with (first|((with_reducible refine gate_dst (N:=2) rfl ?_);refine box_event ?hg (N:=2) ?hd (cs:=#[.int .i64 a0_0,.int .i64 a0_1,.int .i64 a0_2,.int .i64 a0_3,.int .i64 a0_4,.int .i64 a0_5,.int .i64 a0_6,.int .i64 a0_7,.int .i64 a0_8,.int .i64 a0_9,.int .i64 a0_10,.int .i64 a0_11,.slice A0_12 l0_12.length c0_12,.int .i64 a0_13]) (t:=31) ?hr ?_;(case hd => rfl);(case hg => rfl);(case hr => first|(go_simp;done)|(go_simp;rfl));intro gbz1 hg wz1 hbox hb;have nz1_:=am (ss (by repeat (first|(with_reducible first|exact HB.out|apply sa|apply sn|apply sd)|exact HB.out)) hb);have nz2_:=am (hbox);have nz3_:=am ((by rw [hg];exact (sz (by repeat (first|(with_reducible first|exact HB.out|apply sa|apply sn|apply sd)|exact HB.out))) : w.heap.size ≤ gbz1));have nz4_:=am ((by rw [hg];exact (sz (by repeat (first|(with_reducible first|exact HB.out|apply sa|apply sn|apply sd)|exact HB.out))) : w.heap.size ≤ gbz1));clear HB;have HB:=nz1_;have BKz1:=nz2_;have GWz1:=nz3_;have GEz1:=nz4_;clear nz1_ nz2_ nz3_ nz4_;clear hb hbox hg)|((with_reducible refine gate_dst (N:=3) rfl ?_);refine box_event ?hg (N:=3) ?hd (cs:=#[.int .i64 a1_0,.int .i64 a1_1,.int .i64 a1_2,.int .i64 a1_3,.int .i64 a1_4,.int .i64 a1_5,.int .i64 a1_6,.int .i64 a1_7,.int .i64 a1_8,.int .i64 a1_9,.int .i64 a1_10,.int .i64 a1_11,.slice A1_12 l1_12.length c1_12,.int .i64 a1_13]) (t:=31) ?hr ?_;(case hd => rfl);(case hg => rfl);(case hr => first|(go_simp;done)|(go_simp;rfl));intro gbz2 hg wz2 hbox hb;have nz1_:=am (bw (by exact BKz1.out) hb);have nz2_:=am (ss (by repeat (first|(with_reducible first|exact HB.out|apply sa|apply sn|apply sd|refine sx ?_ GEz1.out)|exact HB.out)) hb);have nz3_:=am (hbox);have nz4_:=am ((by rw [hg];exact (sz (by repeat (first|(with_reducible first|exact HB.out|apply sa|apply sn|apply sd|refine sx ?_ GEz1.out)|exact HB.out))) : w.heap.size ≤ gbz2));have nz5_:=am ((by rw [hg];exact (sz (by repeat (first|(with_reducible first|exact HB.out|apply sa|apply sn|apply sd|refine sx ?_ GEz1.out)|exact HB.out))) : w.heap.size ≤ gbz2));have nz6_:=nb (by exact BKz1.out) hg;have nz7_:=ng (by exact BKz1.out) hg;clear BKz1;clear HB;have BKz1:=nz1_;have HB:=nz2_;have BKz2:=nz3_;have GWz2:=nz4_;have GEz2:=nz5_;have NBz1_198:=nz6_;have NBz2_197:=nz7_;clear nz1_ nz2_ nz3_ nz4_ nz5_ nz6_ nz7_;clear hb hbox hg;have hnbz1:=NBz1_198.out;have hncz1:=NBz2_197.out;have hczz1_0 : wz2.cell? ⟨gbz1,0,none⟩ = some (.int .i64 a0_0):=(bc BKz1.out 0).trans rfl;have hczz1_1 : wz2.cell? ⟨gbz1,1,none⟩ = some (.int .i64 a0_1):=(bc BKz1.out 1).trans rfl;have hczz1_2 : wz2.cell? ⟨gbz1,2,none⟩ = some (.int .i64 a0_2):=(bc BKz1.out 2).trans rfl;have hczz1_3 : wz2.cell? ⟨gbz1,3,none⟩ = some (.int .i64 a0_3):=(bc BKz1.out 3).trans rfl;have hczz1_4 : wz2.cell? ⟨gbz1,4,none⟩ = some (.int .i64 a0_4):=(bc BKz1.out 4).trans rfl;have hczz1_5 : wz2.cell? ⟨gbz1,5,none⟩ = some (.int .i64 a0_5):=(bc BKz1.out 5).trans rfl;have hczz1_6 : wz2.cell? ⟨gbz1,6,none⟩ = some (.int .i64 a0_6):=(bc BKz1.out 6).trans rfl;have hczz1_7 : wz2.cell? ⟨gbz1,7,none⟩ = some (.int .i64 a0_7):=(bc BKz1.out 7).trans rfl;have hczz1_8 : wz2.cell? ⟨gbz1,8,none⟩ = some (.int .i64 a0_8):=(bc BKz1.out 8).trans rfl;have hczz1_9 : wz2.cell? ⟨gbz1,9,none⟩ = some (.int .i64 a0_9):=(bc BKz1.out 9).trans rfl;have hczz1_10 : wz2.cell? ⟨gbz1,10,none⟩ = some (.int .i64 a0_10):=(bc BKz1.out 10).trans rfl;have hczz1_11 : wz2.cell? ⟨gbz1,11,none⟩ = some (.int .i64 a0_11):=(bc BKz1.out 11).trans rfl;have hczz1_12 : wz2.cell? ⟨gbz1,12,none⟩ = some (.slice A0_12 l0_12.length c0_12):=(bc BKz1.out 12).trans rfl;have hczz1_13 : wz2.cell? ⟨gbz1,13,none⟩ = some (.int .i64 a0_13):=(bc BKz1.out 13).trans rfl;have hfzz1_0:=bz BKz1.out 0;have hfzz1_1:=bz BKz1.out 1;have hfzz1_2:=bz BKz1.out 2;have hfzz1_3:=bz BKz1.out 3;have hfzz1_4:=bz BKz1.out 4;have hfzz1_5:=bz BKz1.out 5;have hfzz1_6:=bz BKz1.out 6;have hfzz1_7:=bz BKz1.out 7;have hfzz1_8:=bz BKz1.out 8;have hfzz1_9:=bz BKz1.out 9;have hfzz1_10:=bz BKz1.out 10;have hfzz1_11:=bz BKz1.out 11;have hfzz1_12:=bz BKz1.out 12;have hfzz1_13:=bz BKz1.out 13;have hczz2_0 : wz2.cell? ⟨gbz2,0,none⟩ = some (.int .i64 a1_0):=(bc BKz2.out 0).trans rfl;have hczz2_1 : wz2.cell? ⟨gbz2,1,none⟩ = some (.int .i64 a1_1):=(bc BKz2.out 1).trans rfl;have hczz2_2 : wz2.cell? ⟨gbz2,2,none⟩ = some (.int .i64 a1_2):=(bc BKz2.out 2).trans rfl;have hczz2_3 : wz2.cell? ⟨gbz2,3,none⟩ = some (.int .i64 a1_3):=(bc BKz2.out 3).trans rfl;have hczz2_4 : wz2.cell? ⟨gbz2,4,none⟩ = some (.int .i64 a1_4):=(bc BKz2.out 4).trans rfl;have hczz2_5 : wz2.cell? ⟨gbz2,5,none⟩ = some (.int .i64 a1_5):=(bc BKz2.out 5).trans rfl;have hczz2_6 : wz2.cell? ⟨gbz2,6,none⟩ = some (.int .i64 a1_6):=(bc BKz2.out 6).trans rfl;have hczz2_7 : wz2.cell? ⟨gbz2,7,none⟩ = some (.int .i64 a1_7):=(bc BKz2.out 7).trans rfl;have hczz2_8 : wz2.cell? ⟨gbz2,8,none⟩ = some (.int .i64 a1_8):=(bc BKz2.out 8).trans rfl;have hczz2_9 : wz2.cell? ⟨gbz2,9,none⟩ = some (.int .i64 a1_9):=(bc BKz2.out 9).trans rfl;have hczz2_10 : wz2.cell? ⟨gbz2,10,none⟩ = some (.int .i64 a1_10):=(bc BKz2.out 10).trans rfl;have hczz2_11 : wz2.cell? ⟨gbz2,11,none⟩ = some (.int .i64 a1_11):=(bc BKz2.out 11).trans rfl;have hczz2_12 : wz2.cell? ⟨gbz2,12,none⟩ = some (.slice A1_12 l1_12.length c1_12):=(bc BKz2.out 12).trans rfl;have hczz2_13 : wz2.cell? ⟨gbz2,13,none⟩ = some (.int .i64 a1_13):=(bc BKz2.out 13).trans rfl;have hfzz2_0:=bz BKz2.out 0;have hfzz2_1:=bz BKz2.out 1;have hfzz2_2:=bz BKz2.out 2;have hfzz2_3:=bz BKz2.out 3;have hfzz2_4:=bz BKz2.out 4;have hfzz2_5:=bz BKz2.out 5;have hfzz2_6:=bz BKz2.out 6;have hfzz2_7:=bz BKz2.out 7;have hfzz2_8:=bz BKz2.out 8;have hfzz2_9:=bz BKz2.out 9;have hfzz2_10:=bz BKz2.out 10;have hfzz2_11:=bz BKz2.out 11;have hfzz2_12:=bz BKz2.out 12;have hfzz2_13:=bz BKz2.out 13)|(go_at_call 71;(with_reducible refine (api_Stop.calls k _ _ l0_12 _ _ l1_12 t199 _ ?side1 ?side2 ?side3 ?side4 A8.out).mono ?_);(case side1 => repeat (first|exact (Kd.C_below HR0_12.out HB.out)|(with_reducible refine Kd.C_alloc ?_ _)|(with_reducible refine Kd.C_drewN ?_ _)|(with_reducible refine Kd.C_drew ?_)));(case side2 => exact HC0_12.out);(case side3 => repeat (first|exact (Kd.C_below HR1_12.out HB.out)|(with_reducible refine Kd.C_alloc ?_ _)|(with_reducible refine Kd.C_drewN ?_ _)|(with_reducible refine Kd.C_drew ?_)));(case side4 => exact HC1_12.out);rintro e w' ⟨rfl,⟨nd,rfl⟩⟩))
    go_ret
    exact ⟨by first|rfl|(simp [errW_none,errW_some] <;> rfl)|(simp [*,errW_none,errW_some] <;> rfl),by repeat (first|(with_reducible first|exact HB.out|apply sa|apply sn|apply sd|refine sx ?_ GEz1.out|refine sx ?_ GEz2.out)|exact HB.out)⟩

/-! ### style_picture: function 46 -/
def style_picture.f (a0 : Int) : Option (Bool):=if a0 = 64 then (some true) else (some (a0 == 65))
set_option maxHeartbeats 8000000 in
set_option maxRecDepth 100000 in
theorem style_picture.calls (a0 : Int) (r : Bool) (w : World) (h : style_picture.f a0 = some r) :
    Calls Try.prog 46 #[.int .i64 a0] w fun e w' => e = .returned (.bool r) ∧ Drawn0 w w':=by
  have H : (if a0 = 64 then (some true) else (some (a0 == 65))) = some r:=h;clear h
  by_cases c2 : a0 = 64
  · rw [if_pos c2] at H
    have c2b0 : (a0 == 64) = true:=beq_iff_eq.mpr c2;have c2b1 : (a0 != 64) = false:=bne_eq_false_iff_eq.mpr c2;clear c2;obtain rfl:=Option.some.inj H
    go_enter Try.func46,Try.ntmps46
    go_wp2
    go_ret
    exact ⟨by first|rfl|(simp;done)|(simp [*];done),by repeat (first|exact Drawn0.refl _|apply Drawn0.step)⟩
  · rw [if_neg c2] at H
    have c2b0 : (a0 == 64) = false:=beq_eq_false_iff_ne.mpr c2;have c2b1 : (a0 != 64) = true:=bne_iff_ne.mpr c2;obtain rfl:=Option.some.inj H
    go_enter Try.func46,Try.ntmps46
    go_wp2
    go_ret
    exact ⟨by first|rfl|(simp;done)|(simp [*];done),by repeat (first|exact Drawn0.refl _|apply Drawn0.step)⟩

/-! ### field_RightMatrix: function 47 -/
def field_RightMatrix.f (k : Nat) (a0_0 : Int) (a0_1 : Int) (a0_2 : Int) (a0_3 : Int) (a0_4 : Int) (a0_5 : Int) : Option (Bool):=(field_within.f k (-4194304) 4194304 (([a0_0,a0_1,a0_2,a0_3] : List Int))).bind fun t204 => (if t204 = true then ((field_within.f k (-1048576) 1048576 (([a0_4,a0_5] : List Int))).bind fun t208 => (some t208)) else (some false))
theorem field_RightMatrix.mono : ∀ a0 a1 a2 a3 a4 a5 k,LeO (field_RightMatrix.f k a0 a1 a2 a3 a4 a5) (field_RightMatrix.f (k + 1) a0 a1 a2 a3 a4 a5):=by
  intro a0 a1 a2 a3 a4 a5 k
  unfold field_RightMatrix.f
  repeat' first
      | (with_reducible exact field_within.mono _ _ _ _)
      | (with_reducible exact LeO.refl _)
      | (with_reducible exact LeO.none _)
      | (with_reducible refine LeO.ite ?_ ?_)
      | (with_reducible refine LeO.bind ?_ (fun _ => ?_))
      | exact field_within.mono _ _ _ _
      | exact LeO.none _
      | refine LeO.ite ?_ ?_
      | refine LeO.bind ?_ (fun _ => ?_)
set_option maxHeartbeats 8000000 in
set_option maxRecDepth 100000 in
theorem field_RightMatrix.calls (k : Nat) (a0_0 : Int) (a0_1 : Int) (a0_2 : Int) (a0_3 : Int) (a0_4 : Int) (a0_5 : Int) (r : Bool) (w : World) (h : field_RightMatrix.f k a0_0 a0_1 a0_2 a0_3 a0_4 a0_5 = some r) :
    Calls Try.prog 47 #[.agg #[.int .i64 a0_0,.int .i64 a0_1,.int .i64 a0_2,.int .i64 a0_3,.int .i64 a0_4,.int .i64 a0_5]] w fun e w' => e = .returned (.bool r) ∧ Below w.heap.size w w':=by
  have hu28:=Try.underlying28;have HB:=am (Below.refl w.heap.size w);have H : ((field_within.f k (-4194304) 4194304 (([a0_0,a0_1,a0_2,a0_3] : List Int))).bind fun t204 => (if t204 = true then ((field_within.f k (-1048576) 1048576 (([a0_4,a0_5] : List Int))).bind fun t208 => (some t208)) else (some false))) = some r:=h;clear h;obtain ⟨y201,hy201⟩ : ∃ y_ : List Int,y_ = (([a0_0,a0_1,a0_2,a0_3] : List Int)):=⟨_,rfl⟩
  replace H : ((field_within.f k (-4194304) 4194304 y201).bind fun t204 => (if t204 = true then ((field_within.f k (-1048576) 1048576 (([a0_4,a0_5] : List Int))).bind fun t208 => (some t208)) else (some false))) = some r:=by first|(rw [hy201];with_reducible exact H)|(have H2_:=(Option.bind_some _ _).symm.trans H;rw [hy201];with_reducible exact H2_)|(have H2_:=(Option.bind_some _ _).symm.trans H;with_reducible exact H2_)|with_reducible exact H|(rw [hy201];exact H)|exact H
  have Ny201:=am hy201;clear hy201;replace H:=Option.bind_eq_some_iff.mp H;obtain ⟨t204,A20,H⟩:=H;replace H : (if t204 = true then ((field_within.f k (-1048576) 1048576 (([a0_4,a0_5] : List Int))).bind fun t208 => (some t208)) else (some false)) = some r:=H;have A2:=am A20;clear A20
  by_cases c3 : t204 = true
  · subst c3
    have H1 : ((field_within.f k (-1048576) 1048576 (([a0_4,a0_5] : List Int))).bind fun t208 => (some t208)) = some r:=by rw [if_pos rfl] at H;exact H
    clear H;have H:=H1;clear H1;obtain ⟨y205,hy205⟩ : ∃ y_ : List Int,y_ = (([a0_4,a0_5] : List Int)):=⟨_,rfl⟩
    replace H : ((field_within.f k (-1048576) 1048576 y205).bind fun t208 => (some t208)) = some r:=by first|(rw [hy205];with_reducible exact H)|(have H2_:=(Option.bind_some _ _).symm.trans H;rw [hy205];with_reducible exact H2_)|(have H2_:=(Option.bind_some _ _).symm.trans H;with_reducible exact H2_)|with_reducible exact H|(rw [hy205];exact H)|exact H
    have Ny205:=am hy205;clear hy205;replace H:=Option.bind_eq_some_iff.mp H;obtain ⟨t208,A40,H⟩:=H;replace H : (some t208) = some r:=H;have A4:=am A40;clear A40;obtain rfl:=Option.some.inj H
    go_enter Try.func47,Try.ntmps47
    go_wp2_with (first|((with_reducible refine gate_dst (N:=1) rfl ?_);(try (refine gate_guard (by rfl) ?_;dsimp only));refine box_event ?hg (N:=1) ?hd (cs:=#[.int .i64 a0_0,.int .i64 a0_1,.int .i64 a0_2,.int .i64 a0_3,.int .i64 a0_4,.int .i64 a0_5]) (t:=28) ?hr ?_;(case hd => rfl);(case hg => rfl);(case hr => first|(go_simp;done)|(go_simp;rfl));intro gb200 hg w5 hbox hb;have BK200:=am (hbox);have GW200:=am ((by rw [hg];exact (sz (by repeat (first|(with_reducible first|exact HB.out|apply sa|apply sn|apply sd)|exact HB.out))) : w.heap.size ≤ gb200));have GE200:=am ((by rw [hg];exact (sz (by repeat (first|(with_reducible first|exact HB.out|apply sa|apply sn|apply sd)|exact HB.out))) : w.heap.size ≤ gb200));replace HB:=am (ss (by repeat (first|(with_reducible first|exact HB.out|apply sa|apply sn|apply sd)|exact HB.out)) hb);clear hb hbox hg;obtain ⟨hcz6_0,hcz6_1,hcz6_2,hcz6_3,hcz6_4,hcz6_5⟩:=cq6 BK200.out;obtain ⟨hfz6_0,hfz6_1,hfz6_2,hfz6_3,hfz6_4,hfz6_5⟩:=fq6 BK200.out)|((with_reducible refine gate_dst (N:=11) rfl ?_);(try (refine gate_guard (by rfl) ?_;dsimp only));refine Kd.R_lit (Kd.int .i64) _ 3 ?hg (N:=11) ?hd (xs:=([a0_0,a0_1,a0_2,a0_3] : List Int)) (inner:=[.int .i64 a0_0,.int .i64 a0_1,.int .i64 a0_2,.int .i64 a0_3]) (ok:=fun _ => True) (okp:=fun _ => True) ?hr ?hp (fun _ hk => hk) trivial (Below.refl _ _) (Nat.le_refl _) (by simp) ?_;(case hd => rfl);(case hg => rfl);(case hr => first|(go_simp;done)|(go_simp;rfl));(case hp => exact (Reps.one (show Kd.M (Kd.int .i64) _ _ _ a0_0 [.int .i64 a0_0] from rfl) (Reps.one (show Kd.M (Kd.int .i64) _ _ _ a0_1 [.int .i64 a0_1] from rfl) (Reps.one (show Kd.M (Kd.int .i64) _ _ _ a0_2 [.int .i64 a0_2] from rfl) (Reps.one (show Kd.M (Kd.int .i64) _ _ _ a0_3 [.int .i64 a0_3] from rfl) (Reps.none _ _))))));intro v202 w7 ho8 hb hg_ hnew_;clear hg_ hnew_;(first|rw [← Ny201.out] at ho8|(simp only [Int.reduceToNat] at ho8;rw [← Ny201.out] at ho8));have HO203:=am (Kd.R_lower ho8 (sz (by repeat (first|(with_reducible first|exact HB.out|apply sa|apply sn|apply sd|refine sx ?_ GE200.out)|exact HB.out))));replace BK200:=am (bw (by exact BK200.out) hb);replace HB:=am (ss (by repeat (first|(with_reducible first|exact HB.out|apply sa|apply sn|apply sd|refine sx ?_ GE200.out)|exact HB.out)) hb);clear hb ho8;obtain ⟨Ao9,co9,eo9⟩:=Kd.R_slice HO203.out;subst eo9)|((with_reducible refine gate_callee (f:=44) rfl ?_);refine goesL_ (some 12) rfl rfl Try.func44 (by kernel_rfl) rfl #[.int .i64 (-4194304),.int .i64 4194304,.slice Ao9 y201.length co9] rfl (by (try simp only [List.map_toArray,List.map_cons,List.map_nil]);first|done|rfl|(simp only [List.length_drop,List.length_take];rfl)) ?_;(with_reducible refine (field_within.calls k (-4194304) 4194304 _ _ y201 true _ ?side1 ?side2 A2.out).mono ?_);(case side1 => repeat (first|exact (Kd.R_reads' HO203.out).2.2|(with_reducible refine Kd.C_alloc ?_ _)|(with_reducible refine Kd.C_drewN ?_ _)|(with_reducible refine Kd.C_drew ?_)));(case side2 => exact (Kd.R_reads' HO203.out).2.1);rintro e w' ⟨rfl,⟨nd,rfl⟩⟩;refine ⟨_,rfl,?_⟩;obtain ⟨hcz10_0,hcz10_1,hcz10_2,hcz10_3,hcz10_4,hcz10_5⟩:=cq6 BK200.out;obtain ⟨hfz10_0,hfz10_1,hfz10_2,hfz10_3,hfz10_4,hfz10_5⟩:=fq6 BK200.out)|((with_reducible refine gate_dst (N:=18) rfl ?_);(try (refine gate_guard (by rfl) ?_;dsimp only));refine Kd.R_lit (Kd.int .i64) _ 3 ?hg (N:=18) ?hd (xs:=([a0_4,a0_5] : List Int)) (inner:=[.int .i64 a0_4,.int .i64 a0_5]) (ok:=fun _ => True) (okp:=fun _ => True) ?hr ?hp (fun _ hk => hk) trivial (Below.refl _ _) (Nat.le_refl _) (by simp) ?_;(case hd => rfl);(case hg => rfl);(case hr => first|(go_simp;done)|(go_simp;rfl));(case hp => exact (Reps.one (show Kd.M (Kd.int .i64) _ _ _ a0_4 [.int .i64 a0_4] from rfl) (Reps.one (show Kd.M (Kd.int .i64) _ _ _ a0_5 [.int .i64 a0_5] from rfl) (Reps.none _ _))));intro v206 w11 ho12 hb hg_ hnew_;clear hg_ hnew_;(first|rw [← Ny205.out] at ho12|(simp only [Int.reduceToNat] at ho12;rw [← Ny205.out] at ho12));have HO207:=am (Kd.R_lower (Kd.R_new' ho12 (Kd.R_lt (by (with_reducible repeat (first|apply Kd.R_alloc|apply Kd.R_drewN|apply Kd.R_drew));exact HO203.out))) (sz (by repeat (first|(with_reducible first|exact HB.out|apply sa|apply sn|apply sd|refine sx ?_ GE200.out)|exact HB.out))));replace HO203:=am (Kd.R_elder' (by (with_reducible repeat (first|apply Kd.R_alloc|apply Kd.R_drewN|apply Kd.R_drew));exact HO203.out) (Kd.R_base ho12) hb);replace BK200:=am (bw (by exact BK200.out) hb);replace HB:=am (ss (by repeat (first|(with_reducible first|exact HB.out|apply sa|apply sn|apply sd|refine sx ?_ GE200.out)|exact HB.out)) hb);clear hb ho12;obtain ⟨Ao13,co13,eo13⟩:=Kd.R_slice HO207.out;subst eo13)|(go_at_call 44;(with_reducible refine (field_within.calls k (-1048576) 1048576 _ _ y205 t208 _ ?side1 ?side2 A4.out).mono ?_);(case side1 => repeat (first|exact (Kd.R_reads' HO207.out).2.2|(with_reducible refine Kd.C_alloc ?_ _)|(with_reducible refine Kd.C_drewN ?_ _)|(with_reducible refine Kd.C_drew ?_)));(case side2 => exact (Kd.R_reads' HO207.out).2.1);rintro e w' ⟨rfl,⟨nd,rfl⟩⟩))
    go_ret
    exact ⟨by first|rfl|(simp [errW_none,errW_some] <;> rfl)|(simp [*,errW_none,errW_some] <;> rfl),by repeat (first|(with_reducible first|exact HB.out|apply sa|apply sn|apply sd|refine sx ?_ GE200.out)|exact HB.out)⟩
  · replace c3:=Bool.eq_false_iff.mpr c3
    subst c3
    have H1 : (some false) = some r:=by rw [if_neg (show ¬ (false = true) by decide)] at H;exact H
    clear H;have H:=H1;clear H1;obtain rfl:=Option.some.inj H
    go_enter Try.func47,Try.ntmps47
    go_wp2_with (first|((with_reducible refine gate_dst (N:=1) rfl ?_);(try (refine gate_guard (by rfl) ?_;dsimp only));refine box_event ?hg (N:=1) ?hd (cs:=#[.int .i64 a0_0,.int .i64 a0_1,.int .i64 a0_2,.int .i64 a0_3,.int .i64 a0_4,.int .i64 a0_5]) (t:=28) ?hr ?_;(case hd => rfl);(case hg => rfl);(case hr => first|(go_simp;done)|(go_simp;rfl));intro gb200 hg w14 hbox hb;have BK200:=am (hbox);have GW200:=am ((by rw [hg];exact (sz (by repeat (first|(with_reducible first|exact HB.out|apply sa|apply sn|apply sd)|exact HB.out))) : w.heap.size ≤ gb200));have GE200:=am ((by rw [hg];exact (sz (by repeat (first|(with_reducible first|exact HB.out|apply sa|apply sn|apply sd)|exact HB.out))) : w.heap.size ≤ gb200));replace HB:=am (ss (by repeat (first|(with_reducible first|exact HB.out|apply sa|apply sn|apply sd)|exact HB.out)) hb);clear hb hbox hg;obtain ⟨hcz15_0,hcz15_1,hcz15_2,hcz15_3,hcz15_4,hcz15_5⟩:=cq6 BK200.out;obtain ⟨hfz15_0,hfz15_1,hfz15_2,hfz15_3,hfz15_4,hfz15_5⟩:=fq6 BK200.out)|((with_reducible refine gate_dst (N:=11) rfl ?_);(try (refine gate_guard (by rfl) ?_;dsimp only));refine Kd.R_lit (Kd.int .i64) _ 3 ?hg (N:=11) ?hd (xs:=([a0_0,a0_1,a0_2,a0_3] : List Int)) (inner:=[.int .i64 a0_0,.int .i64 a0_1,.int .i64 a0_2,.int .i64 a0_3]) (ok:=fun _ => True) (okp:=fun _ => True) ?hr ?hp (fun _ hk => hk) trivial (Below.refl _ _) (Nat.le_refl _) (by simp) ?_;(case hd => rfl);(case hg => rfl);(case hr => first|(go_simp;done)|(go_simp;rfl));(case hp => exact (Reps.one (show Kd.M (Kd.int .i64) _ _ _ a0_0 [.int .i64 a0_0] from rfl) (Reps.one (show Kd.M (Kd.int .i64) _ _ _ a0_1 [.int .i64 a0_1] from rfl) (Reps.one (show Kd.M (Kd.int .i64) _ _ _ a0_2 [.int .i64 a0_2] from rfl) (Reps.one (show Kd.M (Kd.int .i64) _ _ _ a0_3 [.int .i64 a0_3] from rfl) (Reps.none _ _))))));intro v202 w16 ho17 hb hg_ hnew_;clear hg_ hnew_;(first|rw [← Ny201.out] at ho17|(simp only [Int.reduceToNat] at ho17;rw [← Ny201.out] at ho17));have HO203:=am (Kd.R_lower ho17 (sz (by repeat (first|(with_reducible first|exact HB.out|apply sa|apply sn|apply sd|refine sx ?_ GE200.out)|exact HB.out))));replace BK200:=am (bw (by exact BK200.out) hb);replace HB:=am (ss (by repeat (first|(with_reducible first|exact HB.out|apply sa|apply sn|apply sd|refine sx ?_ GE200.out)|exact HB.out)) hb);clear hb ho17;obtain ⟨Ao18,co18,eo18⟩:=Kd.R_slice HO203.out;subst eo18)|((with_reducible refine gate_callee (f:=44) rfl ?_);refine goesL_ (some 12) rfl rfl Try.func44 (by kernel_rfl) rfl #[.int .i64 (-4194304),.int .i64 4194304,.slice Ao18 y201.length co18] rfl (by (try simp only [List.map_toArray,List.map_cons,List.map_nil]);first|done|rfl|(simp only [List.length_drop,List.length_take];rfl)) ?_;(with_reducible refine (field_within.calls k (-4194304) 4194304 _ _ y201 false _ ?side1 ?side2 A2.out).mono ?_);(case side1 => repeat (first|exact (Kd.R_reads' HO203.out).2.2|(with_reducible refine Kd.C_alloc ?_ _)|(with_reducible refine Kd.C_drewN ?_ _)|(with_reducible refine Kd.C_drew ?_)));(case side2 => exact (Kd.R_reads' HO203.out).2.1);rintro e w' ⟨rfl,⟨nd,rfl⟩⟩;refine ⟨_,rfl,?_⟩))
    go_ret
    exact ⟨by first|rfl|(simp [errW_none,errW_some] <;> rfl)|(simp [*,errW_none,errW_some] <;> rfl),by repeat (first|(with_reducible first|exact HB.out|apply sa|apply sn|apply sd|refine sx ?_ GE200.out)|exact HB.out)⟩

/-! ### style_gradient: function 48 -/
def style_gradient.f (a0 : Int) : Option (Bool):=if a0 = 16 then (some true) else (some (a0 == 18))
set_option maxHeartbeats 8000000 in
set_option maxRecDepth 100000 in
theorem style_gradient.calls (a0 : Int) (r : Bool) (w : World) (h : style_gradient.f a0 = some r) :
    Calls Try.prog 48 #[.int .i64 a0] w fun e w' => e = .returned (.bool r) ∧ Drawn0 w w':=by
  have H : (if a0 = 16 then (some true) else (some (a0 == 18))) = some r:=h;clear h
  by_cases c2 : a0 = 16
  · rw [if_pos c2] at H
    have c2b0 : (a0 == 16) = true:=beq_iff_eq.mpr c2;have c2b1 : (a0 != 16) = false:=bne_eq_false_iff_eq.mpr c2;clear c2;obtain rfl:=Option.some.inj H
    go_enter Try.func48,Try.ntmps48
    go_wp2
    go_ret
    exact ⟨by first|rfl|(simp;done)|(simp [*];done),by repeat (first|exact Drawn0.refl _|apply Drawn0.step)⟩
  · rw [if_neg c2] at H
    have c2b0 : (a0 == 16) = false:=beq_eq_false_iff_ne.mpr c2;have c2b1 : (a0 != 16) = true:=bne_iff_ne.mpr c2;obtain rfl:=Option.some.inj H
    go_enter Try.func48,Try.ntmps48
    go_wp2
    go_ret
    exact ⟨by first|rfl|(simp;done)|(simp [*];done),by repeat (first|exact Drawn0.refl _|apply Drawn0.step)⟩

/-! ### style_stop: function 49 -/
def style_stop.f (k : Nat) (a0_0 : Int) (a0_1 : Int) (a0_2 : Int) (a0_3 : Int) (a0_4 : Int) (a1 : Int) : Option (Bool):=if a0_0 ≥ a1 then (if a0_0 ≤ 255 then ((field_RightRGBA.f k a0_1 a0_2 a0_3 a0_4).bind fun t210 => (some t210)) else (some false)) else (some false)
theorem style_stop.mono : ∀ a0 a1 a2 a3 a4 a5 k,LeO (style_stop.f k a0 a1 a2 a3 a4 a5) (style_stop.f (k + 1) a0 a1 a2 a3 a4 a5):=by
  intro a0 a1 a2 a3 a4 a5 k
  unfold style_stop.f
  repeat' first
      | (with_reducible exact field_RightRGBA.mono _ _ _ _ _)
      | (with_reducible exact LeO.refl _)
      | (with_reducible exact LeO.none _)
      | (with_reducible refine LeO.ite ?_ ?_)
      | (with_reducible refine LeO.bind ?_ (fun _ => ?_))
      | exact field_RightRGBA.mono _ _ _ _ _
      | exact LeO.none _
      | refine LeO.ite ?_ ?_
      | refine LeO.bind ?_ (fun _ => ?_)
set_option maxHeartbeats 8000000 in
set_option maxRecDepth 100000 in
theorem style_stop.calls (k : Nat) (a0_0 : Int) (a0_1 : Int) (a0_2 : Int) (a0_3 : Int) (a0_4 : Int) (a1 : Int) (r : Bool) (w : World) (h : style_stop.f k a0_0 a0_1 a0_2 a0_3 a0_4 a1 = some r) :
    Calls Try.prog 49 #[.agg #[.int .i64 a0_0,.int .i64 a0_1,.int .i64 a0_2,.int .i64 a0_3,.int .i64 a0_4],.int .i64 a1] w fun e w' => e = .returned (.bool r) ∧ Below w.heap.size w w':=by
  have hu80:=Try.underlying80;have hu23:=Try.underlying23;have HB:=am (Below.refl w.heap.size w);have H : (if a0_0 ≥ a1 then (if a0_0 ≤ 255 then ((field_RightRGBA.f k a0_1 a0_2 a0_3 a0_4).bind fun t210 => (some t210)) else (some false)) else (some false)) = some r:=h;clear h
  by_cases c3 : a0_0 ≥ a1
  · rw [if_pos c3] at H
    have c3b0 : decide (a1 ≤ a0_0) = true:=decide_eq_true c3;clear c3
    by_cases c4 : a0_0 ≤ 255
    · rw [if_pos c4] at H
      have c4b0 : decide (a0_0 ≤ 255) = true:=decide_eq_true c4;clear c4;replace H:=Option.bind_eq_some_iff.mp H;obtain ⟨t210,A50,H⟩:=H;replace H : (some t210) = some r:=H;have A5:=am A50;clear A50;obtain rfl:=Option.some.inj H
      go_enter Try.func49,Try.ntmps49
      go_wp2_with (first|((with_reducible refine gate_dst (N:=2) rfl ?_);refine box_event ?hg (N:=2) ?hd (cs:=#[.int .i64 a0_0,.int .i64 a0_1,.int .i64 a0_2,.int .i64 a0_3,.int .i64 a0_4]) (t:=80) ?hr ?_;(case hd => rfl);(case hg => rfl);(case hr => first|(go_simp;done)|(go_simp;rfl));intro gb209 hg w6 hbox hb;have BK209:=am (hbox);have GW209:=am ((by rw [hg];exact (sz (by repeat (first|(with_reducible first|exact HB.out|apply sa|apply sn|apply sd)|exact HB.out))) : w.heap.size ≤ gb209));have GE209:=am ((by rw [hg];exact (sz (by repeat (first|(with_reducible first|exact HB.out|apply sa|apply sn|apply sd)|exact HB.out))) : w.heap.size ≤ gb209));replace HB:=am (ss (by repeat (first|(with_reducible first|exact HB.out|apply sa|apply sn|apply sd)|exact HB.out)) hb);clear hb hbox hg;obtain ⟨hcz7_0,hcz7_1,hcz7_2,hcz7_3,hcz7_4⟩:=cq5 BK209.out;obtain ⟨hfz7_0,hfz7_1,hfz7_2,hfz7_3,hfz7_4⟩:=fq5 BK209.out)|(go_at_call 24;(with_reducible refine (field_RightRGBA.calls k a0_1 a0_2 a0_3 a0_4 t210 _ A5.out).mono ?_);rintro e w8 ⟨rfl,hb⟩;replace BK209:=am (bw (by exact BK209.out) hb);replace HB:=am (ss (by repeat (first|(with_reducible first|exact HB.out|apply sa|apply sn|apply sd|refine sx ?_ GE209.out)|exact HB.out)) hb);(try clear hb);(try clear hb2);(try clear hk);(try clear hi)))
      go_ret
      exact ⟨by first|rfl|(simp [errW_none,errW_some] <;> rfl)|(simp [*,errW_none,errW_some] <;> rfl),by repeat (first|(with_reducible first|exact HB.out|apply sa|apply sn|apply sd|refine sx ?_ GE209.out)|exact HB.out)⟩
    · rw [if_neg c4] at H
      have c4b0 : decide (a0_0 ≤ 255) = false:=decide_eq_false c4;clear c4;obtain rfl:=Option.some.inj H
      go_enter Try.func49,Try.ntmps49
      go_wp2_with (first|((with_reducible refine gate_dst (N:=2) rfl ?_);refine box_event ?hg (N:=2) ?hd (cs:=#[.int .i64 a0_0,.int .i64 a0_1,.int .i64 a0_2,.int .i64 a0_3,.int .i64 a0_4]) (t:=80) ?hr ?_;(case hd => rfl);(case hg => rfl);(case hr => first|(go_simp;done)|(go_simp;rfl));intro gb209 hg w9 hbox hb;have BK209:=am (hbox);have GW209:=am ((by rw [hg];exact (sz (by repeat (first|(with_reducible first|exact HB.out|apply sa|apply sn|apply sd)|exact HB.out))) : w.heap.size ≤ gb209));have GE209:=am ((by rw [hg];exact (sz (by repeat (first|(with_reducible first|exact HB.out|apply sa|apply sn|apply sd)|exact HB.out))) : w.heap.size ≤ gb209));replace HB:=am (ss (by repeat (first|(with_reducible first|exact HB.out|apply sa|apply sn|apply sd)|exact HB.out)) hb);clear hb hbox hg;obtain ⟨hcz10_0,hcz10_1,hcz10_2,hcz10_3,hcz10_4⟩:=cq5 BK209.out;obtain ⟨hfz10_0,hfz10_1,hfz10_2,hfz10_3,hfz10_4⟩:=fq5 BK209.out))
      go_ret
      exact ⟨by first|rfl|(simp [errW_none,errW_some] <;> rfl)|(simp [*,errW_none,errW_some] <;> rfl),by repeat (first|(with_reducible first|exact HB.out|apply sa|apply sn|apply sd|refine sx ?_ GE209.out)|exact HB.out)⟩
  · rw [if_neg c3] at H
    have c3b0 : decide (a1 ≤ a0_0) = false:=decide_eq_false c3;clear c3;obtain rfl:=Option.some.inj H
    go_enter Try.func49,Try.ntmps49
    go_wp2_with (first|((with_reducible refine gate_dst (N:=2) rfl ?_);refine box_event ?hg (N:=2) ?hd (cs:=#[.int .i64 a0_0,.int .i64 a0_1,.int .i64 a0_2,.int .i64 a0_3,.int .i64 a0_4]) (t:=80) ?hr ?_;(case hd => rfl);(case hg => rfl);(case hr => first|(go_simp;done)|(go_simp;rfl));intro gb209 hg w11 hbox hb;have BK209:=am (hbox);have GW209:=am ((by rw [hg];exact (sz (by repeat (first|(with_reducible first|exact HB.out|apply sa|apply sn|apply sd)|exact HB.out))) : w.heap.size ≤ gb209));have GE209:=am ((by rw [hg];exact (sz (by repeat (first|(with_reducible first|exact HB.out|apply sa|apply sn|apply sd)|exact HB.out))) : w.heap.size ≤ gb209));replace HB:=am (ss (by repeat (first|(with_reducible first|exact HB.out|apply sa|apply sn|apply sd)|exact HB.out)) hb);clear hb hbox hg;obtain ⟨hcz12_0,hcz12_1,hcz12_2,hcz12_3,hcz12_4⟩:=cq5 BK209.out;obtain ⟨hfz12_0,hfz12_1,hfz12_2,hfz12_3,hfz12_4⟩:=fq5 BK209.out))
    go_ret
    exact ⟨by first|rfl|(simp [errW_none,errW_some] <;> rfl)|(simp [*,errW_none,errW_some] <;> rfl),by repeat (first|(with_reducible first|exact HB.out|apply sa|apply sn|apply sd|refine sx ?_ GE209.out)|exact HB.out)⟩

end Go.Proofs.Ytmdfcinjmlagcaa.P
