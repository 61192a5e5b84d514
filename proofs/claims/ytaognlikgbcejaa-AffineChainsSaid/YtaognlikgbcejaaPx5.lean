/- Printed by printx.py (wip/tool) out of the translation: plain functions that tell what the program answers,and the proofs that the program comes to these answers,for all arguments of their kinds. Lean checks it. -/
import Derived.Test.YtaognlikgbcejaaShort
import Derived.Test.YtaognlikgbcejaaPx0
namespace Go.Proofs.Ytaognlikgbcejaa.P
open Go.RowKit Go.Proofs.YtaognlikgbcejaaW.PrintWords Go.Proofs.YtaognlikgbcejaaW.PrintLast Go.Proofs.YtaognlikgbcejaaW.PrintMore
attribute [local go_sem] max2_int min2_int max_two min_two max_three min_three max_four min_four max_five min_five max_six min_six   -- for this text's walks alone
set_option linter.unusedVariables false
set_option linter.unusedSimpArgs false

/-! ### field_within: function 44 -/
def field_within.l0 : Nat → Int → Int → List Int → Int → Int → Option (Bool)
  | 0,_,_,_,_,_ => none
  | k + 1,x0,x1,x9,x10,x11 => if x11 < x10 then (if 0 ≤ x11 then (if x11 < (x9.length : Int) then (if (rd x9 x11) < x0 then (some false) else (if (rd x9 x11) > x1 then (some false) else (field_within.l0 k x0 x1 x9 x10 (wrap64 (x11 + 1))))) else (none)) else (none)) else (some true)
def field_within.f (k : Nat) (a0 : Int) (a1 : Int) (l2 : List Int) : Option (Bool):=field_within.l0 k a0 a1 l2 (l2.length : Int) 0
theorem field_within.mono_l : ∀ k,(∀ y0 y1 y2 y3 y4,LeO (field_within.l0 k y0 y1 y2 y3 y4) (field_within.l0 (k + 1) y0 y1 y2 y3 y4))
  | 0 => fun _ _ _ _ _ r h => by simp [field_within.l0] at h
  | k + 1 => by
    have ih0:=field_within.mono_l k
    · intro y0 y1 y2 y3 y4
      unfold field_within.l0
      repeat' first
      | (with_reducible exact ih0 _ _ _ _ _)
      | (with_reducible exact LeO.refl _)
      | (with_reducible exact LeO.none _)
      | (with_reducible refine LeO.ite ?_ ?_)
      | (with_reducible refine LeO.bind ?_ (fun _ => ?_))
      | exact ih0 _ _ _ _ _
      | exact LeO.none _
      | refine LeO.ite ?_ ?_
      | refine LeO.bind ?_ (fun _ => ?_)
theorem field_within.mono : ∀ a0 a1 a2 k,LeO (field_within.f k a0 a1 a2) (field_within.f (k + 1) a0 a1 a2):=by
  intro a0 a1 a2 k
  have ih0:=field_within.mono_l k
  unfold field_within.f
  repeat' first
      | (with_reducible exact ih0 _ _ _ _ _)
      | (with_reducible exact LeO.refl _)
      | (with_reducible exact LeO.none _)
      | (with_reducible refine LeO.ite ?_ ?_)
      | (with_reducible refine LeO.bind ?_ (fun _ => ?_))
      | exact ih0 _ _ _ _ _
      | exact LeO.none _
      | refine LeO.ite ?_ ?_
      | refine LeO.bind ?_ (fun _ => ?_)
set_option maxHeartbeats 8000000 in
set_option maxRecDepth 100000 in
theorem field_within.calls (k : Nat) (a0 : Int) (a1 : Int) (A2 : Option Addr) (c2 : Nat) (l2 : List Int) (r : Bool) (w : World) (hr2 : Kd.C (Kd.int .i64) w A2 l2.length l2) (hc2 : l2.length ≤ c2) (h : field_within.f k a0 a1 l2 = some r) :
    Calls Try.prog 44 #[.int .i64 a0,.int .i64 a1,.slice A2 l2.length c2] w fun e w' => e = .returned (.bool r) ∧ Drawn0 w w':=by
  have HR2:=am hr2;have HC2:=am hc2;clear hr2 hc2;have H : (field_within.l0 k a0 a1 l2 (l2.length : Int) 0) = some r:=h;clear h;have H':=am H;clear H
  go_enter Try.func44,Try.ntmps44
  go_wp2
  go_loopg [11] k (fun kq v11 w' => ∃ (x11_1 : Int),v11 = .int .i64 x11_1 ∧ Aside0 (field_within.l0 kq a0 a1 l2 (l2.length : Int) x11_1 = some r) ∧ Aside0 (kq ≤ k) ∧ Drawn0 w w')
  case atStart => exact ⟨(0),(by first|rfl|(simp;done)|(simp [*];done)),H',⟨Nat.le_refl _⟩,by repeat (first|exact Drawn0.refl _|apply Drawn0.step)⟩
  case round =>
    clear H'
    try clear c2
    try clear p2
    obtain ⟨x11_1,rfl,HA,HK1,⟨m1,rfl⟩⟩:=hrel
    cases gk with
    | zero => exact absurd HA.out (by simp [field_within.l0])
    | succ k1 =>
      have H:=HA.out;clear HA;simp only [field_within.l0] at H
      by_cases c4 : x11_1 < (l2.length : Int)
      · rw [if_pos c4] at H
        have c4b0 : decide (x11_1 < (l2.length : Int)) = true:=decide_eq_true c4;clear c4
        by_cases c5 : 0 ≤ x11_1
        · rw [if_pos c5] at H
          have c5b0 : decide (0 ≤ x11_1) = true:=decide_eq_true c5;clear c5
          by_cases c6 : x11_1 < (l2.length : Int)
          · rw [if_pos c6] at H
            have c6b0 : decide (x11_1 < (l2.length : Int)) = true:=decide_eq_true c6;clear c6
            by_cases c7 : (rd l2 x11_1) < a0
            · rw [if_pos c7] at H
              have c7b0 : decide ((rd l2 x11_1) < a0) = true:=decide_eq_true c7;clear c7;obtain rfl:=Option.some.inj H;have p101 : 0 ≤ (x11_1 : Int):=of_decide_eq_true (by first|(with_reducible assumption)|assumption);have q101 : x11_1 < (l2.length : Int):=of_decide_eq_true (by first|(with_reducible assumption)|assumption);obtain ⟨ad101,e101,hx101_0⟩:=Kd.at_int HR2.out x11_1 p101 q101
              cases e101
              replace p101:=eq_true p101;replace q101:=eq_true q101
              go_wp2
              go_ret
              exact ⟨by first|rfl|(simp;done)|(simp [*];done),by repeat (first|exact Drawn0.refl _|apply Drawn0.step)⟩
            · rw [if_neg c7] at H
              have c7b0 : decide ((rd l2 x11_1) < a0) = false:=decide_eq_false c7;clear c7
              by_cases c8 : (rd l2 x11_1) > a1
              · rw [if_pos c8] at H
                have c8b0 : decide (a1 < (rd l2 x11_1)) = true:=decide_eq_true c8;clear c8;obtain rfl:=Option.some.inj H;have p101 : 0 ≤ (x11_1 : Int):=of_decide_eq_true (by first|(with_reducible assumption)|assumption);have q101 : x11_1 < (l2.length : Int):=of_decide_eq_true (by first|(with_reducible assumption)|assumption);obtain ⟨ad101,e101,hx101_0⟩:=Kd.at_int HR2.out x11_1 p101 q101
                cases e101
                replace p101:=eq_true p101;replace q101:=eq_true q101
                go_wp2
                go_ret
                exact ⟨by first|rfl|(simp;done)|(simp [*];done),by repeat (first|exact Drawn0.refl _|apply Drawn0.step)⟩
              · rw [if_neg c8] at H
                have c8b0 : decide (a1 < (rd l2 x11_1)) = false:=decide_eq_false c8;clear c8;have H':=am H;clear H;have p101 : 0 ≤ (x11_1 : Int):=of_decide_eq_true (by first|(with_reducible assumption)|assumption);have q101 : x11_1 < (l2.length : Int):=of_decide_eq_true (by first|(with_reducible assumption)|assumption);obtain ⟨ad101,e101,hx101_0⟩:=Kd.at_int HR2.out x11_1 p101 q101
                cases e101
                replace p101:=eq_true p101;replace q101:=eq_true q101
                go_wp2
                go_roundg k1
                case measure => have:=HK1.out;omega
                case rel => exact ⟨(wrap64 (x11_1 + 1)),(by first|rfl|(simp;done)|(simp [*];done)),H',⟨by have:=HK1.out;omega⟩,by repeat (first|exact Drawn0.refl _|apply Drawn0.step)⟩
          · rw [if_neg c6] at H
            exact absurd H (by simp)
        · rw [if_neg c5] at H
          exact absurd H (by simp)
      · rw [if_neg c4] at H
        have c4b0 : decide (x11_1 < (l2.length : Int)) = false:=decide_eq_false c4;clear c4;obtain rfl:=Option.some.inj H
        go_wp2
        go_ret
        exact ⟨by first|rfl|(simp;done)|(simp [*];done),by repeat (first|exact Drawn0.refl _|apply Drawn0.step)⟩

/-! ### field_RightMatrix: function 31 -/
def field_RightMatrix.f (k : Nat) (a0_0 : Int) (a0_1 : Int) (a0_2 : Int) (a0_3 : Int) (a0_4 : Int) (a0_5 : Int) : Option (Bool):=(field_within.f k (-4194304) 4194304 (([a0_0,a0_1,a0_2,a0_3] : List Int))).bind fun t106 => (if t106 = true then ((field_within.f k (-1048576) 1048576 (([a0_4,a0_5] : List Int))).bind fun t110 => (some t110)) else (some false))
theorem field_RightMatrix.mono : ∀ a0 a1 a2 a3 a4 a5 k,LeO (field_RightMatrix.f k a0 a1 a2 a3 a4 a5) (field_RightMatrix.f (k + 1) a0 a1 a2 a3 a4 a5):=by
  intro a0 a1 a2 a3 a4 a5 k
  unfold field_RightMatrix.f
  repeat' first
      | (with_reducible exact field_within.mono _ _ _ _)
      | (with_reducible exact LeO.refl _)
      | (with_reducible exact LeO.none _)
      | (with_reducible refine LeO.ite ?_ ?_)
      | (with_reducible refine LeO.bind ?_ (fun _ => ?_))
      | exact field_within.mono _ _ _ _
      | exact LeO.none _
      | refine LeO.ite ?_ ?_
      | refine LeO.bind ?_ (fun _ => ?_)
set_option maxHeartbeats 8000000 in
set_option maxRecDepth 100000 in
theorem field_RightMatrix.calls (k : Nat) (a0_0 : Int) (a0_1 : Int) (a0_2 : Int) (a0_3 : Int) (a0_4 : Int) (a0_5 : Int) (r : Bool) (w : World) (h : field_RightMatrix.f k a0_0 a0_1 a0_2 a0_3 a0_4 a0_5 = some r) :
    Calls Try.prog 31 #[.agg #[.int .i64 a0_0,.int .i64 a0_1,.int .i64 a0_2,.int .i64 a0_3,.int .i64 a0_4,.int .i64 a0_5]] w fun e w' => e = .returned (.bool r) ∧ Below w.heap.size w w':=by
  have hu23:=Try.underlying23;have HB:=am (Below.refl w.heap.size w);have H : ((field_within.f k (-4194304) 4194304 (([a0_0,a0_1,a0_2,a0_3] : List Int))).bind fun t106 => (if t106 = true then ((field_within.f k (-1048576) 1048576 (([a0_4,a0_5] : List Int))).bind fun t110 => (some t110)) else (some false))) = some r:=h;clear h;obtain ⟨y103,hy103⟩ : ∃ y_ : List Int,y_ = (([a0_0,a0_1,a0_2,a0_3] : List Int)):=⟨_,rfl⟩
  replace H : ((field_within.f k (-4194304) 4194304 y103).bind fun t106 => (if t106 = true then ((field_within.f k (-1048576) 1048576 (([a0_4,a0_5] : List Int))).bind fun t110 => (some t110)) else (some false))) = some r:=by first|(rw [hy103];with_reducible exact H)|(have H2_:=(Option.bind_some _ _).symm.trans H;rw [hy103];with_reducible exact H2_)|(have H2_:=(Option.bind_some _ _).symm.trans H;with_reducible exact H2_)|with_reducible exact H|(rw [hy103];exact H)|exact H
  have Ny103:=am hy103;clear hy103;replace H:=Option.bind_eq_some_iff.mp H;obtain ⟨t106,A20,H⟩:=H;replace H : (if t106 = true then ((field_within.f k (-1048576) 1048576 (([a0_4,a0_5] : List Int))).bind fun t110 => (some t110)) else (some false)) = some r:=H;have A2:=am A20;clear A20
  by_cases c3 : t106 = true
  · subst c3
    have H1 : ((field_within.f k (-1048576) 1048576 (([a0_4,a0_5] : List Int))).bind fun t110 => (some t110)) = some r:=by rw [if_pos rfl] at H;exact H
    clear H;have H:=H1;clear H1;obtain ⟨y107,hy107⟩ : ∃ y_ : List Int,y_ = (([a0_4,a0_5] : List Int)):=⟨_,rfl⟩
    replace H : ((field_within.f k (-1048576) 1048576 y107).bind fun t110 => (some t110)) = some r:=by first|(rw [hy107];with_reducible exact H)|(have H2_:=(Option.bind_some _ _).symm.trans H;rw [hy107];with_reducible exact H2_)|(have H2_:=(Option.bind_some _ _).symm.trans H;with_reducible exact H2_)|with_reducible exact H|(rw [hy107];exact H)|exact H
    have Ny107:=am hy107;clear hy107;replace H:=Option.bind_eq_some_iff.mp H;obtain ⟨t110,A40,H⟩:=H;replace H : (some t110) = some r:=H;have A4:=am A40;clear A40;obtain rfl:=Option.some.inj H
    go_enter Try.func31,Try.ntmps31
    go_wp2_with (first|((with_reducible refine gate_dst (N:=1) rfl ?_);(try (refine gate_guard (by rfl) ?_;dsimp only));refine box_event ?hg (N:=1) ?hd (cs:=#[.int .i64 a0_0,.int .i64 a0_1,.int .i64 a0_2,.int .i64 a0_3,.int .i64 a0_4,.int .i64 a0_5]) (t:=23) ?hr ?_;(case hd => rfl);(case hg => rfl);(case hr => first|(go_simp;done)|(go_simp;rfl));intro gb102 hg w5 hbox hb;have BK102:=am (hbox);have GW102:=am ((by rw [hg];exact (sz (by repeat (first|(with_reducible first|exact HB.out|apply sa|apply sn|apply sd)|exact HB.out))) : w.heap.size ≤ gb102));have GE102:=am ((by rw [hg];exact (sz (by repeat (first|(with_reducible first|exact HB.out|apply sa|apply sn|apply sd)|exact HB.out))) : w.heap.size ≤ gb102));replace HB:=am (ss (by repeat (first|(with_reducible first|exact HB.out|apply sa|apply sn|apply sd)|exact HB.out)) hb);clear hb hbox hg;obtain ⟨hcz6_0,hcz6_1,hcz6_2,hcz6_3,hcz6_4,hcz6_5⟩:=cq6 BK102.out;obtain ⟨hfz6_0,hfz6_1,hfz6_2,hfz6_3,hfz6_4,hfz6_5⟩:=fq6 BK102.out)|((with_reducible refine gate_dst (N:=11) rfl ?_);(try (refine gate_guard (by rfl) ?_;dsimp only));refine Kd.R_lit (Kd.int .i64) _ 3 ?hg (N:=11) ?hd (xs:=([a0_0,a0_1,a0_2,a0_3] : List Int)) (inner:=[.int .i64 a0_0,.int .i64 a0_1,.int .i64 a0_2,.int .i64 a0_3]) (ok:=fun _ => True) (okp:=fun _ => True) ?hr ?hp (fun _ hk => hk) trivial (Below.refl _ _) (Nat.le_refl _) (by simp) ?_;(case hd => rfl);(case hg => rfl);(case hr => first|(go_simp;done)|(go_simp;rfl));(case hp => exact (Reps.one (show Kd.M (Kd.int .i64) _ _ _ a0_0 [.int .i64 a0_0] from rfl) (Reps.one (show Kd.M (Kd.int .i64) _ _ _ a0_1 [.int .i64 a0_1] from rfl) (Reps.one (show Kd.M (Kd.int .i64) _ _ _ a0_2 [.int .i64 a0_2] from rfl) (Reps.one (show Kd.M (Kd.int .i64) _ _ _ a0_3 [.int .i64 a0_3] from rfl) (Reps.none _ _))))));intro v104 w7 ho8 hb hg_ hnew_;clear hg_ hnew_;(first|rw [← Ny103.out] at ho8|(simp only [Int.reduceToNat] at ho8;rw [← Ny103.out] at ho8));have HO105:=am (Kd.R_lower ho8 (sz (by repeat (first|(with_reducible first|exact HB.out|apply sa|apply sn|apply sd|refine sx ?_ GE102.out)|exact HB.out))));replace BK102:=am (bw (by exact BK102.out) hb);replace HB:=am (ss (by repeat (first|(with_reducible first|exact HB.out|apply sa|apply sn|apply sd|refine sx ?_ GE102.out)|exact HB.out)) hb);clear hb ho8;obtain ⟨Ao9,co9,eo9⟩:=Kd.R_slice HO105.out;subst eo9)|((with_reducible refine gate_callee (f:=44) rfl ?_);refine goesL_ (some 12) rfl rfl Try.func44 (by kernel_rfl) rfl #[.int .i64 (-4194304),.int .i64 4194304,.slice Ao9 y103.length co9] rfl (by (try simp only [List.map_toArray,List.map_cons,List.map_nil]);first|done|rfl|(simp only [List.length_drop,List.length_take];rfl)) ?_;(with_reducible refine (field_within.calls k (-4194304) 4194304 _ _ y103 true _ ?side1 ?side2 A2.out).mono ?_);(case side1 => repeat (first|exact (Kd.R_reads' HO105.out).2.2|(with_reducible refine Kd.C_alloc ?_ _)|(with_reducible refine Kd.C_drewN ?_ _)|(with_reducible refine Kd.C_drew ?_)));(case side2 => exact (Kd.R_reads' HO105.out).2.1);rintro e w' ⟨rfl,⟨nd,rfl⟩⟩;refine ⟨_,rfl,?_⟩;obtain ⟨hcz10_0,hcz10_1,hcz10_2,hcz10_3,hcz10_4,hcz10_5⟩:=cq6 BK102.out;obtain ⟨hfz10_0,hfz10_1,hfz10_2,hfz10_3,hfz10_4,hfz10_5⟩:=fq6 BK102.out)|((with_reducible refine gate_dst (N:=18) rfl ?_);(try (refine gate_guard (by rfl) ?_;dsimp only));refine Kd.R_lit (Kd.int .i64) _ 3 ?hg (N:=18) ?hd (xs:=([a0_4,a0_5] : List Int)) (inner:=[.int .i64 a0_4,.int .i64 a0_5]) (ok:=fun _ => True) (okp:=fun _ => True) ?hr ?hp (fun _ hk => hk) trivial (Below.refl _ _) (Nat.le_refl _) (by simp) ?_;(case hd => rfl);(case hg => rfl);(case hr => first|(go_simp;done)|(go_simp;rfl));(case hp => exact (Reps.one (show Kd.M (Kd.int .i64) _ _ _ a0_4 [.int .i64 a0_4] from rfl) (Reps.one (show Kd.M (Kd.int .i64) _ _ _ a0_5 [.int .i64 a0_5] from rfl) (Reps.none _ _))));intro v108 w11 ho12 hb hg_ hnew_;clear hg_ hnew_;(first|rw [← Ny107.out] at ho12|(simp only [Int.reduceToNat] at ho12;rw [← Ny107.out] at ho12));have HO109:=am (Kd.R_lower (Kd.R_new' ho12 (Kd.R_lt (by (with_reducible repeat (first|apply Kd.R_alloc|apply Kd.R_drewN|apply Kd.R_drew));exact HO105.out))) (sz (by repeat (first|(with_reducible first|exact HB.out|apply sa|apply sn|apply sd|refine sx ?_ GE102.out)|exact HB.out))));replace HO105:=am (Kd.R_elder' (by (with_reducible repeat (first|apply Kd.R_alloc|apply Kd.R_drewN|apply Kd.R_drew));exact HO105.out) (Kd.R_base ho12) hb);replace BK102:=am (bw (by exact BK102.out) hb);replace HB:=am (ss (by repeat (first|(with_reducible first|exact HB.out|apply sa|apply sn|apply sd|refine sx ?_ GE102.out)|exact HB.out)) hb);clear hb ho12;obtain ⟨Ao13,co13,eo13⟩:=Kd.R_slice HO109.out;subst eo13)|(go_at_call 44;(with_reducible refine (field_within.calls k (-1048576) 1048576 _ _ y107 t110 _ ?side1 ?side2 A4.out).mono ?_);(case side1 => repeat (first|exact (Kd.R_reads' HO109.out).2.2|(with_reducible refine Kd.C_alloc ?_ _)|(with_reducible refine Kd.C_drewN ?_ _)|(with_reducible refine Kd.C_drew ?_)));(case side2 => exact (Kd.R_reads' HO109.out).2.1);rintro e w' ⟨rfl,⟨nd,rfl⟩⟩))
    go_ret
    exact ⟨by first|rfl|(simp [errW_none,errW_some] <;> rfl)|(simp [*,errW_none,errW_some] <;> rfl),by repeat (first|(with_reducible first|exact HB.out|apply sa|apply sn|apply sd|refine sx ?_ GE102.out)|exact HB.out)⟩
  · replace c3:=Bool.eq_false_iff.mpr c3
    subst c3
    have H1 : (some false) = some r:=by rw [if_neg (show ¬ (false = true) by decide)] at H;exact H
    clear H;have H:=H1;clear H1;obtain rfl:=Option.some.inj H
    go_enter Try.func31,Try.ntmps31
    go_wp2_with (first|((with_reducible refine gate_dst (N:=1) rfl ?_);(try (refine gate_guard (by rfl) ?_;dsimp only));refine box_event ?hg (N:=1) ?hd (cs:=#[.int .i64 a0_0,.int .i64 a0_1,.int .i64 a0_2,.int .i64 a0_3,.int .i64 a0_4,.int .i64 a0_5]) (t:=23) ?hr ?_;(case hd => rfl);(case hg => rfl);(case hr => first|(go_simp;done)|(go_simp;rfl));intro gb102 hg w14 hbox hb;have BK102:=am (hbox);have GW102:=am ((by rw [hg];exact (sz (by repeat (first|(with_reducible first|exact HB.out|apply sa|apply sn|apply sd)|exact HB.out))) : w.heap.size ≤ gb102));have GE102:=am ((by rw [hg];exact (sz (by repeat (first|(with_reducible first|exact HB.out|apply sa|apply sn|apply sd)|exact HB.out))) : w.heap.size ≤ gb102));replace HB:=am (ss (by repeat (first|(with_reducible first|exact HB.out|apply sa|apply sn|apply sd)|exact HB.out)) hb);clear hb hbox hg;obtain ⟨hcz15_0,hcz15_1,hcz15_2,hcz15_3,hcz15_4,hcz15_5⟩:=cq6 BK102.out;obtain ⟨hfz15_0,hfz15_1,hfz15_2,hfz15_3,hfz15_4,hfz15_5⟩:=fq6 BK102.out)|((with_reducible refine gate_dst (N:=11) rfl ?_);(try (refine gate_guard (by rfl) ?_;dsimp only));refine Kd.R_lit (Kd.int .i64) _ 3 ?hg (N:=11) ?hd (xs:=([a0_0,a0_1,a0_2,a0_3] : List Int)) (inner:=[.int .i64 a0_0,.int .i64 a0_1,.int .i64 a0_2,.int .i64 a0_3]) (ok:=fun _ => True) (okp:=fun _ => True) ?hr ?hp (fun _ hk => hk) trivial (Below.refl _ _) (Nat.le_refl _) (by simp) ?_;(case hd => rfl);(case hg => rfl);(case hr => first|(go_simp;done)|(go_simp;rfl));(case hp => exact (Reps.one (show Kd.M (Kd.int .i64) _ _ _ a0_0 [.int .i64 a0_0] from rfl) (Reps.one (show Kd.M (Kd.int .i64) _ _ _ a0_1 [.int .i64 a0_1] from rfl) (Reps.one (show Kd.M (Kd.int .i64) _ _ _ a0_2 [.int .i64 a0_2] from rfl) (Reps.one (show Kd.M (Kd.int .i64) _ _ _ a0_3 [.int .i64 a0_3] from rfl) (Reps.none _ _))))));intro v104 w16 ho17 hb hg_ hnew_;clear hg_ hnew_;(first|rw [← Ny103.out] at ho17|(simp only [Int.reduceToNat] at ho17;rw [← Ny103.out] at ho17));have HO105:=am (Kd.R_lower ho17 (sz (by repeat (first|(with_reducible first|exact HB.out|apply sa|apply sn|apply sd|refine sx ?_ GE102.out)|exact HB.out))));replace BK102:=am (bw (by exact BK102.out) hb);replace HB:=am (ss (by repeat (first|(with_reducible first|exact HB.out|apply sa|apply sn|apply sd|refine sx ?_ GE102.out)|exact HB.out)) hb);clear hb ho17;obtain ⟨Ao18,co18,eo18⟩:=Kd.R_slice HO105.out;subst eo18)|((with_reducible refine gate_callee (f:=44) rfl ?_);refine goesL_ (some 12) rfl rfl Try.func44 (by kernel_rfl) rfl #[.int .i64 (-4194304),.int .i64 4194304,.slice Ao18 y103.length co18] rfl (by (try simp only [List.map_toArray,List.map_cons,List.map_nil]);first|done|rfl|(simp only [List.length_drop,List.length_take];rfl)) ?_;(with_reducible refine (field_within.calls k (-4194304) 4194304 _ _ y103 false _ ?side1 ?side2 A2.out).mono ?_);(case side1 => repeat (first|exact (Kd.R_reads' HO105.out).2.2|(with_reducible refine Kd.C_alloc ?_ _)|(with_reducible refine Kd.C_drewN ?_ _)|(with_reducible refine Kd.C_drew ?_)));(case side2 => exact (Kd.R_reads' HO105.out).2.1);rintro e w' ⟨rfl,⟨nd,rfl⟩⟩;refine ⟨_,rfl,?_⟩))
    go_ret
    exact ⟨by first|rfl|(simp [errW_none,errW_some] <;> rfl)|(simp [*,errW_none,errW_some] <;> rfl),by repeat (first|(with_reducible first|exact HB.out|apply sa|apply sn|apply sd|refine sx ?_ GE102.out)|exact HB.out)⟩

/-! ### affine_within: function 32 -/
def affine_within.f (a0_0 : Int) (a0_1 : Int) (a1 : Int) : Option (Bool):=if a0_0 ≥ (wrap64 (-a1)) then (if a0_0 ≤ a1 then (if a0_1 ≥ (wrap64 (-a1)) then (some (decide (a0_1 ≤ a1))) else (some false)) else (some false)) else (some false)
set_option maxHeartbeats 8000000 in
set_option maxRecDepth 100000 in
theorem affine_within.calls (a0_0 : Int) (a0_1 : Int) (a1 : Int) (r : Bool) (w : World) (h : affine_within.f a0_0 a0_1 a1 = some r) :
    Calls Try.prog 32 #[.agg #[.int .i64 a0_0,.int .i64 a0_1],.int .i64 a1] w fun e w' => e = .returned (.bool r) ∧ Below w.heap.size w w':=by
  have hu25:=Try.underlying25;have HB:=am (Below.refl w.heap.size w);have H : (if a0_0 ≥ (wrap64 (-a1)) then (if a0_0 ≤ a1 then (if a0_1 ≥ (wrap64 (-a1)) then (some (decide (a0_1 ≤ a1))) else (some false)) else (some false)) else (some false)) = some r:=h;clear h
  by_cases c3 : a0_0 ≥ (wrap64 (-a1))
  · rw [if_pos c3] at H
    have c3b0 : decide ((wrap64 (-a1)) ≤ a0_0) = true:=decide_eq_true c3;clear c3
    by_cases c4 : a0_0 ≤ a1
    · rw [if_pos c4] at H
      have c4b0 : decide (a0_0 ≤ a1) = true:=decide_eq_true c4;clear c4
      by_cases c5 : a0_1 ≥ (wrap64 (-a1))
      · rw [if_pos c5] at H
        have c5b0 : decide ((wrap64 (-a1)) ≤ a0_1) = true:=decide_eq_true c5;clear c5;obtain rfl:=Option.some.inj H
        go_enter Try.func32,Try.ntmps32
        go_wp2_with (first|((with_reducible refine gate_dst (N:=2) rfl ?_);refine box_event ?hg (N:=2) ?hd (cs:=#[.int .i64 a0_0,.int .i64 a0_1]) (t:=25) ?hr ?_;(case hd => rfl);(case hg => rfl);(case hr => first|(go_simp;done)|(go_simp;rfl));intro gb111 hg w6 hbox hb;have BK111:=am (hbox);have GW111:=am ((by rw [hg];exact (sz (by repeat (first|(with_reducible first|exact HB.out|apply sa|apply sn|apply sd)|exact HB.out))) : w.heap.size ≤ gb111));have GE111:=am ((by rw [hg];exact (sz (by repeat (first|(with_reducible first|exact HB.out|apply sa|apply sn|apply sd)|exact HB.out))) : w.heap.size ≤ gb111));replace HB:=am (ss (by repeat (first|(with_reducible first|exact HB.out|apply sa|apply sn|apply sd)|exact HB.out)) hb);clear hb hbox hg;obtain ⟨hcz7_0,hcz7_1⟩:=cq2 BK111.out;obtain ⟨hfz7_0,hfz7_1⟩:=fq2 BK111.out))
        go_ret
        exact ⟨by first|rfl|(simp [errW_none,errW_some] <;> rfl)|(simp [*,errW_none,errW_some] <;> rfl),by repeat (first|(with_reducible first|exact HB.out|apply sa|apply sn|apply sd|refine sx ?_ GE111.out)|exact HB.out)⟩
      · rw [if_neg c5] at H
        have c5b0 : decide ((wrap64 (-a1)) ≤ a0_1) = false:=decide_eq_false c5;clear c5;obtain rfl:=Option.some.inj H
        go_enter Try.func32,Try.ntmps32
        go_wp2_with (first|((with_reducible refine gate_dst (N:=2) rfl ?_);refine box_event ?hg (N:=2) ?hd (cs:=#[.int .i64 a0_0,.int .i64 a0_1]) (t:=25) ?hr ?_;(case hd => rfl);(case hg => rfl);(case hr => first|(go_simp;done)|(go_simp;rfl));intro gb111 hg w8 hbox hb;have BK111:=am (hbox);have GW111:=am ((by rw [hg];exact (sz (by repeat (first|(with_reducible first|exact HB.out|apply sa|apply sn|apply sd)|exact HB.out))) : w.heap.size ≤ gb111));have GE111:=am ((by rw [hg];exact (sz (by repeat (first|(with_reducible first|exact HB.out|apply sa|apply sn|apply sd)|exact HB.out))) : w.heap.size ≤ gb111));replace HB:=am (ss (by repeat (first|(with_reducible first|exact HB.out|apply sa|apply sn|apply sd)|exact HB.out)) hb);clear hb hbox hg;obtain ⟨hcz9_0,hcz9_1⟩:=cq2 BK111.out;obtain ⟨hfz9_0,hfz9_1⟩:=fq2 BK111.out))
        go_ret
        exact ⟨by first|rfl|(simp [errW_none,errW_some] <;> rfl)|(simp [*,errW_none,errW_some] <;> rfl),by repeat (first|(with_reducible first|exact HB.out|apply sa|apply sn|apply sd|refine sx ?_ GE111.out)|exact HB.out)⟩
    · rw [if_neg c4] at H
      have c4b0 : decide (a0_0 ≤ a1) = false:=decide_eq_false c4;clear c4;obtain rfl:=Option.some.inj H
      go_enter Try.func32,Try.ntmps32
      go_wp2_with (first|((with_reducible refine gate_dst (N:=2) rfl ?_);refine box_event ?hg (N:=2) ?hd (cs:=#[.int .i64 a0_0,.int .i64 a0_1]) (t:=25) ?hr ?_;(case hd => rfl);(case hg => rfl);(case hr => first|(go_simp;done)|(go_simp;rfl));intro gb111 hg w10 hbox hb;have BK111:=am (hbox);have GW111:=am ((by rw [hg];exact (sz (by repeat (first|(with_reducible first|exact HB.out|apply sa|apply sn|apply sd)|exact HB.out))) : w.heap.size ≤ gb111));have GE111:=am ((by rw [hg];exact (sz (by repeat (first|(with_reducible first|exact HB.out|apply sa|apply sn|apply sd)|exact HB.out))) : w.heap.size ≤ gb111));replace HB:=am (ss (by repeat (first|(with_reducible first|exact HB.out|apply sa|apply sn|apply sd)|exact HB.out)) hb);clear hb hbox hg;obtain ⟨hcz11_0,hcz11_1⟩:=cq2 BK111.out;obtain ⟨hfz11_0,hfz11_1⟩:=fq2 BK111.out))
      go_ret
      exact ⟨by first|rfl|(simp [errW_none,errW_some] <;> rfl)|(simp [*,errW_none,errW_some] <;> rfl),by repeat (first|(with_reducible first|exact HB.out|apply sa|apply sn|apply sd|refine sx ?_ GE111.out)|exact HB.out)⟩
  · rw [if_neg c3] at H
    have c3b0 : decide ((wrap64 (-a1)) ≤ a0_0) = false:=decide_eq_false c3;clear c3;obtain rfl:=Option.some.inj H
    go_enter Try.func32,Try.ntmps32
    go_wp2_with (first|((with_reducible refine gate_dst (N:=2) rfl ?_);refine box_event ?hg (N:=2) ?hd (cs:=#[.int .i64 a0_0,.int .i64 a0_1]) (t:=25) ?hr ?_;(case hd => rfl);(case hg => rfl);(case hr => first|(go_simp;done)|(go_simp;rfl));intro gb111 hg w12 hbox hb;have BK111:=am (hbox);have GW111:=am ((by rw [hg];exact (sz (by repeat (first|(with_reducible first|exact HB.out|apply sa|apply sn|apply sd)|exact HB.out))) : w.heap.size ≤ gb111));have GE111:=am ((by rw [hg];exact (sz (by repeat (first|(with_reducible first|exact HB.out|apply sa|apply sn|apply sd)|exact HB.out))) : w.heap.size ≤ gb111));replace HB:=am (ss (by repeat (first|(with_reducible first|exact HB.out|apply sa|apply sn|apply sd)|exact HB.out)) hb);clear hb hbox hg;obtain ⟨hcz13_0,hcz13_1⟩:=cq2 BK111.out;obtain ⟨hfz13_0,hfz13_1⟩:=fq2 BK111.out))
    go_ret
    exact ⟨by first|rfl|(simp [errW_none,errW_some] <;> rfl)|(simp [*,errW_none,errW_some] <;> rfl),by repeat (first|(with_reducible first|exact HB.out|apply sa|apply sn|apply sd|refine sx ?_ GE111.out)|exact HB.out)⟩

/-! ### affine_Apply: function 10 -/
def affine_Apply.f (k : Nat) (a0_0 : Int) (a0_1 : Int) (a0_2 : Int) (a0_3 : Int) (a0_4 : Int) (a0_5 : Int) (a1_0 : Int) (a1_1 : Int) : Option (Int × Int × Int):=(field_RightMatrix.f k a0_0 a0_1 a0_2 a0_3 a0_4 a0_5).bind fun t115 => (if t115 = true then ((affine_within.f a1_0 a1_1 1073741824).bind fun t116 => (if t116 = true then (some (wrap64 ((wrap64 ((wrap64 (a0_0 * a1_0)) + (wrap64 (a0_2 * a1_1)))) + (wrap64 (a0_4 * 65536))),wrap64 ((wrap64 ((wrap64 (a0_1 * a1_0)) + (wrap64 (a0_3 * a1_1)))) + (wrap64 (a0_5 * 65536))),0)) else (some (0,0,1)))) else (some (0,0,1)))
theorem affine_Apply.mono : ∀ a0 a1 a2 a3 a4 a5 a6 a7 k,LeO (affine_Apply.f k a0 a1 a2 a3 a4 a5 a6 a7) (affine_Apply.f (k + 1) a0 a1 a2 a3 a4 a5 a6 a7):=by
  intro a0 a1 a2 a3 a4 a5 a6 a7 k
  unfold affine_Apply.f
  repeat' first
      | (with_reducible exact field_RightMatrix.mono _ _ _ _ _ _ _)
      | (with_reducible exact LeO.refl _)
      | (with_reducible exact LeO.none _)
      | (with_reducible refine LeO.ite ?_ ?_)
      | (with_reducible refine LeO.bind ?_ (fun _ => ?_))
      | exact field_RightMatrix.mono _ _ _ _ _ _ _
      | exact LeO.none _
      | refine LeO.ite ?_ ?_
      | refine LeO.bind ?_ (fun _ => ?_)
set_option maxHeartbeats 8000000 in
set_option maxRecDepth 100000 in
theorem affine_Apply.calls (k : Nat) (a0_0 : Int) (a0_1 : Int) (a0_2 : Int) (a0_3 : Int) (a0_4 : Int) (a0_5 : Int) (a1_0 : Int) (a1_1 : Int) (r1 : Int) (r2 : Int) (r3 : Int) (w : World) (h : affine_Apply.f k a0_0 a0_1 a0_2 a0_3 a0_4 a0_5 a1_0 a1_1 = some (r1,r2,r3)) :
    Calls Try.prog 10 #[.agg #[.int .i64 a0_0,.int .i64 a0_1,.int .i64 a0_2,.int .i64 a0_3,.int .i64 a0_4,.int .i64 a0_5],.agg #[.int .i64 a1_0,.int .i64 a1_1]] w fun e w' => e = .returned (.tuple #[.agg #[.int .i64 r1,.int .i64 r2],.int .i64 r3]) ∧ Below w.heap.size w w':=by
  have hu23:=Try.underlying23;have hu25:=Try.underlying25;have HB:=am (Below.refl w.heap.size w);have H : ((field_RightMatrix.f k a0_0 a0_1 a0_2 a0_3 a0_4 a0_5).bind fun t115 => (if t115 = true then ((affine_within.f a1_0 a1_1 1073741824).bind fun t116 => (if t116 = true then (some (wrap64 ((wrap64 ((wrap64 (a0_0 * a1_0)) + (wrap64 (a0_2 * a1_1)))) + (wrap64 (a0_4 * 65536))),wrap64 ((wrap64 ((wrap64 (a0_1 * a1_0)) + (wrap64 (a0_3 * a1_1)))) + (wrap64 (a0_5 * 65536))),0)) else (some (0,0,1)))) else (some (0,0,1)))) = some (r1,r2,r3):=h;clear h;replace H:=Option.bind_eq_some_iff.mp H;obtain ⟨t115,A30,H⟩:=H;replace H : (if t115 = true then ((affine_within.f a1_0 a1_1 1073741824).bind fun t116 => (if t116 = true then (some (wrap64 ((wrap64 ((wrap64 (a0_0 * a1_0)) + (wrap64 (a0_2 * a1_1)))) + (wrap64 (a0_4 * 65536))),wrap64 ((wrap64 ((wrap64 (a0_1 * a1_0)) + (wrap64 (a0_3 * a1_1)))) + (wrap64 (a0_5 * 65536))),0)) else (some (0,0,1)))) else (some (0,0,1))) = some (r1,r2,r3):=H;have A3:=am A30;clear A30
  by_cases c4 : t115 = true
  · subst c4
    have H1 : ((affine_within.f a1_0 a1_1 1073741824).bind fun t116 => (if t116 = true then (some (wrap64 ((wrap64 ((wrap64 (a0_0 * a1_0)) + (wrap64 (a0_2 * a1_1)))) + (wrap64 (a0_4 * 65536))),wrap64 ((wrap64 ((wrap64 (a0_1 * a1_0)) + (wrap64 (a0_3 * a1_1)))) + (wrap64 (a0_5 * 65536))),0)) else (some (0,0,1)))) = some (r1,r2,r3):=by rw [if_pos rfl] at H;exact H
    clear H;have H:=H1;clear H1;replace H:=Option.bind_eq_some_iff.mp H;obtain ⟨t116,A50,H⟩:=H;replace H : (if t116 = true then (some (wrap64 ((wrap64 ((wrap64 (a0_0 * a1_0)) + (wrap64 (a0_2 * a1_1)))) + (wrap64 (a0_4 * 65536))),wrap64 ((wrap64 ((wrap64 (a0_1 * a1_0)) + (wrap64 (a0_3 * a1_1)))) + (wrap64 (a0_5 * 65536))),0)) else (some (0,0,1))) = some (r1,r2,r3):=H;have A5:=am A50;clear A50
    by_cases c6 : t116 = true
    · subst c6
      have H1 : (some (wrap64 ((wrap64 ((wrap64 (a0_0 * a1_0)) + (wrap64 (a0_2 * a1_1)))) + (wrap64 (a0_4 * 65536))),wrap64 ((wrap64 ((wrap64 (a0_1 * a1_0)) + (wrap64 (a0_3 * a1_1)))) + (wrap64 (a0_5 * 65536))),0)) = some (r1,r2,r3):=by rw [if_pos rfl] at H;exact H
      clear H;have H:=H1;clear H1;simp only [Option.some.injEq,Prod.mk.injEq] at H;obtain ⟨rfl,rfl,rfl⟩:=H
      go_enter Try.func10,Try.ntmps10
      go_wp2_with (first|((with_reducible refine gate_dst (N:=2) rfl ?_);refine box_event ?hg (N:=2) ?hd (cs:=#[.int .i64 a0_0,.int .i64 a0_1,.int .i64 a0_2,.int .i64 a0_3,.int .i64 a0_4,.int .i64 a0_5]) (t:=23) ?hr ?_;(case hd => rfl);(case hg => rfl);(case hr => first|(go_simp;done)|(go_simp;rfl));intro gb112 hg w7 hbox hb;have BK112:=am (hbox);have GW112:=am ((by rw [hg];exact (sz (by repeat (first|(with_reducible first|exact HB.out|apply sa|apply sn|apply sd)|exact HB.out))) : w.heap.size ≤ gb112));have GE112:=am ((by rw [hg];exact (sz (by repeat (first|(with_reducible first|exact HB.out|apply sa|apply sn|apply sd)|exact HB.out))) : w.heap.size ≤ gb112));replace HB:=am (ss (by repeat (first|(with_reducible first|exact HB.out|apply sa|apply sn|apply sd)|exact HB.out)) hb);clear hb hbox hg)|((with_reducible refine gate_dst (N:=3) rfl ?_);refine box_event ?hg (N:=3) ?hd (cs:=#[.int .i64 a1_0,.int .i64 a1_1]) (t:=25) ?hr ?_;(case hd => rfl);(case hg => rfl);(case hr => first|(go_simp;done)|(go_simp;rfl));intro gb113 hg w8 hbox hb;have BK113:=am (hbox);obtain ⟨h1_,GW113⟩:=sg (by repeat (first|(with_reducible first|exact HB.out|apply sa|apply sn|apply sd|refine sx ?_ GE112.out)|exact HB.out)) hb hg;replace HB:=h1_;clear h1_;have GE113:=GW113;have NB112_113:=nb (by exact BK112.out) hg;have NB113_112:=ng (by exact BK112.out) hg;replace BK112:=am (bw (by exact BK112.out) hb);clear hb hbox hg)|((with_reducible refine gate_dst (N:=4) rfl ?_);refine box_event ?hg (N:=4) ?hd (cs:=#[.int .i64 0,.int .i64 0]) (t:=25) ?hr ?_;(case hd => rfl);(case hg => rfl);(case hr => first|(go_simp;done)|(go_simp;rfl));intro gb114 hg w9 hbox hb;have BK114:=am (hbox);obtain ⟨h1_,GW114⟩:=sg (by repeat (first|(with_reducible first|exact HB.out|apply sa|apply sn|apply sd|refine sy ?_ (by assumption))|exact HB.out)) hb hg;replace HB:=h1_;clear h1_;have GE114:=GW114;have NB112_114:=nb (by exact BK112.out) hg;replace BK112:=am (bw (by exact BK112.out) hb);have NB114_112:=am (Ne.symm NB112_114.out);have NB113_114:=nb (by exact BK113.out) hg;have NB114_113:=ng (by exact BK113.out) hg;replace BK113:=am (bw (by exact BK113.out) hb);clear hb hbox hg;have hnb10:=NB112_113.out;have hnc10:=NB113_112.out;have hnb11:=NB112_114.out;have hnc11:=NB114_112.out;obtain ⟨hcz12_0,hcz12_1,hcz12_2,hcz12_3,hcz12_4,hcz12_5⟩:=cq6 BK112.out;obtain ⟨hfz12_0,hfz12_1,hfz12_2,hfz12_3,hfz12_4,hfz12_5⟩:=fq6 BK112.out)|((with_reducible refine gate_callee (f:=31) rfl ?_);refine goesL_ (some 7) rfl rfl Try.func31 (by kernel_rfl) rfl #[.agg #[.int .i64 a0_0,.int .i64 a0_1,.int .i64 a0_2,.int .i64 a0_3,.int .i64 a0_4,.int .i64 a0_5]] rfl (by (try simp only [List.map_toArray,List.map_cons,List.map_nil]);first|done|rfl|(simp only [List.length_drop,List.length_take];rfl)) ?_;(with_reducible refine (field_RightMatrix.calls k a0_0 a0_1 a0_2 a0_3 a0_4 a0_5 true _ A3.out).mono ?_);rintro e w13 ⟨rfl,hb⟩;refine ⟨_,rfl,?_⟩;replace BK112:=am (bw (by exact BK112.out) hb);replace BK113:=am (bw (by exact BK113.out) hb);replace BK114:=am (bw (by exact BK114.out) hb);replace HB:=am (ss (by repeat (first|(with_reducible first|exact HB.out|apply sa|apply sn|apply sd|refine sy ?_ (by assumption))|exact HB.out)) hb);(try clear hb);(try clear hb2);(try clear hk);(try clear hi);have hnb14:=NB113_114.out;have hnc14:=NB114_113.out;obtain ⟨hcz15_0,hcz15_1⟩:=cq2 BK113.out;obtain ⟨hfz15_0,hfz15_1⟩:=fq2 BK113.out)|(go_at_call 32;(with_reducible refine (affine_within.calls a1_0 a1_1 1073741824 true _ A5.out).mono ?_);rintro e w16 ⟨rfl,hb⟩;replace BK112:=am (bw (by exact BK112.out) hb);replace BK113:=am (bw (by exact BK113.out) hb);replace BK114:=am (bw (by exact BK114.out) hb);replace HB:=am (ss (by repeat (first|(with_reducible first|exact HB.out|apply sa|apply sn|apply sd|refine sy ?_ (by assumption))|exact HB.out)) hb);(try clear hb);(try clear hb2);(try clear hk);(try clear hi);obtain ⟨hcz17_0,hcz17_1,hcz17_2,hcz17_3,hcz17_4,hcz17_5⟩:=cq6 BK112.out;obtain ⟨hfz17_0,hfz17_1,hfz17_2,hfz17_3,hfz17_4,hfz17_5⟩:=fq6 BK112.out;obtain ⟨hcz18_0,hcz18_1⟩:=cq2 BK113.out;obtain ⟨hfz18_0,hfz18_1⟩:=fq2 BK113.out;obtain ⟨hcz19_0,hcz19_1⟩:=cq2 BK114.out;obtain ⟨hfz19_0,hfz19_1⟩:=fq2 BK114.out))
      refine bodyPost_ret (results_ct rfl _ _ gb114 25 #[.int .i64 (wrap64 ((wrap64 ((wrap64 (a0_0 * a1_0)) + (wrap64 (a0_2 * a1_1)))) + (wrap64 (a0_4 * 65536)))),.int .i64 (wrap64 ((wrap64 ((wrap64 (a0_1 * a1_0)) + (wrap64 (a0_3 * a1_1)))) + (wrap64 (a0_5 * 65536))))] (0,0) _ rfl (by (with_reducible repeat (first|refine bn ?_ _|refine bd ?_|refine ba ?_ _));refine bp (cs:=#[.int .i64 (wrap64 ((wrap64 ((wrap64 (a0_0 * a1_0)) + (wrap64 (a0_2 * a1_1)))) + (wrap64 (a0_4 * 65536)))),.int .i64 0]) ?_ 1 _ rfl;(with_reducible repeat (first|refine bn ?_ _|refine bd ?_|refine ba ?_ _));refine bp (cs:=#[.int .i64 0,.int .i64 0]) ?_ 0 _ rfl;(with_reducible repeat (first|refine bn ?_ _|refine bd ?_|refine ba ?_ _));exact BK114.out) Try.underlying25 rfl (by kernel_rfl)) rfl ?_
      exact ⟨by first|rfl|(simp [errW_none,errW_some] <;> rfl)|(simp [*,errW_none,errW_some] <;> rfl),by repeat (first|(with_reducible first|exact HB.out|apply sa|apply sn|apply sd|refine sy ?_ (by assumption))|exact HB.out)⟩
    · replace c6:=Bool.eq_false_iff.mpr c6
      subst c6
      have H1 : (some (0,0,1)) = some (r1,r2,r3):=by rw [if_neg (show ¬ (false = true) by decide)] at H;exact H
      clear H;have H:=H1;clear H1;simp only [Option.some.injEq,Prod.mk.injEq] at H;obtain ⟨rfl,rfl,rfl⟩:=H
      go_enter Try.func10,Try.ntmps10
      go_wp2_with (first|((with_reducible refine gate_dst (N:=2) rfl ?_);refine box_event ?hg (N:=2) ?hd (cs:=#[.int .i64 a0_0,.int .i64 a0_1,.int .i64 a0_2,.int .i64 a0_3,.int .i64 a0_4,.int .i64 a0_5]) (t:=23) ?hr ?_;(case hd => rfl);(case hg => rfl);(case hr => first|(go_simp;done)|(go_simp;rfl));intro gb112 hg w20 hbox hb;have BK112:=am (hbox);have GW112:=am ((by rw [hg];exact (sz (by repeat (first|(with_reducible first|exact HB.out|apply sa|apply sn|apply sd)|exact HB.out))) : w.heap.size ≤ gb112));have GE112:=am ((by rw [hg];exact (sz (by repeat (first|(with_reducible first|exact HB.out|apply sa|apply sn|apply sd)|exact HB.out))) : w.heap.size ≤ gb112));replace HB:=am (ss (by repeat (first|(with_reducible first|exact HB.out|apply sa|apply sn|apply sd)|exact HB.out)) hb);clear hb hbox hg)|((with_reducible refine gate_dst (N:=3) rfl ?_);refine box_event ?hg (N:=3) ?hd (cs:=#[.int .i64 a1_0,.int .i64 a1_1]) (t:=25) ?hr ?_;(case hd => rfl);(case hg => rfl);(case hr => first|(go_simp;done)|(go_simp;rfl));intro gb113 hg w21 hbox hb;have BK113:=am (hbox);obtain ⟨h1_,GW113⟩:=sg (by repeat (first|(with_reducible first|exact HB.out|apply sa|apply sn|apply sd|refine sx ?_ GE112.out)|exact HB.out)) hb hg;replace HB:=h1_;clear h1_;have GE113:=GW113;have NB112_113:=nb (by exact BK112.out) hg;have NB113_112:=ng (by exact BK112.out) hg;replace BK112:=am (bw (by exact BK112.out) hb);clear hb hbox hg)|((with_reducible refine gate_dst (N:=4) rfl ?_);refine box_event ?hg (N:=4) ?hd (cs:=#[.int .i64 0,.int .i64 0]) (t:=25) ?hr ?_;(case hd => rfl);(case hg => rfl);(case hr => first|(go_simp;done)|(go_simp;rfl));intro gb114 hg w22 hbox hb;have BK114:=am (hbox);obtain ⟨h1_,GW114⟩:=sg (by repeat (first|(with_reducible first|exact HB.out|apply sa|apply sn|apply sd|refine sy ?_ (by assumption))|exact HB.out)) hb hg;replace HB:=h1_;clear h1_;have GE114:=GW114;have NB112_114:=nb (by exact BK112.out) hg;replace BK112:=am (bw (by exact BK112.out) hb);have NB114_112:=am (Ne.symm NB112_114.out);have NB113_114:=nb (by exact BK113.out) hg;have NB114_113:=ng (by exact BK113.out) hg;replace BK113:=am (bw (by exact BK113.out) hb);clear hb hbox hg;have hnb23:=NB112_113.out;have hnc23:=NB113_112.out;have hnb24:=NB112_114.out;have hnc24:=NB114_112.out;obtain ⟨hcz25_0,hcz25_1,hcz25_2,hcz25_3,hcz25_4,hcz25_5⟩:=cq6 BK112.out;obtain ⟨hfz25_0,hfz25_1,hfz25_2,hfz25_3,hfz25_4,hfz25_5⟩:=fq6 BK112.out)|((with_reducible refine gate_callee (f:=31) rfl ?_);refine goesL_ (some 7) rfl rfl Try.func31 (by kernel_rfl) rfl #[.agg #[.int .i64 a0_0,.int .i64 a0_1,.int .i64 a0_2,.int .i64 a0_3,.int .i64 a0_4,.int .i64 a0_5]] rfl (by (try simp only [List.map_toArray,List.map_cons,List.map_nil]);first|done|rfl|(simp only [List.length_drop,List.length_take];rfl)) ?_;(with_reducible refine (field_RightMatrix.calls k a0_0 a0_1 a0_2 a0_3 a0_4 a0_5 true _ A3.out).mono ?_);rintro e w26 ⟨rfl,hb⟩;refine ⟨_,rfl,?_⟩;replace BK112:=am (bw (by exact BK112.out) hb);replace BK113:=am (bw (by exact BK113.out) hb);replace BK114:=am (bw (by exact BK114.out) hb);replace HB:=am (ss (by repeat (first|(with_reducible first|exact HB.out|apply sa|apply sn|apply sd|refine sy ?_ (by assumption))|exact HB.out)) hb);(try clear hb);(try clear hb2);(try clear hk);(try clear hi);have hnb27:=NB113_114.out;have hnc27:=NB114_113.out;obtain ⟨hcz28_0,hcz28_1⟩:=cq2 BK113.out;obtain ⟨hfz28_0,hfz28_1⟩:=fq2 BK113.out)|(go_at_call 32;(with_reducible refine (affine_within.calls a1_0 a1_1 1073741824 false _ A5.out).mono ?_);rintro e w29 ⟨rfl,hb⟩;replace BK112:=am (bw (by exact BK112.out) hb);replace BK113:=am (bw (by exact BK113.out) hb);replace BK114:=am (bw (by exact BK114.out) hb);replace HB:=am (ss (by repeat (first|(with_reducible first|exact HB.out|apply sa|apply sn|apply sd|refine sy ?_ (by assumption))|exact HB.out)) hb);(try clear hb);(try clear hb2);(try clear hk);(try clear hi);obtain ⟨hcz30_0,hcz30_1⟩:=cq2 BK114.out;obtain ⟨hfz30_0,hfz30_1⟩:=fq2 BK114.out))
      refine bodyPost_ret (results_ct rfl _ _ gb114 25 #[.int .i64 0,.int .i64 0] (0,0) _ rfl (by (with_reducible repeat (first|refine bn ?_ _|refine bd ?_|refine ba ?_ _));refine bp (cs:=#[.int .i64 0,.int .i64 0]) ?_ 1 _ rfl;(with_reducible repeat (first|refine bn ?_ _|refine bd ?_|refine ba ?_ _));refine bp (cs:=#[.int .i64 0,.int .i64 0]) ?_ 0 _ rfl;(with_reducible repeat (first|refine bn ?_ _|refine bd ?_|refine ba ?_ _));exact BK114.out) Try.underlying25 rfl (by kernel_rfl)) rfl ?_
      exact ⟨by first|rfl|(simp [errW_none,errW_some] <;> rfl)|(simp [*,errW_none,errW_some] <;> rfl),by repeat (first|(with_reducible first|exact HB.out|apply sa|apply sn|apply sd|refine sy ?_ (by assumption))|exact HB.out)⟩
  · replace c4:=Bool.eq_false_iff.mpr c4
    subst c4
    have H1 : (some (0,0,1)) = some (r1,r2,r3):=by rw [if_neg (show ¬ (false = true) by decide)] at H;exact H
    clear H;have H:=H1;clear H1;simp only [Option.some.injEq,Prod.mk.injEq] at H;obtain ⟨rfl,rfl,rfl⟩:=H
    go_enter Try.func10,Try.ntmps10
    go_wp2_with (first|((with_reducible refine gate_dst (N:=2) rfl ?_);refine box_event ?hg (N:=2) ?hd (cs:=#[.int .i64 a0_0,.int .i64 a0_1,.int .i64 a0_2,.int .i64 a0_3,.int .i64 a0_4,.int .i64 a0_5]) (t:=23) ?hr ?_;(case hd => rfl);(case hg => rfl);(case hr => first|(go_simp;done)|(go_simp;rfl));intro gb112 hg w31 hbox hb;have BK112:=am (hbox);have GW112:=am ((by rw [hg];exact (sz (by repeat (first|(with_reducible first|exact HB.out|apply sa|apply sn|apply sd)|exact HB.out))) : w.heap.size ≤ gb112));have GE112:=am ((by rw [hg];exact (sz (by repeat (first|(with_reducible first|exact HB.out|apply sa|apply sn|apply sd)|exact HB.out))) : w.heap.size ≤ gb112));replace HB:=am (ss (by repeat (first|(with_reducible first|exact HB.out|apply sa|apply sn|apply sd)|exact HB.out)) hb);clear hb hbox hg)|((with_reducible refine gate_dst (N:=3) rfl ?_);refine box_event ?hg (N:=3) ?hd (cs:=#[.int .i64 a1_0,.int .i64 a1_1]) (t:=25) ?hr ?_;(case hd => rfl);(case hg => rfl);(case hr => first|(go_simp;done)|(go_simp;rfl));intro gb113 hg w32 hbox hb;have BK113:=am (hbox);obtain ⟨h1_,GW113⟩:=sg (by repeat (first|(with_reducible first|exact HB.out|apply sa|apply sn|apply sd|refine sx ?_ GE112.out)|exact HB.out)) hb hg;replace HB:=h1_;clear h1_;have GE113:=GW113;have NB112_113:=nb (by exact BK112.out) hg;have NB113_112:=ng (by exact BK112.out) hg;replace BK112:=am (bw (by exact BK112.out) hb);clear hb hbox hg)|((with_reducible refine gate_dst (N:=4) rfl ?_);refine box_event ?hg (N:=4) ?hd (cs:=#[.int .i64 0,.int .i64 0]) (t:=25) ?hr ?_;(case hd => rfl);(case hg => rfl);(case hr => first|(go_simp;done)|(go_simp;rfl));intro gb114 hg w33 hbox hb;have BK114:=am (hbox);obtain ⟨h1_,GW114⟩:=sg (by repeat (first|(with_reducible first|exact HB.out|apply sa|apply sn|apply sd|refine sy ?_ (by assumption))|exact HB.out)) hb hg;replace HB:=h1_;clear h1_;have GE114:=GW114;have NB112_114:=nb (by exact BK112.out) hg;replace BK112:=am (bw (by exact BK112.out) hb);have NB114_112:=am (Ne.symm NB112_114.out);have NB113_114:=nb (by exact BK113.out) hg;have NB114_113:=ng (by exact BK113.out) hg;replace BK113:=am (bw (by exact BK113.out) hb);clear hb hbox hg;have hnb34:=NB112_113.out;have hnc34:=NB113_112.out;have hnb35:=NB112_114.out;have hnc35:=NB114_112.out;obtain ⟨hcz36_0,hcz36_1,hcz36_2,hcz36_3,hcz36_4,hcz36_5⟩:=cq6 BK112.out;obtain ⟨hfz36_0,hfz36_1,hfz36_2,hfz36_3,hfz36_4,hfz36_5⟩:=fq6 BK112.out)|((with_reducible refine gate_callee (f:=31) rfl ?_);refine goesL_ (some 7) rfl rfl Try.func31 (by kernel_rfl) rfl #[.agg #[.int .i64 a0_0,.int .i64 a0_1,.int .i64 a0_2,.int .i64 a0_3,.int .i64 a0_4,.int .i64 a0_5]] rfl (by (try simp only [List.map_toArray,List.map_cons,List.map_nil]);first|done|rfl|(simp only [List.length_drop,List.length_take];rfl)) ?_;(with_reducible refine (field_RightMatrix.calls k a0_0 a0_1 a0_2 a0_3 a0_4 a0_5 false _ A3.out).mono ?_);rintro e w37 ⟨rfl,hb⟩;refine ⟨_,rfl,?_⟩;replace BK112:=am (bw (by exact BK112.out) hb);replace BK113:=am (bw (by exact BK113.out) hb);replace BK114:=am (bw (by exact BK114.out) hb);replace HB:=am (ss (by repeat (first|(with_reducible first|exact HB.out|apply sa|apply sn|apply sd|refine sy ?_ (by assumption))|exact HB.out)) hb);(try clear hb);(try clear hb2);(try clear hk);(try clear hi);have hnb38:=NB114_113.out;have hnc38:=NB113_114.out;obtain ⟨hcz39_0,hcz39_1⟩:=cq2 BK114.out;obtain ⟨hfz39_0,hfz39_1⟩:=fq2 BK114.out))
    refine bodyPost_ret (results_ct rfl _ _ gb114 25 #[.int .i64 0,.int .i64 0] (0,0) _ rfl (by (with_reducible repeat (first|refine bn ?_ _|refine bd ?_|refine ba ?_ _));refine bp (cs:=#[.int .i64 0,.int .i64 0]) ?_ 1 _ rfl;(with_reducible repeat (first|refine bn ?_ _|refine bd ?_|refine ba ?_ _));refine bp (cs:=#[.int .i64 0,.int .i64 0]) ?_ 0 _ rfl;(with_reducible repeat (first|refine bn ?_ _|refine bd ?_|refine ba ?_ _));exact BK114.out) Try.underlying25 rfl (by kernel_rfl)) rfl ?_
    exact ⟨by first|rfl|(simp [errW_none,errW_some] <;> rfl)|(simp [*,errW_none,errW_some] <;> rfl),by repeat (first|(with_reducible first|exact HB.out|apply sa|apply sn|apply sd|refine sy ?_ (by assumption))|exact HB.out)⟩

/-! ### fix_size: function 48 -/
def fix_size.f (a0 : Int) : Option (Int):=if a0 < 0 then (some (IntKind.u64.wrap (-(IntKind.u64.wrap (a0))))) else (some (IntKind.u64.wrap (a0)))
set_option maxHeartbeats 8000000 in
set_option maxRecDepth 100000 in
theorem fix_size.calls (a0 : Int) (r : Int) (w : World) (h : fix_size.f a0 = some r) :
    Calls Try.prog 48 #[.int .i64 a0] w fun e w' => e = .returned (.int .u64 r) ∧ Drawn0 w w':=by
  have H : (if a0 < 0 then (some (IntKind.u64.wrap (-(IntKind.u64.wrap (a0))))) else (some (IntKind.u64.wrap (a0)))) = some r:=h;clear h
  by_cases c2 : a0 < 0
  · rw [if_pos c2] at H
    have c2b0 : decide (a0 < 0) = true:=decide_eq_true c2;clear c2;obtain rfl:=Option.some.inj H
    go_enter Try.func48,Try.ntmps48
    go_wp2
    go_ret
    exact ⟨by first|rfl|(simp;done)|(simp [*];done),by repeat (first|exact Drawn0.refl _|apply Drawn0.step)⟩
  · rw [if_neg c2] at H
    have c2b0 : decide (a0 < 0) = false:=decide_eq_false c2;clear c2;obtain rfl:=Option.some.inj H
    go_enter Try.func48,Try.ntmps48
    go_wp2
    go_ret
    exact ⟨by first|rfl|(simp;done)|(simp [*];done),by repeat (first|exact Drawn0.refl _|apply Drawn0.step)⟩

/-! ### bits_Mul64: function 56 -/
def bits_Mul64.f (a0 : Int) (a1 : Int) : Option (Int × Int):=if 0 ≤ a0 ∧ a0 ≤ 18446744073709551615 ∧ 0 ≤ a1 ∧ a1 ≤ 18446744073709551615 then some (a0 * a1 / 18446744073709551616,a0 * a1 % 18446744073709551616) else none
theorem bits_Mul64.calls (a0 : Int) (a1 : Int) (r1 : Int) (r2 : Int) (w : World) (h : bits_Mul64.f a0 a1 = some (r1,r2)) :
    Calls Try.prog 56 #[.int .u64 a0,.int .u64 a1] w fun e w' => e = .returned (.tuple #[.int .u64 r1,.int .u64 r2]) ∧ Drawn0 w w':=by
  unfold bits_Mul64.f at h
  split at h
  · rename_i hb
    simp only [Option.some.injEq,Prod.mk.injEq] at h;obtain ⟨rfl,rfl⟩:=h;obtain ⟨x,rfl⟩:=Int.eq_ofNat_of_zero_le hb.1;obtain ⟨y,rfl⟩:=Int.eq_ofNat_of_zero_le hb.2.2.1;refine (Try.bits_Mul64 x y (by omega) (by omega) w).mono ?_
    rintro e w' ⟨rfl,rfl⟩
    exact ⟨by simp,Drawn0.refl _⟩
  · cases h

/-! ### fix_times: function 50 -/
def fix_times.f (a0 : Int) (a1 : Int) : Option (Int × Int):=(bits_Mul64.f (IntKind.u64.wrap (a0)) (IntKind.u64.wrap (a1))).bind fun bt118 => (if a0 < 0 then (if a1 < 0 then (some (wrap64 (IntKind.u64.wrap ((IntKind.u64.wrap (bt118.1 - (IntKind.u64.wrap (a1)))) - (IntKind.u64.wrap (a0)))),bt118.2)) else (some (wrap64 (IntKind.u64.wrap (bt118.1 - (IntKind.u64.wrap (a1)))),bt118.2))) else (if a1 < 0 then (some (wrap64 (IntKind.u64.wrap (bt118.1 - (IntKind.u64.wrap (a0)))),bt118.2)) else (some (wrap64 (bt118.1),bt118.2))))
set_option maxHeartbeats 8000000 in
set_option maxRecDepth 100000 in
theorem fix_times.calls (a0 : Int) (a1 : Int) (r1 : Int) (r2 : Int) (w : World) (h : fix_times.f a0 a1 = some (r1,r2)) :
    Calls Try.prog 50 #[.int .i64 a0,.int .i64 a1] w fun e w' => e = .returned (.agg #[.int .i64 r1,.int .u64 r2]) ∧ Below w.heap.size w w':=by
  have hu75:=Try.underlying75;have HB:=am (Below.refl w.heap.size w);have H : ((bits_Mul64.f (IntKind.u64.wrap (a0)) (IntKind.u64.wrap (a1))).bind fun bt118 => (if a0 < 0 then (if a1 < 0 then (some (wrap64 (IntKind.u64.wrap ((IntKind.u64.wrap (bt118.1 - (IntKind.u64.wrap (a1)))) - (IntKind.u64.wrap (a0)))),bt118.2)) else (some (wrap64 (IntKind.u64.wrap (bt118.1 - (IntKind.u64.wrap (a1)))),bt118.2))) else (if a1 < 0 then (some (wrap64 (IntKind.u64.wrap (bt118.1 - (IntKind.u64.wrap (a0)))),bt118.2)) else (some (wrap64 (bt118.1),bt118.2))))) = some (r1,r2):=h;clear h;replace H:=Option.bind_eq_some_iff.mp H;obtain ⟨⟨t118,t119⟩,A30,H⟩:=H;replace H : (if a0 < 0 then (if a1 < 0 then (some (wrap64 (IntKind.u64.wrap ((IntKind.u64.wrap (t118 - (IntKind.u64.wrap (a1)))) - (IntKind.u64.wrap (a0)))),t119)) else (some (wrap64 (IntKind.u64.wrap (t118 - (IntKind.u64.wrap (a1)))),t119))) else (if a1 < 0 then (some (wrap64 (IntKind.u64.wrap (t118 - (IntKind.u64.wrap (a0)))),t119)) else (some (wrap64 (t118),t119)))) = some (r1,r2):=H;have A3:=am A30;clear A30
  by_cases c4 : a0 < 0
  · rw [if_pos c4] at H
    have c4b0 : decide (a0 < 0) = true:=decide_eq_true c4;clear c4
    by_cases c5 : a1 < 0
    · rw [if_pos c5] at H
      have c5b0 : decide (a1 < 0) = true:=decide_eq_true c5;clear c5;simp only [Option.some.injEq,Prod.mk.injEq] at H;obtain ⟨rfl,rfl⟩:=H
      go_enter Try.func50,Try.ntmps50
      go_wp2_with (first|((with_reducible refine gate_dst (N:=4) rfl ?_);refine box_event ?hg (N:=4) ?hd (cs:=#[.int .i64 0,.int .u64 0]) (t:=75) ?hr ?_;(case hd => rfl);(case hg => rfl);(case hr => first|(go_simp;done)|(go_simp;rfl));intro gb117 hg w6 hbox hb;have BK117:=am (hbox);have GW117:=am ((by rw [hg];exact (sz (by repeat (first|(with_reducible first|exact HB.out|apply sa|apply sn|apply sd)|exact HB.out))) : w.heap.size ≤ gb117));have GE117:=am ((by rw [hg];exact (sz (by repeat (first|(with_reducible first|exact HB.out|apply sa|apply sn|apply sd)|exact HB.out))) : w.heap.size ≤ gb117));replace HB:=am (ss (by repeat (first|(with_reducible first|exact HB.out|apply sa|apply sn|apply sd)|exact HB.out)) hb);clear hb hbox hg)|((with_reducible refine gate_callee (f:=56) rfl ?_);refine goesL_ (some 12) rfl rfl Try.func56 (by kernel_rfl) rfl #[.int .u64 (IntKind.u64.wrap (a0)),.int .u64 (IntKind.u64.wrap (a1))] rfl (by (try simp only [List.map_toArray,List.map_cons,List.map_nil]);first|done|rfl|(simp only [List.length_drop,List.length_take];rfl)) ?_;(with_reducible refine (bits_Mul64.calls (IntKind.u64.wrap (a0)) (IntKind.u64.wrap (a1)) t118 t119 _ A3.out).mono ?_);rintro e w' ⟨rfl,⟨nd,rfl⟩⟩;refine ⟨_,rfl,?_⟩;(try (rw [drewN_self w6];generalize hq_ : World.drewN w6 _ = w6;have n0_ : Aside0 (w6.heap[gb117]? = some (.cells #[.int .i64 0,.int .u64 0] 75 (0,0))):=⟨by rw [← hq_];exact (by exact BK117.out)⟩;have n1_ : Aside0 (Below w.heap.size w w6):=⟨by rw [← hq_];exact (by repeat (first|(with_reducible first|exact HB.out|apply sa|apply sn|apply sd|refine sx ?_ GE117.out)|exact HB.out))⟩;clear BK117 HB hq_;have BK117:=n0_;have HB:=n1_;clear n0_ n1_));obtain ⟨hcz7_0,hcz7_1⟩:=cq2 BK117.out;obtain ⟨hfz7_0,hfz7_1⟩:=fq2 BK117.out))
      refine bodyPost_ret (results_cell_row rfl _ _ gb117 75 #[.int .i64 (wrap64 (IntKind.u64.wrap ((IntKind.u64.wrap (t118 - (IntKind.u64.wrap (a1)))) - (IntKind.u64.wrap (a0))))),.int .u64 t119] (0,0) _ rfl (by (with_reducible repeat (first|refine bn ?_ _|refine bd ?_|refine ba ?_ _));refine bp (cs:=#[.int .i64 (wrap64 (IntKind.u64.wrap ((IntKind.u64.wrap (t118 - (IntKind.u64.wrap (a1)))) - (IntKind.u64.wrap (a0))))),.int .u64 0]) ?_ 1 _ rfl;(with_reducible repeat (first|refine bn ?_ _|refine bd ?_|refine ba ?_ _));refine bp (cs:=#[.int .i64 0,.int .u64 0]) ?_ 0 _ rfl;(with_reducible repeat (first|refine bn ?_ _|refine bd ?_|refine ba ?_ _));exact BK117.out) Try.underlying75 rfl (by kernel_rfl)) rfl ?_
      exact ⟨by first|rfl|(simp [errW_none,errW_some] <;> rfl)|(simp [*,errW_none,errW_some] <;> rfl),by repeat (first|(with_reducible first|exact HB.out|apply sa|apply sn|apply sd|refine sx ?_ GE117.out)|exact HB.out)⟩
    · rw [if_neg c5] at H
      have c5b0 : decide (a1 < 0) = false:=decide_eq_false c5;clear c5;simp only [Option.some.injEq,Prod.mk.injEq] at H;obtain ⟨rfl,rfl⟩:=H
      go_enter Try.func50,Try.ntmps50
      go_wp2_with (first|((with_reducible refine gate_dst (N:=4) rfl ?_);refine box_event ?hg (N:=4) ?hd (cs:=#[.int .i64 0,.int .u64 0]) (t:=75) ?hr ?_;(case hd => rfl);(case hg => rfl);(case hr => first|(go_simp;done)|(go_simp;rfl));intro gb117 hg w8 hbox hb;have BK117:=am (hbox);have GW117:=am ((by rw [hg];exact (sz (by repeat (first|(with_reducible first|exact HB.out|apply sa|apply sn|apply sd)|exact HB.out))) : w.heap.size ≤ gb117));have GE117:=am ((by rw [hg];exact (sz (by repeat (first|(with_reducible first|exact HB.out|apply sa|apply sn|apply sd)|exact HB.out))) : w.heap.size ≤ gb117));replace HB:=am (ss (by repeat (first|(with_reducible first|exact HB.out|apply sa|apply sn|apply sd)|exact HB.out)) hb);clear hb hbox hg)|((with_reducible refine gate_callee (f:=56) rfl ?_);refine goesL_ (some 12) rfl rfl Try.func56 (by kernel_rfl) rfl #[.int .u64 (IntKind.u64.wrap (a0)),.int .u64 (IntKind.u64.wrap (a1))] rfl (by (try simp only [List.map_toArray,List.map_cons,List.map_nil]);first|done|rfl|(simp only [List.length_drop,List.length_take];rfl)) ?_;(with_reducible refine (bits_Mul64.calls (IntKind.u64.wrap (a0)) (IntKind.u64.wrap (a1)) t118 t119 _ A3.out).mono ?_);rintro e w' ⟨rfl,⟨nd,rfl⟩⟩;refine ⟨_,rfl,?_⟩;(try (rw [drewN_self w8];generalize hq_ : World.drewN w8 _ = w8;have n0_ : Aside0 (w8.heap[gb117]? = some (.cells #[.int .i64 0,.int .u64 0] 75 (0,0))):=⟨by rw [← hq_];exact (by exact BK117.out)⟩;have n1_ : Aside0 (Below w.heap.size w w8):=⟨by rw [← hq_];exact (by repeat (first|(with_reducible first|exact HB.out|apply sa|apply sn|apply sd|refine sx ?_ GE117.out)|exact HB.out))⟩;clear BK117 HB hq_;have BK117:=n0_;have HB:=n1_;clear n0_ n1_));obtain ⟨hcz9_0,hcz9_1⟩:=cq2 BK117.out;obtain ⟨hfz9_0,hfz9_1⟩:=fq2 BK117.out))
      refine bodyPost_ret (results_cell_row rfl _ _ gb117 75 #[.int .i64 (wrap64 (IntKind.u64.wrap (t118 - (IntKind.u64.wrap (a1))))),.int .u64 t119] (0,0) _ rfl (by (with_reducible repeat (first|refine bn ?_ _|refine bd ?_|refine ba ?_ _));refine bp (cs:=#[.int .i64 (wrap64 (IntKind.u64.wrap (t118 - (IntKind.u64.wrap (a1))))),.int .u64 0]) ?_ 1 _ rfl;(with_reducible repeat (first|refine bn ?_ _|refine bd ?_|refine ba ?_ _));refine bp (cs:=#[.int .i64 0,.int .u64 0]) ?_ 0 _ rfl;(with_reducible repeat (first|refine bn ?_ _|refine bd ?_|refine ba ?_ _));exact BK117.out) Try.underlying75 rfl (by kernel_rfl)) rfl ?_
      exact ⟨by first|rfl|(simp [errW_none,errW_some] <;> rfl)|(simp [*,errW_none,errW_some] <;> rfl),by repeat (first|(with_reducible first|exact HB.out|apply sa|apply sn|apply sd|refine sx ?_ GE117.out)|exact HB.out)⟩
  · rw [if_neg c4] at H
    have c4b0 : decide (a0 < 0) = false:=decide_eq_false c4;clear c4
    by_cases c10 : a1 < 0
    · rw [if_pos c10] at H
      have c10b0 : decide (a1 < 0) = true:=decide_eq_true c10;clear c10;simp only [Option.some.injEq,Prod.mk.injEq] at H;obtain ⟨rfl,rfl⟩:=H
      go_enter Try.func50,Try.ntmps50
      go_wp2_with (first|((with_reducible refine gate_dst (N:=4) rfl ?_);refine box_event ?hg (N:=4) ?hd (cs:=#[.int .i64 0,.int .u64 0]) (t:=75) ?hr ?_;(case hd => rfl);(case hg => rfl);(case hr => first|(go_simp;done)|(go_simp;rfl));intro gb117 hg w11 hbox hb;have BK117:=am (hbox);have GW117:=am ((by rw [hg];exact (sz (by repeat (first|(with_reducible first|exact HB.out|apply sa|apply sn|apply sd)|exact HB.out))) : w.heap.size ≤ gb117));have GE117:=am ((by rw [hg];exact (sz (by repeat (first|(with_reducible first|exact HB.out|apply sa|apply sn|apply sd)|exact HB.out))) : w.heap.size ≤ gb117));replace HB:=am (ss (by repeat (first|(with_reducible first|exact HB.out|apply sa|apply sn|apply sd)|exact HB.out)) hb);clear hb hbox hg)|((with_reducible refine gate_callee (f:=56) rfl ?_);refine goesL_ (some 12) rfl rfl Try.func56 (by kernel_rfl) rfl #[.int .u64 (IntKind.u64.wrap (a0)),.int .u64 (IntKind.u64.wrap (a1))] rfl (by (try simp only [List.map_toArray,List.map_cons,List.map_nil]);first|done|rfl|(simp only [List.length_drop,List.length_take];rfl)) ?_;(with_reducible refine (bits_Mul64.calls (IntKind.u64.wrap (a0)) (IntKind.u64.wrap (a1)) t118 t119 _ A3.out).mono ?_);rintro e w' ⟨rfl,⟨nd,rfl⟩⟩;refine ⟨_,rfl,?_⟩;(try (rw [drewN_self w11];generalize hq_ : World.drewN w11 _ = w11;have n0_ : Aside0 (w11.heap[gb117]? = some (.cells #[.int .i64 0,.int .u64 0] 75 (0,0))):=⟨by rw [← hq_];exact (by exact BK117.out)⟩;have n1_ : Aside0 (Below w.heap.size w w11):=⟨by rw [← hq_];exact (by repeat (first|(with_reducible first|exact HB.out|apply sa|apply sn|apply sd|refine sx ?_ GE117.out)|exact HB.out))⟩;clear BK117 HB hq_;have BK117:=n0_;have HB:=n1_;clear n0_ n1_));obtain ⟨hcz12_0,hcz12_1⟩:=cq2 BK117.out;obtain ⟨hfz12_0,hfz12_1⟩:=fq2 BK117.out))
      refine bodyPost_ret (results_cell_row rfl _ _ gb117 75 #[.int .i64 (wrap64 (IntKind.u64.wrap (t118 - (IntKind.u64.wrap (a0))))),.int .u64 t119] (0,0) _ rfl (by (with_reducible repeat (first|refine bn ?_ _|refine bd ?_|refine ba ?_ _));refine bp (cs:=#[.int .i64 (wrap64 (IntKind.u64.wrap (t118 - (IntKind.u64.wrap (a0))))),.int .u64 0]) ?_ 1 _ rfl;(with_reducible repeat (first|refine bn ?_ _|refine bd ?_|refine ba ?_ _));refine bp (cs:=#[.int .i64 0,.int .u64 0]) ?_ 0 _ rfl;(with_reducible repeat (first|refine bn ?_ _|refine bd ?_|refine ba ?_ _));exact BK117.out) Try.underlying75 rfl (by kernel_rfl)) rfl ?_
      exact ⟨by first|rfl|(simp [errW_none,errW_some] <;> rfl)|(simp [*,errW_none,errW_some] <;> rfl),by repeat (first|(with_reducible first|exact HB.out|apply sa|apply sn|apply sd|refine sx ?_ GE117.out)|exact HB.out)⟩
    · rw [if_neg c10] at H
      have c10b0 : decide (a1 < 0) = false:=decide_eq_false c10;clear c10;simp only [Option.some.injEq,Prod.mk.injEq] at H;obtain ⟨rfl,rfl⟩:=H
      go_enter Try.func50,Try.ntmps50
      go_wp2_with (first|((with_reducible refine gate_dst (N:=4) rfl ?_);refine box_event ?hg (N:=4) ?hd (cs:=#[.int .i64 0,.int .u64 0]) (t:=75) ?hr ?_;(case hd => rfl);(case hg => rfl);(case hr => first|(go_simp;done)|(go_simp;rfl));intro gb117 hg w13 hbox hb;have BK117:=am (hbox);have GW117:=am ((by rw [hg];exact (sz (by repeat (first|(with_reducible first|exact HB.out|apply sa|apply sn|apply sd)|exact HB.out))) : w.heap.size ≤ gb117));have GE117:=am ((by rw [hg];exact (sz (by repeat (first|(with_reducible first|exact HB.out|apply sa|apply sn|apply sd)|exact HB.out))) : w.heap.size ≤ gb117));replace HB:=am (ss (by repeat (first|(with_reducible first|exact HB.out|apply sa|apply sn|apply sd)|exact HB.out)) hb);clear hb hbox hg)|((with_reducible refine gate_callee (f:=56) rfl ?_);refine goesL_ (some 12) rfl rfl Try.func56 (by kernel_rfl) rfl #[.int .u64 (IntKind.u64.wrap (a0)),.int .u64 (IntKind.u64.wrap (a1))] rfl (by (try simp only [List.map_toArray,List.map_cons,List.map_nil]);first|done|rfl|(simp only [List.length_drop,List.length_take];rfl)) ?_;(with_reducible refine (bits_Mul64.calls (IntKind.u64.wrap (a0)) (IntKind.u64.wrap (a1)) t118 t119 _ A3.out).mono ?_);rintro e w' ⟨rfl,⟨nd,rfl⟩⟩;refine ⟨_,rfl,?_⟩;(try (rw [drewN_self w13];generalize hq_ : World.drewN w13 _ = w13;have n0_ : Aside0 (w13.heap[gb117]? = some (.cells #[.int .i64 0,.int .u64 0] 75 (0,0))):=⟨by rw [← hq_];exact (by exact BK117.out)⟩;have n1_ : Aside0 (Below w.heap.size w w13):=⟨by rw [← hq_];exact (by repeat (first|(with_reducible first|exact HB.out|apply sa|apply sn|apply sd|refine sx ?_ GE117.out)|exact HB.out))⟩;clear BK117 HB hq_;have BK117:=n0_;have HB:=n1_;clear n0_ n1_));obtain ⟨hcz14_0,hcz14_1⟩:=cq2 BK117.out;obtain ⟨hfz14_0,hfz14_1⟩:=fq2 BK117.out))
      refine bodyPost_ret (results_cell_row rfl _ _ gb117 75 #[.int .i64 (wrap64 (t118)),.int .u64 t119] (0,0) _ rfl (by (with_reducible repeat (first|refine bn ?_ _|refine bd ?_|refine ba ?_ _));refine bp (cs:=#[.int .i64 (wrap64 (t118)),.int .u64 0]) ?_ 1 _ rfl;(with_reducible repeat (first|refine bn ?_ _|refine bd ?_|refine ba ?_ _));refine bp (cs:=#[.int .i64 0,.int .u64 0]) ?_ 0 _ rfl;(with_reducible repeat (first|refine bn ?_ _|refine bd ?_|refine ba ?_ _));exact BK117.out) Try.underlying75 rfl (by kernel_rfl)) rfl ?_
      exact ⟨by first|rfl|(simp [errW_none,errW_some] <;> rfl)|(simp [*,errW_none,errW_some] <;> rfl),by repeat (first|(with_reducible first|exact HB.out|apply sa|apply sn|apply sd|refine sx ?_ GE117.out)|exact HB.out)⟩

-- NOT PRINTED: function 57 (bits_Sub64)

/-! ### fix_wide_abs: function 51 -/
def fix_wide_abs.f (a0_0 : Int) (a0_1 : Int) : Option (Int × Int × Bool):=if a0_0 ≥ 0 then (some (IntKind.u64.wrap (a0_0),a0_1,false)) else (some ((sub64d 0 (IntKind.u64.wrap (a0_0)) (sub64b 0 a0_1 0)),(sub64d 0 a0_1 0),true))
set_option maxHeartbeats 8000000 in
set_option maxRecDepth 100000 in
theorem fix_wide_abs.calls (a0_0 : Int) (a0_1 : Int) (r1 : Int) (r2 : Int) (r3 : Bool) (w : World) (h : fix_wide_abs.f a0_0 a0_1 = some (r1,r2,r3)) :
    Calls Try.prog 51 #[.agg #[.int .i64 a0_0,.int .u64 a0_1]] w fun e w' => e = .returned (.tuple #[.int .u64 r1,.int .u64 r2,.bool r3]) ∧ Below w.heap.size w w':=by
  have hu75:=Try.underlying75;have HB:=am (Below.refl w.heap.size w);have H : (if a0_0 ≥ 0 then (some (IntKind.u64.wrap (a0_0),a0_1,false)) else (some ((sub64d 0 (IntKind.u64.wrap (a0_0)) (sub64b 0 a0_1 0)),(sub64d 0 a0_1 0),true))) = some (r1,r2,r3):=h;clear h
  by_cases c2 : a0_0 ≥ 0
  · rw [if_pos c2] at H
    have c2b0 : decide (0 ≤ a0_0) = true:=decide_eq_true c2;clear c2;simp only [Option.some.injEq,Prod.mk.injEq] at H;obtain ⟨rfl,rfl,rfl⟩:=H
    go_enter Try.func51,Try.ntmps51
    go_wp2_with (first|((with_reducible refine gate_dst (N:=1) rfl ?_);refine box_event ?hg (N:=1) ?hd (cs:=#[.int .i64 a0_0,.int .u64 a0_1]) (t:=75) ?hr ?_;(case hd => rfl);(case hg => rfl);(case hr => first|(go_simp;done)|(go_simp;rfl));intro gb120 hg w3 hbox hb;have BK120:=am (hbox);have GW120:=am ((by rw [hg];exact (sz (by repeat (first|(with_reducible first|exact HB.out|apply sa|apply sn|apply sd)|exact HB.out))) : w.heap.size ≤ gb120));have GE120:=am ((by rw [hg];exact (sz (by repeat (first|(with_reducible first|exact HB.out|apply sa|apply sn|apply sd)|exact HB.out))) : w.heap.size ≤ gb120));replace HB:=am (ss (by repeat (first|(with_reducible first|exact HB.out|apply sa|apply sn|apply sd)|exact HB.out)) hb);clear hb hbox hg;obtain ⟨hcz4_0,hcz4_1⟩:=cq2 BK120.out;obtain ⟨hfz4_0,hfz4_1⟩:=fq2 BK120.out))
    repeat (go_quiet (first|((with_reducible refine gate_dst (N:=1) rfl ?_);refine box_event ?hg (N:=1) ?hd (cs:=#[.int .i64 a0_0,.int .u64 a0_1]) (t:=75) ?hr ?_;(case hd => rfl);(case hg => rfl);(case hr => first|(go_simp;done)|(go_simp;rfl));intro gb120 hg w3 hbox hb;have n0_:=am (ss (by repeat (first|(with_reducible first|exact HB.out|apply sa|apply sn|apply sd)|exact HB.out)) hb);have n1_:=am (hbox);have n2_:=am ((by rw [hg];exact (sz (by repeat (first|(with_reducible first|exact HB.out|apply sa|apply sn|apply sd)|exact HB.out))) : w.heap.size ≤ gb120));have n3_:=am ((by rw [hg];exact (sz (by repeat (first|(with_reducible first|exact HB.out|apply sa|apply sn|apply sd)|exact HB.out))) : w.heap.size ≤ gb120));clear HB;have HB:=n0_;have BK120:=n1_;have GW120:=n2_;have GE120:=n3_;clear n0_ n1_ n2_ n3_;clear hb hbox hg;obtain ⟨hcz4_0,hcz4_1⟩:=cq2 BK120.out;obtain ⟨hfz4_0,hfz4_1⟩:=fq2 BK120.out));try go_wp2_with (first|((with_reducible refine gate_dst (N:=1) rfl ?_);refine box_event ?hg (N:=1) ?hd (cs:=#[.int .i64 a0_0,.int .u64 a0_1]) (t:=75) ?hr ?_;(case hd => rfl);(case hg => rfl);(case hr => first|(go_simp;done)|(go_simp;rfl));intro gb120 hg w3 hbox hb;have n0_:=am (ss (by repeat (first|(with_reducible first|exact HB.out|apply sa|apply sn|apply sd)|exact HB.out)) hb);have n1_:=am (hbox);have n2_:=am ((by rw [hg];exact (sz (by repeat (first|(with_reducible first|exact HB.out|apply sa|apply sn|apply sd)|exact HB.out))) : w.heap.size ≤ gb120));have n3_:=am ((by rw [hg];exact (sz (by repeat (first|(with_reducible first|exact HB.out|apply sa|apply sn|apply sd)|exact HB.out))) : w.heap.size ≤ gb120));clear HB;have HB:=n0_;have BK120:=n1_;have GW120:=n2_;have GE120:=n3_;clear n0_ n1_ n2_ n3_;clear hb hbox hg;obtain ⟨hcz4_0,hcz4_1⟩:=cq2 BK120.out;obtain ⟨hfz4_0,hfz4_1⟩:=fq2 BK120.out)))
    go_ret3
    exact ⟨by first|rfl|(simp [errW_none,errW_some] <;> rfl)|(simp [*,errW_none,errW_some] <;> rfl),by repeat (first|(with_reducible first|exact HB.out|apply sa|apply sn|apply sd|refine sx ?_ GE120.out)|exact HB.out)⟩
  · rw [if_neg c2] at H
    have c2b0 : decide (0 ≤ a0_0) = false:=decide_eq_false c2;clear c2;simp only [Option.some.injEq,Prod.mk.injEq] at H;obtain ⟨rfl,rfl,rfl⟩:=H
    go_enter Try.func51,Try.ntmps51
    go_wp2_with (first|((with_reducible refine gate_dst (N:=1) rfl ?_);refine box_event ?hg (N:=1) ?hd (cs:=#[.int .i64 a0_0,.int .u64 a0_1]) (t:=75) ?hr ?_;(case hd => rfl);(case hg => rfl);(case hr => first|(go_simp;done)|(go_simp;rfl));intro gb120 hg w5 hbox hb;have BK120:=am (hbox);have GW120:=am ((by rw [hg];exact (sz (by repeat (first|(with_reducible first|exact HB.out|apply sa|apply sn|apply sd)|exact HB.out))) : w.heap.size ≤ gb120));have GE120:=am ((by rw [hg];exact (sz (by repeat (first|(with_reducible first|exact HB.out|apply sa|apply sn|apply sd)|exact HB.out))) : w.heap.size ≤ gb120));replace HB:=am (ss (by repeat (first|(with_reducible first|exact HB.out|apply sa|apply sn|apply sd)|exact HB.out)) hb);clear hb hbox hg;obtain ⟨hcz6_0,hcz6_1⟩:=cq2 BK120.out;obtain ⟨hfz6_0,hfz6_1⟩:=fq2 BK120.out))
    repeat (go_quiet (first|((with_reducible refine gate_dst (N:=1) rfl ?_);refine box_event ?hg (N:=1) ?hd (cs:=#[.int .i64 a0_0,.int .u64 a0_1]) (t:=75) ?hr ?_;(case hd => rfl);(case hg => rfl);(case hr => first|(go_simp;done)|(go_simp;rfl));intro gb120 hg w5 hbox hb;have n0_:=am (ss (by repeat (first|(with_reducible first|exact HB.out|apply sa|apply sn|apply sd)|exact HB.out)) hb);have n1_:=am (hbox);have n2_:=am ((by rw [hg];exact (sz (by repeat (first|(with_reducible first|exact HB.out|apply sa|apply sn|apply sd)|exact HB.out))) : w.heap.size ≤ gb120));have n3_:=am ((by rw [hg];exact (sz (by repeat (first|(with_reducible first|exact HB.out|apply sa|apply sn|apply sd)|exact HB.out))) : w.heap.size ≤ gb120));clear HB;have HB:=n0_;have BK120:=n1_;have GW120:=n2_;have GE120:=n3_;clear n0_ n1_ n2_ n3_;clear hb hbox hg;obtain ⟨hcz6_0,hcz6_1⟩:=cq2 BK120.out;obtain ⟨hfz6_0,hfz6_1⟩:=fq2 BK120.out));try go_wp2_with (first|((with_reducible refine gate_dst (N:=1) rfl ?_);refine box_event ?hg (N:=1) ?hd (cs:=#[.int .i64 a0_0,.int .u64 a0_1]) (t:=75) ?hr ?_;(case hd => rfl);(case hg => rfl);(case hr => first|(go_simp;done)|(go_simp;rfl));intro gb120 hg w5 hbox hb;have n0_:=am (ss (by repeat (first|(with_reducible first|exact HB.out|apply sa|apply sn|apply sd)|exact HB.out)) hb);have n1_:=am (hbox);have n2_:=am ((by rw [hg];exact (sz (by repeat (first|(with_reducible first|exact HB.out|apply sa|apply sn|apply sd)|exact HB.out))) : w.heap.size ≤ gb120));have n3_:=am ((by rw [hg];exact (sz (by repeat (first|(with_reducible first|exact HB.out|apply sa|apply sn|apply sd)|exact HB.out))) : w.heap.size ≤ gb120));clear HB;have HB:=n0_;have BK120:=n1_;have GW120:=n2_;have GE120:=n3_;clear n0_ n1_ n2_ n3_;clear hb hbox hg;obtain ⟨hcz6_0,hcz6_1⟩:=cq2 BK120.out;obtain ⟨hfz6_0,hfz6_1⟩:=fq2 BK120.out)))
    go_ret3
    exact ⟨by first|rfl|(simp [errW_none,errW_some] <;> rfl)|(simp [*,errW_none,errW_some] <;> rfl),by repeat (first|(with_reducible first|exact HB.out|apply sa|apply sn|apply sd|refine sx ?_ GE120.out)|exact HB.out)⟩

/-! ### bits_Len64: function 55 -/
def bits_Len64.f (a0 : Int) : Option (Int):=if 0 ≤ a0 ∧ a0 ≤ 18446744073709551615 then some (Lib.bitLen a0.toNat : Int) else none
theorem bits_Len64.calls (a0 : Int) (r : Int) (w : World) (h : bits_Len64.f a0 = some r) :
    Calls Try.prog 55 #[.int .u64 a0] w fun e w' => e = .returned (.int .i64 r) ∧ Drawn0 w w':=by
  unfold bits_Len64.f at h
  split at h
  · rename_i hb
    obtain rfl:=Option.some.inj h;refine (Try.bits_Len64 a0 w hb.1 hb.2).mono ?_
    rintro e w' ⟨rfl,rfl⟩
    exact ⟨rfl,Drawn0.refl _⟩
  · cases h

/-! ### bits_LeadingZeros64: function 58 -/
def bits_LeadingZeros64.f (a0 : Int) : Option (Int):=(bits_Len64.f a0).bind fun t121 => (some (wrap64 (64 - t121)))
set_option maxHeartbeats 8000000 in
set_option maxRecDepth 100000 in
theorem bits_LeadingZeros64.calls (a0 : Int) (r : Int) (w : World) (h : bits_LeadingZeros64.f a0 = some r) :
    Calls Try.prog 58 #[.int .u64 a0] w fun e w' => e = .returned (.int .i64 r) ∧ Drawn0 w w':=by
  have H : ((bits_Len64.f a0).bind fun t121 => (some (wrap64 (64 - t121)))) = some r:=h;clear h;replace H:=Option.bind_eq_some_iff.mp H;obtain ⟨t121,A20,H⟩:=H;replace H : (some (wrap64 (64 - t121))) = some r:=H;have A2:=am A20;clear A20;obtain rfl:=Option.some.inj H
  go_enter Try.func58,Try.ntmps58
  go_wp2_with (first|((with_reducible refine gate_callee (f:=55) rfl ?_);refine goesL_ (some 4) rfl rfl Try.func55 (by kernel_rfl) rfl #[.int .u64 a0] rfl (by (try simp only [List.map_toArray,List.map_cons,List.map_nil]);first|done|rfl|(simp only [List.length_drop,List.length_take];rfl)) ?_;(with_reducible refine (bits_Len64.calls a0 t121 _ A2.out).mono ?_);rintro e w' ⟨rfl,⟨nd,rfl⟩⟩;refine ⟨_,rfl,?_⟩))
  go_ret
  exact ⟨by first|rfl|(simp;done)|(simp [*];done),by repeat (first|exact Drawn0.refl _|apply Drawn0.step)⟩

end Go.Proofs.Ytaognlikgbcejaa.P
