/- Printed by printx.py (wip/tool) out of the translation: plain functions that tell what the program answers,and the proofs that the program comes to these answers,for all arguments of their kinds. Lean checks it. -/
import Derived.Test.YtnofihkmgedbfaaShort
import Derived.Test.YtnofihkmgedbfaaPx0
namespace Go.Proofs.Ytnofihkmgedbfaa.P
open Go.RowKit Go.Proofs.YtnofihkmgedbfaaW.PrintWords Go.Proofs.YtnofihkmgedbfaaW.PrintLast Go.Proofs.YtnofihkmgedbfaaW.PrintMore
attribute [local go_sem] max2_int min2_int max_two min_two max_three min_three max_four min_four max_five min_five max_six min_six   -- for this text's walks alone
set_option linter.unusedVariables false
set_option linter.unusedSimpArgs false

/-! ### celluloidref16_Even: function 21 -/
def celluloidref16_Even.l0 : Nat → List Int → Int → Int → Option (Bool)
  | 0,_,_,_ => none
  | k + 1,x9,x10,x11 => if x11 < x10 then (if 0 ≤ x11 then (if x11 < (x9.length : Int) then (if (Int.tmod (rd x9 x11) 2) = 0 then (if (rd x9 x11) > 16777216 then (some false) else (if (rd x9 x11) < (-16777216) then (some false) else (celluloidref16_Even.l0 k x9 x10 (wrap64 (x11 + 1))))) else (some false)) else (none)) else (none)) else (some true)
def celluloidref16_Even.f (k : Nat) (a0_0 : Int) (a0_1 : Int) : Option (Bool):=(some (([a0_0,a0_1] : List Int) : List Int)).bind fun y102 => (celluloidref16_Even.l0 k y102 (y102.length : Int) 0)
theorem celluloidref16_Even.mono_l : ∀ k,(∀ y0 y1 y2,LeO (celluloidref16_Even.l0 k y0 y1 y2) (celluloidref16_Even.l0 (k + 1) y0 y1 y2))
  | 0 => fun _ _ _ r h => by simp [celluloidref16_Even.l0] at h
  | k + 1 => by
    have ih0:=celluloidref16_Even.mono_l k
    · intro y0 y1 y2
      unfold celluloidref16_Even.l0
      repeat' first
      | (with_reducible exact ih0 _ _ _)
      | (with_reducible exact LeO.refl _)
      | (with_reducible exact LeO.none _)
      | (with_reducible refine LeO.ite ?_ ?_)
      | (with_reducible refine LeO.bind ?_ (fun _ => ?_))
      | exact ih0 _ _ _
      | exact LeO.none _
      | refine LeO.ite ?_ ?_
      | refine LeO.bind ?_ (fun _ => ?_)
theorem celluloidref16_Even.mono : ∀ a0 a1 k,LeO (celluloidref16_Even.f k a0 a1) (celluloidref16_Even.f (k + 1) a0 a1):=by
  intro a0 a1 k
  have ih0:=celluloidref16_Even.mono_l k
  unfold celluloidref16_Even.f
  repeat' first
      | (with_reducible exact ih0 _ _ _)
      | (with_reducible exact LeO.refl _)
      | (with_reducible exact LeO.none _)
      | (with_reducible refine LeO.ite ?_ ?_)
      | (with_reducible refine LeO.bind ?_ (fun _ => ?_))
      | exact ih0 _ _ _
      | exact LeO.none _
      | refine LeO.ite ?_ ?_
      | refine LeO.bind ?_ (fun _ => ?_)
set_option maxHeartbeats 8000000 in
set_option maxRecDepth 100000 in
theorem celluloidref16_Even.calls (k : Nat) (a0_0 : Int) (a0_1 : Int) (r : Bool) (w : World) (h : celluloidref16_Even.f k a0_0 a0_1 = some r) :
    Calls Try.prog 21 #[.agg #[.int .i64 a0_0,.int .i64 a0_1]] w fun e w' => e = .returned (.bool r) ∧ Below w.heap.size w w':=by
  have hu23:=Try.underlying23;have HB:=am (Below.refl w.heap.size w);have H : ((some (([a0_0,a0_1] : List Int) : List Int)).bind fun y102 => (celluloidref16_Even.l0 k y102 (y102.length : Int) 0)) = some r:=h;clear h;obtain ⟨y102,hy102⟩ : ∃ y_ : List Int,y_ = (([a0_0,a0_1] : List Int)):=⟨_,rfl⟩
  replace H : (celluloidref16_Even.l0 k y102 (y102.length : Int) 0) = some r:=by first|(rw [hy102];with_reducible exact H)|(have H2_:=(Option.bind_some _ _).symm.trans H;rw [hy102];with_reducible exact H2_)|(have H2_:=(Option.bind_some _ _).symm.trans H;with_reducible exact H2_)|with_reducible exact H|(rw [hy102];exact H)|exact H
  have Ny102:=am hy102;clear hy102;have H':=am H;clear H
  go_enter Try.func21,Try.ntmps21
  go_wp2_with (first|((with_reducible refine gate_dst (N:=1) rfl ?_);refine box_event ?hg (N:=1) ?hd (cs:=#[.int .i64 a0_0,.int .i64 a0_1]) (t:=23) ?hr ?_;(case hd => rfl);(case hg => rfl);(case hr => first|(go_simp;done)|(go_simp;rfl));intro gb101 hg w2 hbox hb;have BK101:=am (hbox);have GW101:=am ((by rw [hg];exact (sz (by repeat (first|(with_reducible first|exact HB.out|apply sa|apply sn|apply sd)|exact HB.out))) : w.heap.size ≤ gb101));have GE101:=am ((by rw [hg];exact (sz (by repeat (first|(with_reducible first|exact HB.out|apply sa|apply sn|apply sd)|exact HB.out))) : w.heap.size ≤ gb101));replace HB:=am (ss (by repeat (first|(with_reducible first|exact HB.out|apply sa|apply sn|apply sd)|exact HB.out)) hb);clear hb hbox hg;obtain ⟨hcz3_0,hcz3_1⟩:=cq2 BK101.out;obtain ⟨hfz3_0,hfz3_1⟩:=fq2 BK101.out)|((with_reducible refine gate_dst (N:=9) rfl ?_);refine Kd.R_lit (Kd.int .i64) _ 3 ?hg (N:=9) ?hd (xs:=([a0_0,a0_1] : List Int)) (inner:=[.int .i64 a0_0,.int .i64 a0_1]) (ok:=fun _ => True) (okp:=fun _ => True) ?hr ?hp (fun _ hk => hk) trivial (Below.refl _ _) (Nat.le_refl _) (by simp) ?_;(case hd => rfl);(case hg => rfl);(case hr => first|(go_simp;done)|(go_simp;rfl));(case hp => exact (Reps.one (show Kd.M (Kd.int .i64) _ _ _ a0_0 [.int .i64 a0_0] from rfl) (Reps.one (show Kd.M (Kd.int .i64) _ _ _ a0_1 [.int .i64 a0_1] from rfl) (Reps.none _ _))));intro v103 w4 ho5 hb hg_ hnew_;clear hg_ hnew_;(first|rw [← Ny102.out] at ho5|(simp only [Int.reduceToNat] at ho5;rw [← Ny102.out] at ho5));have HO104:=am (Kd.R_lower ho5 (sz (by repeat (first|(with_reducible first|exact HB.out|apply sa|apply sn|apply sd|refine sx ?_ GE101.out)|exact HB.out))));replace BK101:=am (bw (by exact BK101.out) hb);replace HB:=am (ss (by repeat (first|(with_reducible first|exact HB.out|apply sa|apply sn|apply sd|refine sx ?_ GE101.out)|exact HB.out)) hb);clear hb ho5;obtain ⟨Ao6,co6,eo6⟩:=Kd.R_slice HO104.out;subst eo6))
  go_loopg [11] k (fun kq v11 w' => ∃ (x11_1 : Int),v11 = .int .i64 x11_1 ∧ Aside0 (celluloidref16_Even.l0 kq y102 (y102.length : Int) x11_1 = some r) ∧ Aside0 (kq ≤ k) ∧ Aside0 (Kd.R (Kd.int .i64) 3 w' w.heap.size (fun _ => True) (.slice Ao6 y102.length co6) y102) ∧ Aside0 (w'.heap[gb101]? = some (.cells #[.int .i64 a0_0,.int .i64 a0_1] 23 (0,0))) ∧ Aside0 (Below w.heap.size w w'))
  case atStart => exact ⟨(0),(by first|rfl|(simp;done)|(simp [*];done)),H',⟨Nat.le_refl _⟩,⟨by (with_reducible repeat (first|apply Kd.R_alloc|apply Kd.R_drewN|apply Kd.R_drew));exact HO104.out⟩,⟨by exact BK101.out⟩,⟨by repeat (first|(with_reducible first|exact HB.out|apply sa|apply sn|apply sd|refine sx ?_ GE101.out)|exact HB.out)⟩⟩
  case round =>
    clear H'
    try clear c2
    try clear p2
    try clear hcz3_0
    try clear hcz3_1
    try clear hfz3_0
    try clear hfz3_1
    obtain ⟨x11_1,rfl,HA,HK1,HO_9,BK101,HB⟩:=hrel
    cases gk with
    | zero => exact absurd HA.out (by simp [celluloidref16_Even.l0])
    | succ k1 =>
      have H:=HA.out;clear HA;simp only [celluloidref16_Even.l0] at H
      by_cases c7 : x11_1 < (y102.length : Int)
      · rw [if_pos c7] at H
        have c7b0 : decide (x11_1 < (y102.length : Int)) = true:=decide_eq_true c7;clear c7
        by_cases c8 : 0 ≤ x11_1
        · rw [if_pos c8] at H
          have c8b0 : decide (0 ≤ x11_1) = true:=decide_eq_true c8;clear c8
          by_cases c9 : x11_1 < (y102.length : Int)
          · rw [if_pos c9] at H
            have c9b0 : decide (x11_1 < (y102.length : Int)) = true:=decide_eq_true c9;clear c9
            by_cases c10 : (Int.tmod (rd y102 x11_1) 2) = 0
            · rw [if_pos c10] at H
              have c10b0 : ((Int.tmod (rd y102 x11_1) 2) == 0) = true:=beq_iff_eq.mpr c10;have c10b1 : ((Int.tmod (rd y102 x11_1) 2) != 0) = false:=bne_eq_false_iff_eq.mpr c10;clear c10
              by_cases c11 : (rd y102 x11_1) > 16777216
              · rw [if_pos c11] at H
                have c11b0 : decide (16777216 < (rd y102 x11_1)) = true:=decide_eq_true c11;clear c11;obtain rfl:=Option.some.inj H;have p105 : 0 ≤ (x11_1 : Int):=of_decide_eq_true (by first|(with_reducible assumption)|assumption);have q105 : x11_1 < (y102.length : Int):=of_decide_eq_true (by first|(with_reducible assumption)|assumption);obtain ⟨ad105,e105,hx105_0⟩:=Kd.at_int (Kd.R_reads' HO_9.out).2.2 x11_1 p105 q105
                cases e105
                replace p105:=eq_true p105;replace q105:=eq_true q105
                go_wp2
                go_ret
                exact ⟨by first|rfl|(simp [errW_none,errW_some] <;> rfl)|(simp [*,errW_none,errW_some] <;> rfl),by repeat (first|(with_reducible first|exact HB.out|apply sa|apply sn|apply sd|refine sx ?_ GE101.out)|exact HB.out)⟩
              · rw [if_neg c11] at H
                have c11b0 : decide (16777216 < (rd y102 x11_1)) = false:=decide_eq_false c11;clear c11
                by_cases c12 : (rd y102 x11_1) < (-16777216)
                · rw [if_pos c12] at H
                  have c12b0 : decide ((rd y102 x11_1) < (-16777216)) = true:=decide_eq_true c12;clear c12;obtain rfl:=Option.some.inj H;have p105 : 0 ≤ (x11_1 : Int):=of_decide_eq_true (by first|(with_reducible assumption)|assumption);have q105 : x11_1 < (y102.length : Int):=of_decide_eq_true (by first|(with_reducible assumption)|assumption);obtain ⟨ad105,e105,hx105_0⟩:=Kd.at_int (Kd.R_reads' HO_9.out).2.2 x11_1 p105 q105
                  cases e105
                  replace p105:=eq_true p105;replace q105:=eq_true q105
                  go_wp2
                  go_ret
                  exact ⟨by first|rfl|(simp [errW_none,errW_some] <;> rfl)|(simp [*,errW_none,errW_some] <;> rfl),by repeat (first|(with_reducible first|exact HB.out|apply sa|apply sn|apply sd|refine sx ?_ GE101.out)|exact HB.out)⟩
                · rw [if_neg c12] at H
                  have c12b0 : decide ((rd y102 x11_1) < (-16777216)) = false:=decide_eq_false c12;clear c12;have H':=am H;clear H;have p105 : 0 ≤ (x11_1 : Int):=of_decide_eq_true (by first|(with_reducible assumption)|assumption);have q105 : x11_1 < (y102.length : Int):=of_decide_eq_true (by first|(with_reducible assumption)|assumption);obtain ⟨ad105,e105,hx105_0⟩:=Kd.at_int (Kd.R_reads' HO_9.out).2.2 x11_1 p105 q105
                  cases e105
                  replace p105:=eq_true p105;replace q105:=eq_true q105
                  go_wp2
                  go_roundg k1
                  case measure => have:=HK1.out;omega
                  case rel => exact ⟨(wrap64 (x11_1 + 1)),(by first|rfl|(simp;done)|(simp [*];done)),H',⟨by have:=HK1.out;omega⟩,⟨by (with_reducible repeat (first|apply Kd.R_alloc|apply Kd.R_drewN|apply Kd.R_drew));exact HO_9.out⟩,⟨by exact BK101.out⟩,⟨by repeat (first|(with_reducible first|exact HB.out|apply sa|apply sn|apply sd|refine sx ?_ GE101.out)|exact HB.out)⟩⟩
            · rw [if_neg c10] at H
              have c10b0 : ((Int.tmod (rd y102 x11_1) 2) == 0) = false:=beq_eq_false_iff_ne.mpr c10;have c10b1 : ((Int.tmod (rd y102 x11_1) 2) != 0) = true:=bne_iff_ne.mpr c10;obtain rfl:=Option.some.inj H;have p105 : 0 ≤ (x11_1 : Int):=of_decide_eq_true (by first|(with_reducible assumption)|assumption);have q105 : x11_1 < (y102.length : Int):=of_decide_eq_true (by first|(with_reducible assumption)|assumption);obtain ⟨ad105,e105,hx105_0⟩:=Kd.at_int (Kd.R_reads' HO_9.out).2.2 x11_1 p105 q105
              cases e105
              replace p105:=eq_true p105;replace q105:=eq_true q105
              go_wp2
              go_ret
              exact ⟨by first|rfl|(simp [errW_none,errW_some] <;> rfl)|(simp [*,errW_none,errW_some] <;> rfl),by repeat (first|(with_reducible first|exact HB.out|apply sa|apply sn|apply sd|refine sx ?_ GE101.out)|exact HB.out)⟩
          · rw [if_neg c9] at H
            exact absurd H (by simp)
        · rw [if_neg c8] at H
          exact absurd H (by simp)
      · rw [if_neg c7] at H
        have c7b0 : decide (x11_1 < (y102.length : Int)) = false:=decide_eq_false c7;clear c7;obtain rfl:=Option.some.inj H
        go_wp2
        go_ret
        exact ⟨by first|rfl|(simp [errW_none,errW_some] <;> rfl)|(simp [*,errW_none,errW_some] <;> rfl),by repeat (first|(with_reducible first|exact HB.out|apply sa|apply sn|apply sd|refine sx ?_ GE101.out)|exact HB.out)⟩

/-! ### celluloidref18_Right: function 10 -/
def celluloidref18_Right.f (k : Nat) (a0_0 : Int) (a0_1 : Int) (a0_2 : Int) (a0_3 : Int) (a0_4 : Int) (a0_5 : Int) : Option (Bool):=(celluloidref16_Even.f k a0_0 a0_1).bind fun t107 => (if t107 = true then ((celluloidref16_Even.f k a0_2 a0_3).bind fun t108 => (if t108 = true then (if a0_4 > 0 then (if a0_4 < 256 then (if a0_5 > 0 then (some (decide (a0_5 ≤ 1048576))) else (some false)) else (some false)) else (some false)) else (some false))) else (some false))
theorem celluloidref18_Right.mono : ∀ a0 a1 a2 a3 a4 a5 k,LeO (celluloidref18_Right.f k a0 a1 a2 a3 a4 a5) (celluloidref18_Right.f (k + 1) a0 a1 a2 a3 a4 a5):=by
  intro a0 a1 a2 a3 a4 a5 k
  unfold celluloidref18_Right.f
  repeat' first
      | (with_reducible exact celluloidref16_Even.mono _ _ _)
      | (with_reducible exact LeO.refl _)
      | (with_reducible exact LeO.none _)
      | (with_reducible refine LeO.ite ?_ ?_)
      | (with_reducible refine LeO.bind ?_ (fun _ => ?_))
      | exact celluloidref16_Even.mono _ _ _
      | exact LeO.none _
      | refine LeO.ite ?_ ?_
      | refine LeO.bind ?_ (fun _ => ?_)
set_option maxHeartbeats 8000000 in
set_option maxRecDepth 100000 in
theorem celluloidref18_Right.calls (k : Nat) (a0_0 : Int) (a0_1 : Int) (a0_2 : Int) (a0_3 : Int) (a0_4 : Int) (a0_5 : Int) (r : Bool) (w : World) (h : celluloidref18_Right.f k a0_0 a0_1 a0_2 a0_3 a0_4 a0_5 = some r) :
    Calls Try.prog 10 #[.agg #[.int .i64 a0_0,.int .i64 a0_1,.int .i64 a0_2,.int .i64 a0_3,.int .i64 a0_4,.int .i64 a0_5]] w fun e w' => e = .returned (.bool r) ∧ Below w.heap.size w w':=by
  have hu27:=Try.underlying27;have hu23:=Try.underlying23;have HB:=am (Below.refl w.heap.size w);have H : ((celluloidref16_Even.f k a0_0 a0_1).bind fun t107 => (if t107 = true then ((celluloidref16_Even.f k a0_2 a0_3).bind fun t108 => (if t108 = true then (if a0_4 > 0 then (if a0_4 < 256 then (if a0_5 > 0 then (some (decide (a0_5 ≤ 1048576))) else (some false)) else (some false)) else (some false)) else (some false))) else (some false))) = some r:=h;clear h;replace H:=Option.bind_eq_some_iff.mp H;obtain ⟨t107,A20,H⟩:=H;replace H : (if t107 = true then ((celluloidref16_Even.f k a0_2 a0_3).bind fun t108 => (if t108 = true then (if a0_4 > 0 then (if a0_4 < 256 then (if a0_5 > 0 then (some (decide (a0_5 ≤ 1048576))) else (some false)) else (some false)) else (some false)) else (some false))) else (some false)) = some r:=H;have A2:=am A20;clear A20
  by_cases c3 : t107 = true
  · subst c3
    have H1 : ((celluloidref16_Even.f k a0_2 a0_3).bind fun t108 => (if t108 = true then (if a0_4 > 0 then (if a0_4 < 256 then (if a0_5 > 0 then (some (decide (a0_5 ≤ 1048576))) else (some false)) else (some false)) else (some false)) else (some false))) = some r:=by rw [if_pos rfl] at H;exact H
    clear H;have H:=H1;clear H1;replace H:=Option.bind_eq_some_iff.mp H;obtain ⟨t108,A40,H⟩:=H;replace H : (if t108 = true then (if a0_4 > 0 then (if a0_4 < 256 then (if a0_5 > 0 then (some (decide (a0_5 ≤ 1048576))) else (some false)) else (some false)) else (some false)) else (some false)) = some r:=H;have A4:=am A40;clear A40
    by_cases c5 : t108 = true
    · subst c5
      have H1 : (if a0_4 > 0 then (if a0_4 < 256 then (if a0_5 > 0 then (some (decide (a0_5 ≤ 1048576))) else (some false)) else (some false)) else (some false)) = some r:=by rw [if_pos rfl] at H;exact H
      clear H;have H:=H1;clear H1
      by_cases c6 : a0_4 > 0
      · rw [if_pos c6] at H
        have c6b0 : decide (0 < a0_4) = true:=decide_eq_true c6;clear c6
        by_cases c7 : a0_4 < 256
        · rw [if_pos c7] at H
          have c7b0 : decide (a0_4 < 256) = true:=decide_eq_true c7;clear c7
          by_cases c8 : a0_5 > 0
          · rw [if_pos c8] at H
            have c8b0 : decide (0 < a0_5) = true:=decide_eq_true c8;clear c8;obtain rfl:=Option.some.inj H
            go_enter Try.func10,Try.ntmps10
            go_wp2_with (first|((with_reducible refine gate_dst (N:=1) rfl ?_);refine box_event ?hg (N:=1) ?hd (cs:=#[.int .i64 a0_0,.int .i64 a0_1,.int .i64 a0_2,.int .i64 a0_3,.int .i64 a0_4,.int .i64 a0_5]) (t:=27) ?hr ?_;(case hd => rfl);(case hg => rfl);(case hr => first|(go_simp;done)|(go_simp;rfl));intro gb106 hg w9 hbox hb;have BK106:=am (hbox);have GW106:=am ((by rw [hg];exact (sz (by repeat (first|(with_reducible first|exact HB.out|apply sa|apply sn|apply sd)|exact HB.out))) : w.heap.size ≤ gb106));have GE106:=am ((by rw [hg];exact (sz (by repeat (first|(with_reducible first|exact HB.out|apply sa|apply sn|apply sd)|exact HB.out))) : w.heap.size ≤ gb106));replace HB:=am (ss (by repeat (first|(with_reducible first|exact HB.out|apply sa|apply sn|apply sd)|exact HB.out)) hb);clear hb hbox hg;obtain ⟨hcz10_0,hcz10_1,hcz10_2,hcz10_3,hcz10_4,hcz10_5⟩:=cq6 BK106.out;obtain ⟨hfz10_0,hfz10_1,hfz10_2,hfz10_3,hfz10_4,hfz10_5⟩:=fq6 BK106.out)|((with_reducible refine gate_callee (f:=21) rfl ?_);refine goesL_ (some 5) rfl rfl Try.func21 (by kernel_rfl) rfl #[.agg #[.int .i64 a0_0,.int .i64 a0_1]] rfl (by (try simp only [List.map_toArray,List.map_cons,List.map_nil]);first|done|rfl|(simp only [List.length_drop,List.length_take];rfl)) ?_;(with_reducible refine (celluloidref16_Even.calls k a0_0 a0_1 true _ A2.out).mono ?_);rintro e w11 ⟨rfl,hb⟩;refine ⟨_,rfl,?_⟩;replace BK106:=am (bw (by exact BK106.out) hb);replace HB:=am (ss (by repeat (first|(with_reducible first|exact HB.out|apply sa|apply sn|apply sd|refine sx ?_ GE106.out)|exact HB.out)) hb);(try clear hb);(try clear hb2);(try clear hk);(try clear hi);obtain ⟨hcz12_0,hcz12_1,hcz12_2,hcz12_3,hcz12_4,hcz12_5⟩:=cq6 BK106.out;obtain ⟨hfz12_0,hfz12_1,hfz12_2,hfz12_3,hfz12_4,hfz12_5⟩:=fq6 BK106.out)|(go_at_call 21;(with_reducible refine (celluloidref16_Even.calls k a0_2 a0_3 true _ A4.out).mono ?_);rintro e w13 ⟨rfl,hb⟩;replace BK106:=am (bw (by exact BK106.out) hb);replace HB:=am (ss (by repeat (first|(with_reducible first|exact HB.out|apply sa|apply sn|apply sd|refine sx ?_ GE106.out)|exact HB.out)) hb);(try clear hb);(try clear hb2);(try clear hk);(try clear hi);obtain ⟨hcz14_0,hcz14_1,hcz14_2,hcz14_3,hcz14_4,hcz14_5⟩:=cq6 BK106.out;obtain ⟨hfz14_0,hfz14_1,hfz14_2,hfz14_3,hfz14_4,hfz14_5⟩:=fq6 BK106.out))
            go_ret
            exact ⟨by first|rfl|(simp [errW_none,errW_some] <;> rfl)|(simp [*,errW_none,errW_some] <;> rfl),by repeat (first|(with_reducible first|exact HB.out|apply sa|apply sn|apply sd|refine sx ?_ GE106.out)|exact HB.out)⟩
          · rw [if_neg c8] at H
            have c8b0 : decide (0 < a0_5) = false:=decide_eq_false c8;clear c8;obtain rfl:=Option.some.inj H
            go_enter Try.func10,Try.ntmps10
            go_wp2_with (first|((with_reducible refine gate_dst (N:=1) rfl ?_);refine box_event ?hg (N:=1) ?hd (cs:=#[.int .i64 a0_0,.int .i64 a0_1,.int .i64 a0_2,.int .i64 a0_3,.int .i64 a0_4,.int .i64 a0_5]) (t:=27) ?hr ?_;(case hd => rfl);(case hg => rfl);(case hr => first|(go_simp;done)|(go_simp;rfl));intro gb106 hg w15 hbox hb;have BK106:=am (hbox);have GW106:=am ((by rw [hg];exact (sz (by repeat (first|(with_reducible first|exact HB.out|apply sa|apply sn|apply sd)|exact HB.out))) : w.heap.size ≤ gb106));have GE106:=am ((by rw [hg];exact (sz (by repeat (first|(with_reducible first|exact HB.out|apply sa|apply sn|apply sd)|exact HB.out))) : w.heap.size ≤ gb106));replace HB:=am (ss (by repeat (first|(with_reducible first|exact HB.out|apply sa|apply sn|apply sd)|exact HB.out)) hb);clear hb hbox hg;obtain ⟨hcz16_0,hcz16_1,hcz16_2,hcz16_3,hcz16_4,hcz16_5⟩:=cq6 BK106.out;obtain ⟨hfz16_0,hfz16_1,hfz16_2,hfz16_3,hfz16_4,hfz16_5⟩:=fq6 BK106.out)|((with_reducible refine gate_callee (f:=21) rfl ?_);refine goesL_ (some 5) rfl rfl Try.func21 (by kernel_rfl) rfl #[.agg #[.int .i64 a0_0,.int .i64 a0_1]] rfl (by (try simp only [List.map_toArray,List.map_cons,List.map_nil]);first|done|rfl|(simp only [List.length_drop,List.length_take];rfl)) ?_;(with_reducible refine (celluloidref16_Even.calls k a0_0 a0_1 true _ A2.out).mono ?_);rintro e w17 ⟨rfl,hb⟩;refine ⟨_,rfl,?_⟩;replace BK106:=am (bw (by exact BK106.out) hb);replace HB:=am (ss (by repeat (first|(with_reducible first|exact HB.out|apply sa|apply sn|apply sd|refine sx ?_ GE106.out)|exact HB.out)) hb);(try clear hb);(try clear hb2);(try clear hk);(try clear hi);obtain ⟨hcz18_0,hcz18_1,hcz18_2,hcz18_3,hcz18_4,hcz18_5⟩:=cq6 BK106.out;obtain ⟨hfz18_0,hfz18_1,hfz18_2,hfz18_3,hfz18_4,hfz18_5⟩:=fq6 BK106.out)|(go_at_call 21;(with_reducible refine (celluloidref16_Even.calls k a0_2 a0_3 true _ A4.out).mono ?_);rintro e w19 ⟨rfl,hb⟩;replace BK106:=am (bw (by exact BK106.out) hb);replace HB:=am (ss (by repeat (first|(with_reducible first|exact HB.out|apply sa|apply sn|apply sd|refine sx ?_ GE106.out)|exact HB.out)) hb);(try clear hb);(try clear hb2);(try clear hk);(try clear hi);obtain ⟨hcz20_0,hcz20_1,hcz20_2,hcz20_3,hcz20_4,hcz20_5⟩:=cq6 BK106.out;obtain ⟨hfz20_0,hfz20_1,hfz20_2,hfz20_3,hfz20_4,hfz20_5⟩:=fq6 BK106.out))
            go_ret
            exact ⟨by first|rfl|(simp [errW_none,errW_some] <;> rfl)|(simp [*,errW_none,errW_some] <;> rfl),by repeat (first|(with_reducible first|exact HB.out|apply sa|apply sn|apply sd|refine sx ?_ GE106.out)|exact HB.out)⟩
        · rw [if_neg c7] at H
          have c7b0 : decide (a0_4 < 256) = false:=decide_eq_false c7;clear c7;obtain rfl:=Option.some.inj H
          go_enter Try.func10,Try.ntmps10
          go_wp2_with (first|((with_reducible refine gate_dst (N:=1) rfl ?_);refine box_event ?hg (N:=1) ?hd (cs:=#[.int .i64 a0_0,.int .i64 a0_1,.int .i64 a0_2,.int .i64 a0_3,.int .i64 a0_4,.int .i64 a0_5]) (t:=27) ?hr ?_;(case hd => rfl);(case hg => rfl);(case hr => first|(go_simp;done)|(go_simp;rfl));intro gb106 hg w21 hbox hb;have BK106:=am (hbox);have GW106:=am ((by rw [hg];exact (sz (by repeat (first|(with_reducible first|exact HB.out|apply sa|apply sn|apply sd)|exact HB.out))) : w.heap.size ≤ gb106));have GE106:=am ((by rw [hg];exact (sz (by repeat (first|(with_reducible first|exact HB.out|apply sa|apply sn|apply sd)|exact HB.out))) : w.heap.size ≤ gb106));replace HB:=am (ss (by repeat (first|(with_reducible first|exact HB.out|apply sa|apply sn|apply sd)|exact HB.out)) hb);clear hb hbox hg;obtain ⟨hcz22_0,hcz22_1,hcz22_2,hcz22_3,hcz22_4,hcz22_5⟩:=cq6 BK106.out;obtain ⟨hfz22_0,hfz22_1,hfz22_2,hfz22_3,hfz22_4,hfz22_5⟩:=fq6 BK106.out)|((with_reducible refine gate_callee (f:=21) rfl ?_);refine goesL_ (some 5) rfl rfl Try.func21 (by kernel_rfl) rfl #[.agg #[.int .i64 a0_0,.int .i64 a0_1]] rfl (by (try simp only [List.map_toArray,List.map_cons,List.map_nil]);first|done|rfl|(simp only [List.length_drop,List.length_take];rfl)) ?_;(with_reducible refine (celluloidref16_Even.calls k a0_0 a0_1 true _ A2.out).mono ?_);rintro e w23 ⟨rfl,hb⟩;refine ⟨_,rfl,?_⟩;replace BK106:=am (bw (by exact BK106.out) hb);replace HB:=am (ss (by repeat (first|(with_reducible first|exact HB.out|apply sa|apply sn|apply sd|refine sx ?_ GE106.out)|exact HB.out)) hb);(try clear hb);(try clear hb2);(try clear hk);(try clear hi);obtain ⟨hcz24_0,hcz24_1,hcz24_2,hcz24_3,hcz24_4,hcz24_5⟩:=cq6 BK106.out;obtain ⟨hfz24_0,hfz24_1,hfz24_2,hfz24_3,hfz24_4,hfz24_5⟩:=fq6 BK106.out)|(go_at_call 21;(with_reducible refine (celluloidref16_Even.calls k a0_2 a0_3 true _ A4.out).mono ?_);rintro e w25 ⟨rfl,hb⟩;replace BK106:=am (bw (by exact BK106.out) hb);replace HB:=am (ss (by repeat (first|(with_reducible first|exact HB.out|apply sa|apply sn|apply sd|refine sx ?_ GE106.out)|exact HB.out)) hb);(try clear hb);(try clear hb2);(try clear hk);(try clear hi);obtain ⟨hcz26_0,hcz26_1,hcz26_2,hcz26_3,hcz26_4,hcz26_5⟩:=cq6 BK106.out;obtain ⟨hfz26_0,hfz26_1,hfz26_2,hfz26_3,hfz26_4,hfz26_5⟩:=fq6 BK106.out))
          go_ret
          exact ⟨by first|rfl|(simp [errW_none,errW_some] <;> rfl)|(simp [*,errW_none,errW_some] <;> rfl),by repeat (first|(with_reducible first|exact HB.out|apply sa|apply sn|apply sd|refine sx ?_ GE106.out)|exact HB.out)⟩
      · rw [if_neg c6] at H
        have c6b0 : decide (0 < a0_4) = false:=decide_eq_false c6;clear c6;obtain rfl:=Option.some.inj H
        go_enter Try.func10,Try.ntmps10
        go_wp2_with (first|((with_reducible refine gate_dst (N:=1) rfl ?_);refine box_event ?hg (N:=1) ?hd (cs:=#[.int .i64 a0_0,.int .i64 a0_1,.int .i64 a0_2,.int .i64 a0_3,.int .i64 a0_4,.int .i64 a0_5]) (t:=27) ?hr ?_;(case hd => rfl);(case hg => rfl);(case hr => first|(go_simp;done)|(go_simp;rfl));intro gb106 hg w27 hbox hb;have BK106:=am (hbox);have GW106:=am ((by rw [hg];exact (sz (by repeat (first|(with_reducible first|exact HB.out|apply sa|apply sn|apply sd)|exact HB.out))) : w.heap.size ≤ gb106));have GE106:=am ((by rw [hg];exact (sz (by repeat (first|(with_reducible first|exact HB.out|apply sa|apply sn|apply sd)|exact HB.out))) : w.heap.size ≤ gb106));replace HB:=am (ss (by repeat (first|(with_reducible first|exact HB.out|apply sa|apply sn|apply sd)|exact HB.out)) hb);clear hb hbox hg;obtain ⟨hcz28_0,hcz28_1,hcz28_2,hcz28_3,hcz28_4,hcz28_5⟩:=cq6 BK106.out;obtain ⟨hfz28_0,hfz28_1,hfz28_2,hfz28_3,hfz28_4,hfz28_5⟩:=fq6 BK106.out)|((with_reducible refine gate_callee (f:=21) rfl ?_);refine goesL_ (some 5) rfl rfl Try.func21 (by kernel_rfl) rfl #[.agg #[.int .i64 a0_0,.int .i64 a0_1]] rfl (by (try simp only [List.map_toArray,List.map_cons,List.map_nil]);first|done|rfl|(simp only [List.length_drop,List.length_take];rfl)) ?_;(with_reducible refine (celluloidref16_Even.calls k a0_0 a0_1 true _ A2.out).mono ?_);rintro e w29 ⟨rfl,hb⟩;refine ⟨_,rfl,?_⟩;replace BK106:=am (bw (by exact BK106.out) hb);replace HB:=am (ss (by repeat (first|(with_reducible first|exact HB.out|apply sa|apply sn|apply sd|refine sx ?_ GE106.out)|exact HB.out)) hb);(try clear hb);(try clear hb2);(try clear hk);(try clear hi);obtain ⟨hcz30_0,hcz30_1,hcz30_2,hcz30_3,hcz30_4,hcz30_5⟩:=cq6 BK106.out;obtain ⟨hfz30_0,hfz30_1,hfz30_2,hfz30_3,hfz30_4,hfz30_5⟩:=fq6 BK106.out)|(go_at_call 21;(with_reducible refine (celluloidref16_Even.calls k a0_2 a0_3 true _ A4.out).mono ?_);rintro e w31 ⟨rfl,hb⟩;replace BK106:=am (bw (by exact BK106.out) hb);replace HB:=am (ss (by repeat (first|(with_reducible first|exact HB.out|apply sa|apply sn|apply sd|refine sx ?_ GE106.out)|exact HB.out)) hb);(try clear hb);(try clear hb2);(try clear hk);(try clear hi);obtain ⟨hcz32_0,hcz32_1,hcz32_2,hcz32_3,hcz32_4,hcz32_5⟩:=cq6 BK106.out;obtain ⟨hfz32_0,hfz32_1,hfz32_2,hfz32_3,hfz32_4,hfz32_5⟩:=fq6 BK106.out))
        go_ret
        exact ⟨by first|rfl|(simp [errW_none,errW_some] <;> rfl)|(simp [*,errW_none,errW_some] <;> rfl),by repeat (first|(with_reducible first|exact HB.out|apply sa|apply sn|apply sd|refine sx ?_ GE106.out)|exact HB.out)⟩
    · replace c5:=Bool.eq_false_iff.mpr c5
      subst c5
      have H1 : (some false) = some r:=by rw [if_neg (show ¬ (false = true) by decide)] at H;exact H
      clear H;have H:=H1;clear H1;obtain rfl:=Option.some.inj H
      go_enter Try.func10,Try.ntmps10
      go_wp2_with (first|((with_reducible refine gate_dst (N:=1) rfl ?_);refine box_event ?hg (N:=1) ?hd (cs:=#[.int .i64 a0_0,.int .i64 a0_1,.int .i64 a0_2,.int .i64 a0_3,.int .i64 a0_4,.int .i64 a0_5]) (t:=27) ?hr ?_;(case hd => rfl);(case hg => rfl);(case hr => first|(go_simp;done)|(go_simp;rfl));intro gb106 hg w33 hbox hb;have BK106:=am (hbox);have GW106:=am ((by rw [hg];exact (sz (by repeat (first|(with_reducible first|exact HB.out|apply sa|apply sn|apply sd)|exact HB.out))) : w.heap.size ≤ gb106));have GE106:=am ((by rw [hg];exact (sz (by repeat (first|(with_reducible first|exact HB.out|apply sa|apply sn|apply sd)|exact HB.out))) : w.heap.size ≤ gb106));replace HB:=am (ss (by repeat (first|(with_reducible first|exact HB.out|apply sa|apply sn|apply sd)|exact HB.out)) hb);clear hb hbox hg;obtain ⟨hcz34_0,hcz34_1,hcz34_2,hcz34_3,hcz34_4,hcz34_5⟩:=cq6 BK106.out;obtain ⟨hfz34_0,hfz34_1,hfz34_2,hfz34_3,hfz34_4,hfz34_5⟩:=fq6 BK106.out)|((with_reducible refine gate_callee (f:=21) rfl ?_);refine goesL_ (some 5) rfl rfl Try.func21 (by kernel_rfl) rfl #[.agg #[.int .i64 a0_0,.int .i64 a0_1]] rfl (by (try simp only [List.map_toArray,List.map_cons,List.map_nil]);first|done|rfl|(simp only [List.length_drop,List.length_take];rfl)) ?_;(with_reducible refine (celluloidref16_Even.calls k a0_0 a0_1 true _ A2.out).mono ?_);rintro e w35 ⟨rfl,hb⟩;refine ⟨_,rfl,?_⟩;replace BK106:=am (bw (by exact BK106.out) hb);replace HB:=am (ss (by repeat (first|(with_reducible first|exact HB.out|apply sa|apply sn|apply sd|refine sx ?_ GE106.out)|exact HB.out)) hb);(try clear hb);(try clear hb2);(try clear hk);(try clear hi);obtain ⟨hcz36_0,hcz36_1,hcz36_2,hcz36_3,hcz36_4,hcz36_5⟩:=cq6 BK106.out;obtain ⟨hfz36_0,hfz36_1,hfz36_2,hfz36_3,hfz36_4,hfz36_5⟩:=fq6 BK106.out)|(go_at_call 21;(with_reducible refine (celluloidref16_Even.calls k a0_2 a0_3 false _ A4.out).mono ?_);rintro e w37 ⟨rfl,hb⟩;replace BK106:=am (bw (by exact BK106.out) hb);replace HB:=am (ss (by repeat (first|(with_reducible first|exact HB.out|apply sa|apply sn|apply sd|refine sx ?_ GE106.out)|exact HB.out)) hb);(try clear hb);(try clear hb2);(try clear hk);(try clear hi)))
      go_ret
      exact ⟨by first|rfl|(simp [errW_none,errW_some] <;> rfl)|(simp [*,errW_none,errW_some] <;> rfl),by repeat (first|(with_reducible first|exact HB.out|apply sa|apply sn|apply sd|refine sx ?_ GE106.out)|exact HB.out)⟩
  · replace c3:=Bool.eq_false_iff.mpr c3
    subst c3
    have H1 : (some false) = some r:=by rw [if_neg (show ¬ (false = true) by decide)] at H;exact H
    clear H;have H:=H1;clear H1;obtain rfl:=Option.some.inj H
    go_enter Try.func10,Try.ntmps10
    go_wp2_with (first|((with_reducible refine gate_dst (N:=1) rfl ?_);refine box_event ?hg (N:=1) ?hd (cs:=#[.int .i64 a0_0,.int .i64 a0_1,.int .i64 a0_2,.int .i64 a0_3,.int .i64 a0_4,.int .i64 a0_5]) (t:=27) ?hr ?_;(case hd => rfl);(case hg => rfl);(case hr => first|(go_simp;done)|(go_simp;rfl));intro gb106 hg w38 hbox hb;have BK106:=am (hbox);have GW106:=am ((by rw [hg];exact (sz (by repeat (first|(with_reducible first|exact HB.out|apply sa|apply sn|apply sd)|exact HB.out))) : w.heap.size ≤ gb106));have GE106:=am ((by rw [hg];exact (sz (by repeat (first|(with_reducible first|exact HB.out|apply sa|apply sn|apply sd)|exact HB.out))) : w.heap.size ≤ gb106));replace HB:=am (ss (by repeat (first|(with_reducible first|exact HB.out|apply sa|apply sn|apply sd)|exact HB.out)) hb);clear hb hbox hg;obtain ⟨hcz39_0,hcz39_1,hcz39_2,hcz39_3,hcz39_4,hcz39_5⟩:=cq6 BK106.out;obtain ⟨hfz39_0,hfz39_1,hfz39_2,hfz39_3,hfz39_4,hfz39_5⟩:=fq6 BK106.out)|((with_reducible refine gate_callee (f:=21) rfl ?_);refine goesL_ (some 5) rfl rfl Try.func21 (by kernel_rfl) rfl #[.agg #[.int .i64 a0_0,.int .i64 a0_1]] rfl (by (try simp only [List.map_toArray,List.map_cons,List.map_nil]);first|done|rfl|(simp only [List.length_drop,List.length_take];rfl)) ?_;(with_reducible refine (celluloidref16_Even.calls k a0_0 a0_1 false _ A2.out).mono ?_);rintro e w40 ⟨rfl,hb⟩;refine ⟨_,rfl,?_⟩;replace BK106:=am (bw (by exact BK106.out) hb);replace HB:=am (ss (by repeat (first|(with_reducible first|exact HB.out|apply sa|apply sn|apply sd|refine sx ?_ GE106.out)|exact HB.out)) hb);(try clear hb);(try clear hb2);(try clear hk);(try clear hi)))
    go_ret
    exact ⟨by first|rfl|(simp [errW_none,errW_some] <;> rfl)|(simp [*,errW_none,errW_some] <;> rfl),by repeat (first|(with_reducible first|exact HB.out|apply sa|apply sn|apply sd|refine sx ?_ GE106.out)|exact HB.out)⟩

/-! ### celluloidlaw18_ref: function 11 -/
def celluloidlaw18_ref.f (a0_0 : Int) (a0_1 : Int) (a0_2 : Int) (a0_3 : Int) (a0_4 : Int) (a0_5 : Int) : Option (Int × Int × Int × Int × Int × Int):=some (a0_0,a0_1,a0_2,a0_3,a0_4,a0_5)
set_option maxHeartbeats 8000000 in
set_option maxRecDepth 100000 in
theorem celluloidlaw18_ref.calls (a0_0 : Int) (a0_1 : Int) (a0_2 : Int) (a0_3 : Int) (a0_4 : Int) (a0_5 : Int) (r1 : Int) (r2 : Int) (r3 : Int) (r4 : Int) (r5 : Int) (r6 : Int) (w : World) (h : celluloidlaw18_ref.f a0_0 a0_1 a0_2 a0_3 a0_4 a0_5 = some (r1,r2,r3,r4,r5,r6)) :
    Calls Try.prog 11 #[.agg #[.int .i64 a0_0,.int .i64 a0_1,.int .i64 a0_2,.int .i64 a0_3,.int .i64 a0_4,.int .i64 a0_5]] w fun e w' => e = .returned (.agg #[.int .i64 r1,.int .i64 r2,.int .i64 r3,.int .i64 r4,.int .i64 r5,.int .i64 r6]) ∧ Below w.heap.size w w':=by
  have hu25:=Try.underlying25;have hu27:=Try.underlying27;have HB:=am (Below.refl w.heap.size w);have H : (some (a0_0,a0_1,a0_2,a0_3,a0_4,a0_5)) = some (r1,r2,r3,r4,r5,r6):=h;clear h;simp only [Option.some.injEq,Prod.mk.injEq] at H;obtain ⟨rfl,rfl,rfl,rfl,rfl,rfl⟩:=H
  go_enter Try.func11,Try.ntmps11
  go_wp2_with (first|((with_reducible refine gate_dst (N:=1) rfl ?_);refine box_event ?hg (N:=1) ?hd (cs:=#[.int .i64 a0_0,.int .i64 a0_1,.int .i64 a0_2,.int .i64 a0_3,.int .i64 a0_4,.int .i64 a0_5]) (t:=25) ?hr ?_;(case hd => rfl);(case hg => rfl);(case hr => first|(go_simp;done)|(go_simp;rfl));intro gb109 hg w2 hbox hb;have BK109:=am (hbox);have GW109:=am ((by rw [hg];exact (sz (by repeat (first|(with_reducible first|exact HB.out|apply sa|apply sn|apply sd)|exact HB.out))) : w.heap.size ≤ gb109));have GE109:=am ((by rw [hg];exact (sz (by repeat (first|(with_reducible first|exact HB.out|apply sa|apply sn|apply sd)|exact HB.out))) : w.heap.size ≤ gb109));replace HB:=am (ss (by repeat (first|(with_reducible first|exact HB.out|apply sa|apply sn|apply sd)|exact HB.out)) hb);clear hb hbox hg)|((with_reducible refine gate_dst (N:=2) rfl ?_);refine box_event ?hg (N:=2) ?hd (cs:=#[.int .i64 0,.int .i64 0,.int .i64 0,.int .i64 0,.int .i64 0,.int .i64 0]) (t:=27) ?hr ?_;(case hd => rfl);(case hg => rfl);(case hr => first|(go_simp;done)|(go_simp;rfl));intro gb110 hg w3 hbox hb;have BK110:=am (hbox);obtain ⟨h1_,GW110⟩:=sg (by repeat (first|(with_reducible first|exact HB.out|apply sa|apply sn|apply sd|refine sx ?_ GE109.out)|exact HB.out)) hb hg;replace HB:=h1_;clear h1_;have GE110:=GW110;have NB109_110:=nb (by exact BK109.out) hg;have NB110_109:=ng (by exact BK109.out) hg;replace BK109:=am (bw (by exact BK109.out) hb);clear hb hbox hg;have hnb4:=NB109_110.out;have hnc4:=NB110_109.out;obtain ⟨hcz5_0,hcz5_1,hcz5_2,hcz5_3,hcz5_4,hcz5_5⟩:=cq6 BK109.out;obtain ⟨hfz5_0,hfz5_1,hfz5_2,hfz5_3,hfz5_4,hfz5_5⟩:=fq6 BK109.out;obtain ⟨hcz6_0,hcz6_1,hcz6_2,hcz6_3,hcz6_4,hcz6_5⟩:=cq6 BK110.out;obtain ⟨hfz6_0,hfz6_1,hfz6_2,hfz6_3,hfz6_4,hfz6_5⟩:=fq6 BK110.out))
  refine bodyPost_ret (results_cell_row rfl _ _ gb110 27 #[.int .i64 a0_0,.int .i64 a0_1,.int .i64 a0_2,.int .i64 a0_3,.int .i64 a0_4,.int .i64 a0_5] (0,0) _ rfl (bp6 BK110.out) Try.underlying27 rfl (by kernel_rfl)) rfl ?_
  exact ⟨by first|rfl|(simp [errW_none,errW_some] <;> rfl)|(simp [*,errW_none,errW_some] <;> rfl),by repeat (first|(with_reducible first|exact HB.out|apply sa|apply sn|apply sd|refine sy ?_ (by assumption))|exact HB.out)⟩

/-! ### celluloidlaw18_far: function 12 -/
def celluloidlaw18_far.f (a0 : Int) (a1 : Int) : Option (Bool):=if (mx a0 a1) > 16777216 then (some true) else (some (decide ((mn a0 a1) < (-16777216))))
set_option maxHeartbeats 8000000 in
set_option maxRecDepth 100000 in
theorem celluloidlaw18_far.calls (a0 : Int) (a1 : Int) (r : Bool) (w : World) (h : celluloidlaw18_far.f a0 a1 = some r) :
    Calls Try.prog 12 #[.int .i64 a0,.int .i64 a1] w fun e w' => e = .returned (.bool r) ∧ Below w.heap.size w w':=by
  have HB:=am (Below.refl w.heap.size w);have H : (if (mx a0 a1) > 16777216 then (some true) else (some (decide ((mn a0 a1) < (-16777216))))) = some r:=h;clear h;obtain ⟨ji3,hji3⟩ : ∃ j_ : Int,(mx a0 a1) = j_:=⟨_,rfl⟩
  replace H : (if (ji3) > 16777216 then (some true) else (some (decide ((mn a0 a1) < (-16777216))))) = some r:=by first|(rw [hji3] at H;exact H)|(simp only [hji3] at H ⊢;exact H)
  have hji3_ : (if a0 < a1 then a1 else a0) = ji3:=hji3
  by_cases c4 : (ji3) > 16777216
  · rw [if_pos c4] at H
    have c4b0 : decide (16777216 < (ji3)) = true:=decide_eq_true c4;clear c4;obtain rfl:=Option.some.inj H
    go_enter Try.func12,Try.ntmps12
    go_wp2
    go_ret
    exact ⟨by first|rfl|(simp [errW_none,errW_some] <;> rfl)|(simp only [← hji3];first|rfl|(simp [errW_none,errW_some] <;> rfl))|(simp [*,errW_none,errW_some] <;> rfl),by repeat (first|(with_reducible first|exact HB.out|apply sa|apply sn|apply sd)|exact HB.out)⟩
  · rw [if_neg c4] at H
    have c4b0 : decide (16777216 < (ji3)) = false:=decide_eq_false c4;clear c4;obtain ⟨ji5,hji5⟩ : ∃ j_ : Int,(mn a0 a1) = j_:=⟨_,rfl⟩
    replace H : (some (decide ((ji5) < (-16777216)))) = some r:=by first|(rw [hji5] at H;exact H)|(simp only [hji5] at H ⊢;exact H)
    have hji5_ : (if a1 < a0 then a1 else a0) = ji5:=hji5;obtain rfl:=Option.some.inj H
    go_enter Try.func12,Try.ntmps12
    go_wp2
    go_ret
    exact ⟨by first|rfl|(simp [errW_none,errW_some] <;> rfl)|(simp only [← hji3, ← hji5];first|rfl|(simp [errW_none,errW_some] <;> rfl))|(simp [*,errW_none,errW_some] <;> rfl),by repeat (first|(with_reducible first|exact HB.out|apply sa|apply sn|apply sd)|exact HB.out)⟩

/-! ### celluloidref18_square: function 22 -/
def celluloidref18_square.f (a0_0 : Int) (a0_1 : Int) (a1_0 : Int) (a1_1 : Int) : Option (Int):=some (wrap64 ((wrap64 ((wrap64 (a0_0 - a1_0)) * (wrap64 (a0_0 - a1_0)))) + (wrap64 ((wrap64 (a0_1 - a1_1)) * (wrap64 (a0_1 - a1_1))))))
set_option maxHeartbeats 8000000 in
set_option maxRecDepth 100000 in
theorem celluloidref18_square.calls (a0_0 : Int) (a0_1 : Int) (a1_0 : Int) (a1_1 : Int) (r : Int) (w : World) (h : celluloidref18_square.f a0_0 a0_1 a1_0 a1_1 = some r) :
    Calls Try.prog 22 #[.agg #[.int .i64 a0_0,.int .i64 a0_1],.agg #[.int .i64 a1_0,.int .i64 a1_1]] w fun e w' => e = .returned (.int .i64 r) ∧ Below w.heap.size w w':=by
  have hu23:=Try.underlying23;have HB:=am (Below.refl w.heap.size w);have H : (some (wrap64 ((wrap64 ((wrap64 (a0_0 - a1_0)) * (wrap64 (a0_0 - a1_0)))) + (wrap64 ((wrap64 (a0_1 - a1_1)) * (wrap64 (a0_1 - a1_1))))))) = some r:=h;clear h;obtain rfl:=Option.some.inj H
  go_enter Try.func22,Try.ntmps22
  go_wp2_with (first|((with_reducible refine gate_dst (N:=2) rfl ?_);refine box_event ?hg (N:=2) ?hd (cs:=#[.int .i64 a0_0,.int .i64 a0_1]) (t:=23) ?hr ?_;(case hd => rfl);(case hg => rfl);(case hr => first|(go_simp;done)|(go_simp;rfl));intro gb111 hg w3 hbox hb;have BK111:=am (hbox);have GW111:=am ((by rw [hg];exact (sz (by repeat (first|(with_reducible first|exact HB.out|apply sa|apply sn|apply sd)|exact HB.out))) : w.heap.size ≤ gb111));have GE111:=am ((by rw [hg];exact (sz (by repeat (first|(with_reducible first|exact HB.out|apply sa|apply sn|apply sd)|exact HB.out))) : w.heap.size ≤ gb111));replace HB:=am (ss (by repeat (first|(with_reducible first|exact HB.out|apply sa|apply sn|apply sd)|exact HB.out)) hb);clear hb hbox hg)|((with_reducible refine gate_dst (N:=3) rfl ?_);refine box_event ?hg (N:=3) ?hd (cs:=#[.int .i64 a1_0,.int .i64 a1_1]) (t:=23) ?hr ?_;(case hd => rfl);(case hg => rfl);(case hr => first|(go_simp;done)|(go_simp;rfl));intro gb112 hg w4 hbox hb;have BK112:=am (hbox);obtain ⟨h1_,GW112⟩:=sg (by repeat (first|(with_reducible first|exact HB.out|apply sa|apply sn|apply sd|refine sx ?_ GE111.out)|exact HB.out)) hb hg;replace HB:=h1_;clear h1_;have GE112:=GW112;have NB111_112:=nb (by exact BK111.out) hg;have NB112_111:=ng (by exact BK111.out) hg;replace BK111:=am (bw (by exact BK111.out) hb);clear hb hbox hg;have hnb5:=NB111_112.out;have hnc5:=NB112_111.out;obtain ⟨hcz6_0,hcz6_1⟩:=cq2 BK111.out;obtain ⟨hfz6_0,hfz6_1⟩:=fq2 BK111.out;obtain ⟨hcz7_0,hcz7_1⟩:=cq2 BK112.out;obtain ⟨hfz7_0,hfz7_1⟩:=fq2 BK112.out))
  go_ret
  exact ⟨by first|rfl|(simp [errW_none,errW_some] <;> rfl)|(simp [*,errW_none,errW_some] <;> rfl),by repeat (first|(with_reducible first|exact HB.out|apply sa|apply sn|apply sd|refine sy ?_ (by assumption))|exact HB.out)⟩

/-! ### celluloidref01_digits: function 45 -/
def celluloidref01_digits.l0 : Nat → Int → Bool → List Int → Int → Option (List Int × Bool)
  | 0,_,_,_,_ => none
  | k + 1,x0,x4,x5,x6 => if x6 < 5 then (if (Int.tmod x0 65536) < 0 then (if x5.length < 17592186044416 then (celluloidref01_digits.l0 k (wrap64 (Int.tdiv x0 65536)) x4 (x5 ++ [wrap64 (-(Int.tmod x0 65536))]) (wrap64 (x6 + 1))) else (none)) else (if x5.length < 17592186044416 then (celluloidref01_digits.l0 k (wrap64 (Int.tdiv x0 65536)) x4 (x5 ++ [Int.tmod x0 65536]) (wrap64 (x6 + 1))) else (none))) else (some (x5,x4))
def celluloidref01_digits.f (k : Nat) (a0 : Int) : Option (List Int × Bool):=celluloidref01_digits.l0 k a0 (decide (a0 < 0)) ([] : List Int) 0
theorem celluloidref01_digits.mono_l : ∀ k,(∀ y0 y1 y2 y3,LeO (celluloidref01_digits.l0 k y0 y1 y2 y3) (celluloidref01_digits.l0 (k + 1) y0 y1 y2 y3))
  | 0 => fun _ _ _ _ r h => by simp [celluloidref01_digits.l0] at h
  | k + 1 => by
    have ih0:=celluloidref01_digits.mono_l k
    · intro y0 y1 y2 y3
      unfold celluloidref01_digits.l0
      repeat' first
      | (with_reducible exact ih0 _ _ _ _)
      | (with_reducible exact LeO.refl _)
      | (with_reducible exact LeO.none _)
      | (with_reducible refine LeO.ite ?_ ?_)
      | (with_reducible refine LeO.bind ?_ (fun _ => ?_))
      | exact ih0 _ _ _ _
      | exact LeO.none _
      | refine LeO.ite ?_ ?_
      | refine LeO.bind ?_ (fun _ => ?_)
theorem celluloidref01_digits.mono : ∀ a0 k,LeO (celluloidref01_digits.f k a0) (celluloidref01_digits.f (k + 1) a0):=by
  intro a0 k
  have ih0:=celluloidref01_digits.mono_l k
  unfold celluloidref01_digits.f
  repeat' first
      | (with_reducible exact ih0 _ _ _ _)
      | (with_reducible exact LeO.refl _)
      | (with_reducible exact LeO.none _)
      | (with_reducible refine LeO.ite ?_ ?_)
      | (with_reducible refine LeO.bind ?_ (fun _ => ?_))
      | exact ih0 _ _ _ _
      | exact LeO.none _
      | refine LeO.ite ?_ ?_
      | refine LeO.bind ?_ (fun _ => ?_)
set_option maxHeartbeats 8000000 in
set_option maxRecDepth 100000 in
theorem celluloidref01_digits.calls (k : Nat) (a0 : Int) (r1 : List Int) (r2 : Bool) (w : World) (h : celluloidref01_digits.f k a0 = some (r1,r2)) :
    Calls Try.prog 45 #[.int .i64 a0] w fun e w' => ∃ v0_ : Value,e = .returned (.tuple #[v0_,.bool r2]) ∧ Kd.R (Kd.int .i64) 3 w' w.heap.size (fun _ => True) v0_ r1 ∧ Below w.heap.size w w':=by
  have HB:=am (Below.refl w.heap.size w);have H : (celluloidref01_digits.l0 k a0 (decide (a0 < 0)) ([] : List Int) 0) = some (r1,r2):=h;clear h;have H':=am H;clear H
  go_enter Try.func45,Try.ntmps45
  go_wp2
  go_loopg [0,5,6] k (fun kq v0 v5 v6 w' => ∃ (x0_1 : Int) (x5_1 : List Int) (x6_1 : Int),v0 = .int .i64 x0_1 ∧ v6 = .int .i64 x6_1 ∧ Aside0 (celluloidref01_digits.l0 kq x0_1 (decide (a0 < 0)) x5_1 x6_1 = some (r1,r2)) ∧ Aside0 (kq ≤ k) ∧ Aside0 (Kd.R (Kd.int .i64) 3 w' w.heap.size (fun _ => True) v5 x5_1) ∧ Aside0 (Below w.heap.size w w'))
  case atStart => exact ⟨(a0),(([] : List Int)),(0),(by first|rfl|(simp;done)|(simp [*];done)),(by first|rfl|(simp;done)|(simp [*];done)),H',⟨Nat.le_refl _⟩,⟨by first|exact Kd.R_nil _ _ _ _ _|exact Kd.N_nil _ _ _ _ _|exact Kd.V_nil _ _ _ _ _|exact Kd.Q_nil _ _ _ _ _|exact Kd.S_nil _ _ _ _ _⟩,⟨by repeat (first|(with_reducible first|exact HB.out|apply sa|apply sn|apply sd)|exact HB.out)⟩⟩
  case round =>
    clear H';obtain ⟨x0_1,x5_1,x6_1,rfl,rfl,HA,HK1,HO_5,HB⟩:=hrel
    cases gk with
    | zero => exact absurd HA.out (by simp [celluloidref01_digits.l0])
    | succ k1 =>
      have H:=HA.out;clear HA;simp only [celluloidref01_digits.l0] at H
      by_cases c2 : x6_1 < 5
      · rw [if_pos c2] at H
        have c2b0 : decide (x6_1 < 5) = true:=decide_eq_true c2;clear c2
        by_cases c3 : (Int.tmod x0_1 65536) < 0
        · rw [if_pos c3] at H
          have c3b0 : decide ((Int.tmod x0_1 65536) < 0) = true:=decide_eq_true c3;clear c3
          by_cases c4 : x5_1.length < 17592186044416
          · rw [if_pos c4] at H
            have LMc4:=am c4;clear c4;obtain ⟨y113,hy113⟩ : ∃ y_ : List Int,y_ = (x5_1 ++ [wrap64 (-(Int.tmod x0_1 65536))]):=⟨_,rfl⟩
            replace H : (celluloidref01_digits.l0 k1 (wrap64 (Int.tdiv x0_1 65536)) (decide (a0 < 0)) y113 (wrap64 (x6_1 + 1))) = some (r1,r2):=by first|(rw [hy113];with_reducible exact H)|(have H2_:=(Option.bind_some _ _).symm.trans H;rw [hy113];with_reducible exact H2_)|(have H2_:=(Option.bind_some _ _).symm.trans H;with_reducible exact H2_)|with_reducible exact H|(rw [hy113];exact H)|exact H
            have Ny113:=am hy113;clear hy113;have H':=am H;clear H
            go_wp2_with (first|((with_reducible refine gate_builtin (b:=.append) (xs:=#[.tmp 22,.tmp 24]) rfl ?_);at_builtin;refine Kd.R_append (Kd.int .i64) (w0:=w) w.heap.size rfl (.tmp 22) (.tmp 24) 35 3 (.int .i64 0) 8 rfl Try.underlying35 info3 rfl (by decide) (by omega) u5 x5_1 (wrap64 (-(Int.tmod x0_1 65536))) [.int .i64 (wrap64 (-(Int.tmod x0_1 65536)))] (fun _ => True) (fun _ => False) rfl rfl ?aP (fun _ hk => hk.elim) ?aF ?aO ?aB ?aS ?aL ?_;(case aP => exact rfl);(case aB => exact (by repeat (first|(with_reducible first|exact HB.out|apply sa|apply sn|apply sd)|exact HB.out)));(case aF => exact (fun _ _ => trivial));(case aO => exact (by (with_reducible repeat (first|apply Kd.R_alloc|apply Kd.R_drewN|apply Kd.R_drew));exact HO_5.out));(case aS => exact (sz (by repeat (first|(with_reducible first|exact HB.out|apply sa|apply sn|apply sd)|exact HB.out))));(case aL => have:=LMc4.out;omega);intro v114 w5 ho hb hg hat;rw [← Ny113.out] at ho;have n0_:=am (hb);have n1_:=am (ho);clear HB;clear HO_5;have HB:=n0_;have HO115:=n1_;clear n0_ n1_;clear ho hb hg hat))
            go_roundg k1
            case measure => have:=HK1.out;omega
            case rel => exact ⟨(wrap64 (Int.tdiv x0_1 65536)),(y113),(wrap64 (x6_1 + 1)),(by first|rfl|(simp;done)|(simp [*];done)),(by first|rfl|(simp;done)|(simp [*];done)),H',⟨by have:=HK1.out;omega⟩,⟨by (with_reducible repeat (first|apply Kd.R_alloc|apply Kd.R_drewN|apply Kd.R_drew));exact HO115.out⟩,⟨by repeat (first|(with_reducible first|exact HB.out|apply sa|apply sn|apply sd)|exact HB.out)⟩⟩
          · rw [if_neg c4] at H
            exact absurd H (by simp)
        · rw [if_neg c3] at H
          have c3b0 : decide ((Int.tmod x0_1 65536) < 0) = false:=decide_eq_false c3;clear c3
          by_cases c6 : x5_1.length < 17592186044416
          · rw [if_pos c6] at H
            have LMc6:=am c6;clear c6;obtain ⟨y116,hy116⟩ : ∃ y_ : List Int,y_ = (x5_1 ++ [Int.tmod x0_1 65536]):=⟨_,rfl⟩
            replace H : (celluloidref01_digits.l0 k1 (wrap64 (Int.tdiv x0_1 65536)) (decide (a0 < 0)) y116 (wrap64 (x6_1 + 1))) = some (r1,r2):=by first|(rw [hy116];with_reducible exact H)|(have H2_:=(Option.bind_some _ _).symm.trans H;rw [hy116];with_reducible exact H2_)|(have H2_:=(Option.bind_some _ _).symm.trans H;with_reducible exact H2_)|with_reducible exact H|(rw [hy116];exact H)|exact H
            have Ny116:=am hy116;clear hy116;have H':=am H;clear H
            go_wp2_with (first|((with_reducible refine gate_builtin (b:=.append) (xs:=#[.tmp 22,.tmp 24]) rfl ?_);at_builtin;refine Kd.R_append (Kd.int .i64) (w0:=w) w.heap.size rfl (.tmp 22) (.tmp 24) 35 3 (.int .i64 0) 8 rfl Try.underlying35 info3 rfl (by decide) (by omega) u5 x5_1 (Int.tmod x0_1 65536) [.int .i64 (Int.tmod x0_1 65536)] (fun _ => True) (fun _ => False) rfl rfl ?aP (fun _ hk => hk.elim) ?aF ?aO ?aB ?aS ?aL ?_;(case aP => exact rfl);(case aB => exact (by repeat (first|(with_reducible first|exact HB.out|apply sa|apply sn|apply sd)|exact HB.out)));(case aF => exact (fun _ _ => trivial));(case aO => exact (by (with_reducible repeat (first|apply Kd.R_alloc|apply Kd.R_drewN|apply Kd.R_drew));exact HO_5.out));(case aS => exact (sz (by repeat (first|(with_reducible first|exact HB.out|apply sa|apply sn|apply sd)|exact HB.out))));(case aL => have:=LMc6.out;omega);intro v117 w7 ho hb hg hat;rw [← Ny116.out] at ho;have n0_:=am (hb);have n1_:=am (ho);clear HB;clear HO_5;have HB:=n0_;have HO118:=n1_;clear n0_ n1_;clear ho hb hg hat))
            go_roundg k1
            case measure => have:=HK1.out;omega
            case rel => exact ⟨(wrap64 (Int.tdiv x0_1 65536)),(y116),(wrap64 (x6_1 + 1)),(by first|rfl|(simp;done)|(simp [*];done)),(by first|rfl|(simp;done)|(simp [*];done)),H',⟨by have:=HK1.out;omega⟩,⟨by (with_reducible repeat (first|apply Kd.R_alloc|apply Kd.R_drewN|apply Kd.R_drew));exact HO118.out⟩,⟨by repeat (first|(with_reducible first|exact HB.out|apply sa|apply sn|apply sd)|exact HB.out)⟩⟩
          · rw [if_neg c6] at H
            exact absurd H (by simp)
      · rw [if_neg c2] at H
        have c2b0 : decide (x6_1 < 5) = false:=decide_eq_false c2;clear c2;simp only [Option.some.injEq,Prod.mk.injEq] at H;obtain ⟨rfl,rfl⟩:=H
        go_wp2
        go_ret2
        exact ⟨_,by first|rfl|(simp [errW_none,errW_some] <;> rfl)|(simp [*,errW_none,errW_some] <;> rfl),by (with_reducible repeat (first|apply Kd.R_alloc|apply Kd.R_drewN|apply Kd.R_drew));exact HO_5.out,by repeat (first|(with_reducible first|exact HB.out|apply sa|apply sn|apply sd)|exact HB.out)⟩

/-! ### celluloidref01_times: function 46 -/
mutual
def celluloidref01_times.l0 : Nat → List Int → List Int → List Int → Int → Option (List Int)
  | 0,_,_,_,_ => none
  | k + 1,x0,x1,x5,x6 => if x6 < (x0.length : Int) then (celluloidref01_times.l1 k x0 x1 x5 x6 0 0) else (some x5)
def celluloidref01_times.l1 : Nat → List Int → List Int → List Int → Int → Int → Int → Option (List Int)
  | 0,_,_,_,_,_,_ => none
  | k + 1,x0,x1,x5,x6,x7,x8 => if x8 < (x1.length : Int) then (if 0 ≤ (wrap64 (x6 + x8)) then (if (wrap64 (x6 + x8)) < (x5.length : Int) then (if 0 ≤ x6 then (if x6 < (x0.length : Int) then (if 0 ≤ x8 then (celluloidref01_times.l1 k x0 x1 (x5.set ((wrap64 (x6 + x8)) : Int).toNat (Int.tmod (wrap64 ((wrap64 ((rd x5 (wrap64 (x6 + x8))) + (wrap64 ((rd x0 x6) * (rd x1 x8))))) + x7)) 65536)) x6 (wrap64 (Int.tdiv (wrap64 ((wrap64 ((rd x5 (wrap64 (x6 + x8))) + (wrap64 ((rd x0 x6) * (rd x1 x8))))) + x7)) 65536)) (wrap64 (x8 + 1))) else (none)) else (none)) else (none)) else (none)) else (none)) else (if 0 ≤ (wrap64 (x6 + (x1.length : Int))) then (if (wrap64 (x6 + (x1.length : Int))) < (x5.length : Int) then (celluloidref01_times.l0 k x0 x1 (x5.set ((wrap64 (x6 + (x1.length : Int))) : Int).toNat (wrap64 ((rd x5 (wrap64 (x6 + (x1.length : Int)))) + x7))) (wrap64 (x6 + 1))) else (none)) else (none))
end
def celluloidref01_times.f (k : Nat) (l0 : List Int) (l1 : List Int) : Option (List Int):=if 0 ≤ (wrap64 ((l0.length : Int) + (l1.length : Int))) then (if (wrap64 ((l0.length : Int) + (l1.length : Int)) : Int).toNat ≤ 35184372088832 then (celluloidref01_times.l0 k l0 l1 (List.replicate (wrap64 ((l0.length : Int) + (l1.length : Int)) : Int).toNat 0) 0) else (none)) else (none)
theorem celluloidref01_times.mono_l : ∀ k,(∀ y0 y1 y2 y3,LeO (celluloidref01_times.l0 k y0 y1 y2 y3) (celluloidref01_times.l0 (k + 1) y0 y1 y2 y3)) ∧ (∀ y0 y1 y2 y3 y4 y5,LeO (celluloidref01_times.l1 k y0 y1 y2 y3 y4 y5) (celluloidref01_times.l1 (k + 1) y0 y1 y2 y3 y4 y5))
  | 0 => ⟨fun _ _ _ _ r h => by simp [celluloidref01_times.l0] at h,fun _ _ _ _ _ _ r h => by simp [celluloidref01_times.l1] at h⟩
  | k + 1 => by
    obtain ⟨ih0,ih1⟩:=celluloidref01_times.mono_l k;refine ⟨?_,?_⟩
    · intro y0 y1 y2 y3
      unfold celluloidref01_times.l0
      repeat' first
      | (with_reducible exact ih0 _ _ _ _)
      | (with_reducible exact ih1 _ _ _ _ _ _)
      | (with_reducible exact LeO.refl _)
      | (with_reducible exact LeO.none _)
      | (with_reducible refine LeO.ite ?_ ?_)
      | (with_reducible refine LeO.bind ?_ (fun _ => ?_))
      | exact ih0 _ _ _ _
      | exact ih1 _ _ _ _ _ _
      | exact LeO.none _
      | refine LeO.ite ?_ ?_
      | refine LeO.bind ?_ (fun _ => ?_)
    · intro y0 y1 y2 y3 y4 y5
      unfold celluloidref01_times.l1
      repeat' first
      | (with_reducible exact ih0 _ _ _ _)
      | (with_reducible exact ih1 _ _ _ _ _ _)
      | (with_reducible exact LeO.refl _)
      | (with_reducible exact LeO.none _)
      | (with_reducible refine LeO.ite ?_ ?_)
      | (with_reducible refine LeO.bind ?_ (fun _ => ?_))
      | exact ih0 _ _ _ _
      | exact ih1 _ _ _ _ _ _
      | exact LeO.none _
      | refine LeO.ite ?_ ?_
      | refine LeO.bind ?_ (fun _ => ?_)
theorem celluloidref01_times.mono : ∀ a0 a1 k,LeO (celluloidref01_times.f k a0 a1) (celluloidref01_times.f (k + 1) a0 a1):=by
  intro a0 a1 k
  obtain ⟨ih0,ih1⟩:=celluloidref01_times.mono_l k
  unfold celluloidref01_times.f
  repeat' first
      | (with_reducible exact ih0 _ _ _ _)
      | (with_reducible exact ih1 _ _ _ _ _ _)
      | (with_reducible exact LeO.refl _)
      | (with_reducible exact LeO.none _)
      | (with_reducible refine LeO.ite ?_ ?_)
      | (with_reducible refine LeO.bind ?_ (fun _ => ?_))
      | exact ih0 _ _ _ _
      | exact ih1 _ _ _ _ _ _
      | exact LeO.none _
      | refine LeO.ite ?_ ?_
      | refine LeO.bind ?_ (fun _ => ?_)
set_option maxHeartbeats 8000000 in
set_option maxRecDepth 100000 in
theorem celluloidref01_times.calls (k : Nat) (A0 : Option Addr) (c0 : Nat) (l0 : List Int) (A1 : Option Addr) (c1 : Nat) (l1 : List Int) (r : List Int) (w : World) (hr0 : Kd.C (Kd.int .i64) w A0 l0.length l0) (hc0 : l0.length ≤ c0) (hr1 : Kd.C (Kd.int .i64) w A1 l1.length l1) (hc1 : l1.length ≤ c1) (h : celluloidref01_times.f k l0 l1 = some r) :
    Calls Try.prog 46 #[.slice A0 l0.length c0,.slice A1 l1.length c1] w fun e w' => ∃ v0_ : Value,e = .returned (v0_) ∧ Kd.R (Kd.int .i64) 3 w' w.heap.size (fun _ => True) v0_ r ∧ Below w.heap.size w w':=by
  have HR0:=am hr0;have HC0:=am hc0;clear hr0 hc0;have HR1:=am hr1;have HC1:=am hc1;clear hr1 hc1;have HB:=am (Below.refl w.heap.size w);have H : (if 0 ≤ (wrap64 ((l0.length : Int) + (l1.length : Int))) then (if (wrap64 ((l0.length : Int) + (l1.length : Int)) : Int).toNat ≤ 35184372088832 then (celluloidref01_times.l0 k l0 l1 (List.replicate (wrap64 ((l0.length : Int) + (l1.length : Int)) : Int).toNat 0) 0) else (none)) else (none)) = some r:=h;clear h;obtain ⟨ji3,hji3⟩ : ∃ j_ : Int,(wrap64 ((l0.length : Int) + (l1.length : Int))) = j_:=⟨_,rfl⟩
  replace H : (if 0 ≤ (ji3) then (if (ji3 : Int).toNat ≤ 35184372088832 then (celluloidref01_times.l0 k l0 l1 (List.replicate (ji3 : Int).toNat 0) 0) else (none)) else (none)) = some r:=by first|(rw [hji3] at H;exact H)|(simp only [hji3] at H ⊢;exact H)
  have hji3w : (IntKind.i64.wrap ((l0.length : Int) + (l1.length : Int))) = ji3:=(i64_w _).trans hji3
  by_cases c4 : 0 ≤ (ji3)
  · rw [if_pos c4] at H
    have c4b0:=eq_true c4;have c4b1 : decide (0 ≤ (ji3)) = true:=decide_eq_true c4;clear c4
    by_cases c5 : (ji3 : Int).toNat ≤ 35184372088832
    · rw [if_pos c5] at H
      have c5b0:=eq_true c5;have c5b1 : decide ((ji3 : Int).toNat ≤ 35184372088832) = true:=decide_eq_true c5;clear c5;obtain ⟨y119,hy119⟩ : ∃ y_ : List Int,y_ = (List.replicate (ji3 : Int).toNat 0):=⟨_,rfl⟩
      replace H : (celluloidref01_times.l0 k l0 l1 y119 0) = some r:=by first|(rw [hy119];with_reducible exact H)|(have H2_:=(Option.bind_some _ _).symm.trans H;rw [hy119];with_reducible exact H2_)|(have H2_:=(Option.bind_some _ _).symm.trans H;with_reducible exact H2_)|with_reducible exact H|(rw [hy119];exact H)|exact H
      have Ny119:=am hy119;clear hy119;have H':=am H;clear H
      go_enter Try.func46,Try.ntmps46
      go_wp2_with (first|((with_reducible refine gate_dst (N:=15) rfl ?_);refine Kd.R_make (Kd.int .i64) _ 3 rfl (N:=15) rfl 35 _ _ rfl ji3 rfl rfl Try.underlying35 (.int .i64 0) 8 info3 rfl (by decide) (by omega) 0 (ok:=fun _ => True) (okp:=fun _ => True) rfl (fun _ hk => hk) trivial (of_decide_eq_true (by first|(with_reducible assumption)|assumption)) (Nat.le_trans (Nat.mul_le_mul_right _ (of_decide_eq_true (by first|(with_reducible assumption)|assumption) : ji3.toNat ≤ 35184372088832)) (by omega)) (Below.refl _ _) (Nat.le_refl _) ?_;intro v120 w6 ho7 hb hg_ hnew_;clear hg_ hnew_;(first|rw [← Ny119.out] at ho7|(simp only [Int.reduceToNat] at ho7;rw [← Ny119.out] at ho7));have HO121:=am (Kd.R_lower ho7 (sz (by repeat (first|(with_reducible first|exact HB.out|apply sa|apply sn|apply sd)|exact HB.out))));replace HB:=am (ss (by repeat (first|(with_reducible first|exact HB.out|apply sa|apply sn|apply sd)|exact HB.out)) hb);clear hb ho7))
      repeat (go_quiet (first|((with_reducible refine gate_dst (N:=15) rfl ?_);refine Kd.R_make (Kd.int .i64) _ 3 rfl (N:=15) rfl 35 _ _ rfl ji3 rfl rfl Try.underlying35 (.int .i64 0) 8 info3 rfl (by decide) (by omega) 0 (ok:=fun _ => True) (okp:=fun _ => True) rfl (fun _ hk => hk) trivial (of_decide_eq_true (by first|(with_reducible assumption)|assumption)) (Nat.le_trans (Nat.mul_le_mul_right _ (of_decide_eq_true (by first|(with_reducible assumption)|assumption) : ji3.toNat ≤ 35184372088832)) (by omega)) (Below.refl _ _) (Nat.le_refl _) ?_;intro v120 w6 ho7 hb hg_ hnew_;clear hg_ hnew_;(first|rw [← Ny119.out] at ho7|(simp only [Int.reduceToNat] at ho7;rw [← Ny119.out] at ho7));have n0_:=am (Kd.R_lower ho7 (sz (by repeat (first|(with_reducible first|exact HB.out|apply sa|apply sn|apply sd)|exact HB.out))));have n1_:=am (ss (by repeat (first|(with_reducible first|exact HB.out|apply sa|apply sn|apply sd)|exact HB.out)) hb);clear HB;have HO121:=n0_;have HB:=n1_;clear n0_ n1_;clear hb ho7));try go_wp2_with (first|((with_reducible refine gate_dst (N:=15) rfl ?_);refine Kd.R_make (Kd.int .i64) _ 3 rfl (N:=15) rfl 35 _ _ rfl ji3 rfl rfl Try.underlying35 (.int .i64 0) 8 info3 rfl (by decide) (by omega) 0 (ok:=fun _ => True) (okp:=fun _ => True) rfl (fun _ hk => hk) trivial (of_decide_eq_true (by first|(with_reducible assumption)|assumption)) (Nat.le_trans (Nat.mul_le_mul_right _ (of_decide_eq_true (by first|(with_reducible assumption)|assumption) : ji3.toNat ≤ 35184372088832)) (by omega)) (Below.refl _ _) (Nat.le_refl _) ?_;intro v120 w6 ho7 hb hg_ hnew_;clear hg_ hnew_;(first|rw [← Ny119.out] at ho7|(simp only [Int.reduceToNat] at ho7;rw [← Ny119.out] at ho7));have n0_:=am (Kd.R_lower ho7 (sz (by repeat (first|(with_reducible first|exact HB.out|apply sa|apply sn|apply sd)|exact HB.out))));have n1_:=am (ss (by repeat (first|(with_reducible first|exact HB.out|apply sa|apply sn|apply sd)|exact HB.out)) hb);clear HB;have HO121:=n0_;have HB:=n1_;clear n0_ n1_;clear hb ho7)))
      go_loopg [6] k (fun kq v6 w' => ∃ (x5_1 : List Int) (x6_1 : Int),v6 = .int .i64 x6_1 ∧ Aside0 (celluloidref01_times.l0 kq l0 l1 x5_1 x6_1 = some r) ∧ Aside0 (kq ≤ k) ∧ Aside0 (Kd.R (Kd.int .i64) 3 w' w.heap.size (fun _ => True) v120 x5_1) ∧ Aside0 (Below w.heap.size w w'))
      case atStart => exact ⟨(y119),(0),(by first|rfl|(simp;done)|(simp [*];done)),H',⟨Nat.le_refl _⟩,⟨by (with_reducible repeat (first|apply Kd.R_alloc|apply Kd.R_drewN|apply Kd.R_drew));exact HO121.out⟩,⟨by repeat (first|(with_reducible first|exact HB.out|apply sa|apply sn|apply sd)|exact HB.out)⟩⟩
      case round =>
        clear H'
        try clear c1
        try clear p2
        try clear c4
        try clear c4b0
        try clear c4b1
        try clear c5
        try clear c5b0
        try clear c5b1
        try clear p6
        obtain ⟨x5_1,x6_1,rfl,HA,HK1,HO_5,HB⟩:=hrel
        cases gk with
        | zero => exact absurd HA.out (by simp [celluloidref01_times.l0])
        | succ k1 =>
          have H:=HA.out;clear HA;simp only [celluloidref01_times.l0] at H
          by_cases c8 : x6_1 < (l0.length : Int)
          · rw [if_pos c8] at H
            have c8b0 : decide (x6_1 < (l0.length : Int)) = true:=decide_eq_true c8;clear c8;have H':=am H;clear H
            go_wp2
            repeat (go_quiet (fail);try go_wp2)
            go_loopg [7,8] k1 (fun kq v7 v8 w' => ∃ (x5_2 : List Int) (x7_2 : Int) (x8_2 : Int),v7 = .int .i64 x7_2 ∧ v8 = .int .i64 x8_2 ∧ Aside0 (celluloidref01_times.l1 kq l0 l1 x5_2 x6_1 x7_2 x8_2 = some r) ∧ Aside0 (kq ≤ k1) ∧ Aside0 (Kd.R (Kd.int .i64) 3 w' w.heap.size (fun _ => True) v120 x5_2) ∧ Aside0 (Below w.heap.size w w'))
            case atStart => exact ⟨(x5_1),(0),(0),(by first|rfl|(simp;done)|(simp [*];done)),(by first|rfl|(simp;done)|(simp [*];done)),H',⟨Nat.le_refl _⟩,⟨by (with_reducible repeat (first|apply Kd.R_alloc|apply Kd.R_drewN|apply Kd.R_drew));exact HO_5.out⟩,⟨by repeat (first|(with_reducible first|exact HB.out|apply sa|apply sn|apply sd)|exact HB.out)⟩⟩
            case round =>
              clear H'
              try clear c1
              try clear p2
              try clear c4
              try clear c4b0
              try clear c4b1
              try clear c5
              try clear c5b0
              try clear c5b1
              try clear p6
              try clear c8
              try clear c8b0
              try clear p2
              try clear p6
              obtain ⟨x5_2,x7_2,x8_2,rfl,rfl,HA,HK2,HO_5,HB⟩:=hrel
              cases gk with
              | zero => exact absurd HA.out (by simp [celluloidref01_times.l1])
              | succ k2 =>
                have H:=HA.out;clear HA;simp only [celluloidref01_times.l1] at H
                by_cases c9 : x8_2 < (l1.length : Int)
                · rw [if_pos c9] at H
                  have c9b0 : decide (x8_2 < (l1.length : Int)) = true:=decide_eq_true c9;clear c9;obtain ⟨ji10,hji10⟩ : ∃ j_ : Int,(wrap64 (x6_1 + x8_2)) = j_:=⟨_,rfl⟩
                  replace H : (if 0 ≤ (ji10) then (if (ji10) < (x5_2.length : Int) then (if 0 ≤ x6_1 then (if x6_1 < (l0.length : Int) then (if 0 ≤ x8_2 then (celluloidref01_times.l1 k2 l0 l1 (x5_2.set ((ji10) : Int).toNat (Int.tmod (wrap64 ((wrap64 ((rd x5_2 (ji10)) + (wrap64 ((rd l0 x6_1) * (rd l1 x8_2))))) + x7_2)) 65536)) x6_1 (wrap64 (Int.tdiv (wrap64 ((wrap64 ((rd x5_2 (ji10)) + (wrap64 ((rd l0 x6_1) * (rd l1 x8_2))))) + x7_2)) 65536)) (wrap64 (x8_2 + 1))) else (none)) else (none)) else (none)) else (none)) else (none)) = some r:=by first|(rw [hji10] at H;exact H)|(simp only [hji10] at H ⊢;exact H)
                  have hji10w : (IntKind.i64.wrap (x6_1 + x8_2)) = ji10:=(i64_w _).trans hji10
                  by_cases c11 : 0 ≤ (ji10)
                  · rw [if_pos c11] at H
                    have c11b0 : decide (0 ≤ (ji10)) = true:=decide_eq_true c11;clear c11
                    by_cases c12 : (ji10) < (x5_2.length : Int)
                    · rw [if_pos c12] at H
                      have c12b0 : decide ((ji10) < (x5_2.length : Int)) = true:=decide_eq_true c12;clear c12
                      by_cases c13 : 0 ≤ x6_1
                      · rw [if_pos c13] at H
                        have c13b0 : decide (0 ≤ x6_1) = true:=decide_eq_true c13;clear c13
                        by_cases c14 : x6_1 < (l0.length : Int)
                        · rw [if_pos c14] at H
                          have c14b0 : decide (x6_1 < (l0.length : Int)) = true:=decide_eq_true c14;clear c14
                          by_cases c15 : 0 ≤ x8_2
                          · rw [if_pos c15] at H
                            have c15b0 : decide (0 ≤ x8_2) = true:=decide_eq_true c15;clear c15;obtain ⟨y125,hy125⟩ : ∃ y_ : List Int,y_ = (x5_2.set ((ji10) : Int).toNat (Int.tmod (wrap64 ((wrap64 ((rd x5_2 (ji10)) + (wrap64 ((rd l0 x6_1) * (rd l1 x8_2))))) + x7_2)) 65536)):=⟨_,rfl⟩
                            replace H : (celluloidref01_times.l1 k2 l0 l1 y125 x6_1 (wrap64 (Int.tdiv (wrap64 ((wrap64 ((rd x5_2 (ji10)) + (wrap64 ((rd l0 x6_1) * (rd l1 x8_2))))) + x7_2)) 65536)) (wrap64 (x8_2 + 1))) = some r:=by first|(rw [hy125];with_reducible exact H)|(have H2_:=(Option.bind_some _ _).symm.trans H;rw [hy125];with_reducible exact H2_)|(have H2_:=(Option.bind_some _ _).symm.trans H;with_reducible exact H2_)|with_reducible exact H|(rw [hy125];exact H)|exact H
                            have Ny125:=am hy125;clear hy125;have H':=am H;clear H;obtain ⟨Ao17,co17,eo17⟩:=Kd.R_slice HO_5.out;subst eo17;have p122 : 0 ≤ ((ji10) : Int):=of_decide_eq_true (by first|(with_reducible assumption)|assumption);have q122 : (ji10) < (x5_2.length : Int):=of_decide_eq_true (by first|(with_reducible assumption)|assumption);obtain ⟨ad122,e122,hx122_0⟩:=Kd.at_int (Kd.R_reads' HO_5.out).2.2 (ji10) p122 q122
                            cases e122
                            replace p122:=eq_true p122;replace q122:=eq_true q122;have p123 : 0 ≤ (x6_1 : Int):=of_decide_eq_true (by first|(with_reducible assumption)|assumption);have q123 : x6_1 < (l0.length : Int):=of_decide_eq_true (by first|(with_reducible assumption)|assumption);obtain ⟨ad123,e123,hx123_0⟩:=Kd.at_int HR0.out x6_1 p123 q123
                            cases e123
                            replace hx123_0:=(HB.out.cell (World.block_lt_of_cell? w _ hx123_0)).trans hx123_0;replace p123:=eq_true p123;replace q123:=eq_true q123;have p124 : 0 ≤ (x8_2 : Int):=of_decide_eq_true (by first|(with_reducible assumption)|assumption);have q124 : x8_2 < (l1.length : Int):=of_decide_eq_true (by first|(with_reducible assumption)|assumption);obtain ⟨ad124,e124,hx124_0⟩:=Kd.at_int HR1.out x8_2 p124 q124
                            cases e124
                            replace hx124_0:=(HB.out.cell (World.block_lt_of_cell? w _ hx124_0)).trans hx124_0;replace p124:=eq_true p124;replace q124:=eq_true q124;have p16 : 0 ≤ ((ji10) : Int):=of_decide_eq_true (by first|(with_reducible assumption)|assumption);have q16 : ((ji10) : Int) < ((x5_2.length : Int) : Int):=of_decide_eq_true (by first|(with_reducible assumption)|assumption);obtain ⟨go16,co16,eo16,gb16,gl16,cl16,HG16⟩:=Kd.R_form HO_5.out (by omega)
                            (first|cases eo16|(injection eo16 with ea_ en_ ec_;(first|subst ea_|(injection ea_ with ea_;subst ea_));subst ec_;clear en_))
                            have GB16:=am gb16;have GG16:=am HG16;clear gb16 gl16 HG16
                            (first|simp only [add_plain] at hx122_0|skip)
                            obtain ⟨hx16_0,hf16_0⟩:=Kd.R_celln 0 HO_5.out ((ji10) : Int) p16 q16;replace p16:=eq_true p16;replace q16:=eq_true q16;have HP18:=Kd.R_putg HO_5.out ((ji10) : Int) (Int.tmod (wrap64 ((wrap64 ((rd x5_2 (ji10)) + (wrap64 ((rd l0 x6_1) * (rd l1 x8_2))))) + x7_2)) 65536)
                            go_wp2_with (first|((with_reducible refine gate_store (t:=3) (p:=52) rfl ?_);(try (rw [drewN_self wr];generalize hq_ : World.drewN wr _ = wr;have n0_:=am (Kd.R_at hq_ HO_5.out);have n1_:=am (below_at hq_ HB.out);clear hq_ HO_5 HB;have HO_5:=n0_;have HB:=n1_;clear n0_ n1_;(try (have HP18:=Kd.R_putg HO_5.out ((ji10) : Int) (Int.tmod (wrap64 ((wrap64 ((rd x5_2 (ji10)) + (wrap64 ((rd l0 x6_1) * (rd l1 x8_2))))) + x7_2)) 65536)));(try (obtain ⟨hxHP18_z,hfHP18_z⟩:=Kd.R_celln (by first|exact (0 : Int)|exact false|exact ByteArray.empty) HO_5.out ((ji10) : Int) (of_decide_eq_true (by first|(with_reducible assumption)|assumption)) (of_decide_eq_true (by first|(with_reducible assumption)|assumption))))));refine store_event (t:=3) (p:=52) (v:=?vo_w19) (w1:=(wr.setCell ⟨go16,((ji10) : Int).toNat,none⟩ (.int .i64 (Int.tmod (wrap64 ((wrap64 ((rd x5_2 (ji10)) + (wrap64 ((rd l0 x6_1) * (rd l1 x8_2))))) + x7_2)) 65536)))) ?hg ?ho ?hn ?hr ?_;(case ho => rfl);(case hg => rfl);(case hn => rfl);(case hr => first|(go_simp;done)|(go_simp;rfl));intro w19 hw;have hg : wr.grownBy w19 (some go16):=(by rw [hw];exact HP18.2);have hp_ : Kd.R (Kd.int .i64) 3 w19 w.heap.size (fun _ => True) (.slice (some ⟨go16,0,none⟩) x5_2.length co17) y125:=(by rw [hw,Ny125.out];exact HP18.1);clear HP18;replace HO_5:=am (hp_);replace HB:=am ((by rw [hw];exact sx (HB.out) GB16.out : Below w.heap.size w w19));clear hg hw hp_))
                            repeat (go_quiet (first|((with_reducible refine gate_store (t:=3) (p:=52) rfl ?_);(try (rw [drewN_self wr];generalize hq_ : World.drewN wr _ = wr;have n0_:=am (Kd.R_at hq_ HO_5.out);have n1_:=am (below_at hq_ HB.out);clear hq_ HO_5 HB;have HO_5:=n0_;have HB:=n1_;clear n0_ n1_;(try (have HP18:=Kd.R_putg HO_5.out ((ji10) : Int) (Int.tmod (wrap64 ((wrap64 ((rd x5_2 (ji10)) + (wrap64 ((rd l0 x6_1) * (rd l1 x8_2))))) + x7_2)) 65536)));(try (obtain ⟨hxHP18_z,hfHP18_z⟩:=Kd.R_celln (by first|exact (0 : Int)|exact false|exact ByteArray.empty) HO_5.out ((ji10) : Int) (of_decide_eq_true (by first|(with_reducible assumption)|assumption)) (of_decide_eq_true (by first|(with_reducible assumption)|assumption))))));refine store_event (t:=3) (p:=52) (v:=?vo_w19) (w1:=(wr.setCell ⟨go16,((ji10) : Int).toNat,none⟩ (.int .i64 (Int.tmod (wrap64 ((wrap64 ((rd x5_2 (ji10)) + (wrap64 ((rd l0 x6_1) * (rd l1 x8_2))))) + x7_2)) 65536)))) ?hg ?ho ?hn ?hr ?_;(case ho => rfl);(case hg => rfl);(case hn => rfl);(case hr => first|(go_simp;done)|(go_simp;rfl));intro w19 hw;have hg : wr.grownBy w19 (some go16):=(by rw [hw];exact HP18.2);have hp_ : Kd.R (Kd.int .i64) 3 w19 w.heap.size (fun _ => True) (.slice (some ⟨go16,0,none⟩) x5_2.length co17) y125:=(by rw [hw,Ny125.out];exact HP18.1);clear HP18;have n0_:=am (hp_);have n1_:=am ((by rw [hw];exact sx (HB.out) GB16.out : Below w.heap.size w w19));clear HO_5;clear HB;have HO_5:=n0_;have HB:=n1_;clear n0_ n1_;clear hg hw hp_));try go_wp2_with (first|((with_reducible refine gate_store (t:=3) (p:=52) rfl ?_);(try (rw [drewN_self wr];generalize hq_ : World.drewN wr _ = wr;have n0_:=am (Kd.R_at hq_ HO_5.out);have n1_:=am (below_at hq_ HB.out);clear hq_ HO_5 HB;have HO_5:=n0_;have HB:=n1_;clear n0_ n1_;(try (have HP18:=Kd.R_putg HO_5.out ((ji10) : Int) (Int.tmod (wrap64 ((wrap64 ((rd x5_2 (ji10)) + (wrap64 ((rd l0 x6_1) * (rd l1 x8_2))))) + x7_2)) 65536)));(try (obtain ⟨hxHP18_z,hfHP18_z⟩:=Kd.R_celln (by first|exact (0 : Int)|exact false|exact ByteArray.empty) HO_5.out ((ji10) : Int) (of_decide_eq_true (by first|(with_reducible assumption)|assumption)) (of_decide_eq_true (by first|(with_reducible assumption)|assumption))))));refine store_event (t:=3) (p:=52) (v:=?vo_w19) (w1:=(wr.setCell ⟨go16,((ji10) : Int).toNat,none⟩ (.int .i64 (Int.tmod (wrap64 ((wrap64 ((rd x5_2 (ji10)) + (wrap64 ((rd l0 x6_1) * (rd l1 x8_2))))) + x7_2)) 65536)))) ?hg ?ho ?hn ?hr ?_;(case ho => rfl);(case hg => rfl);(case hn => rfl);(case hr => first|(go_simp;done)|(go_simp;rfl));intro w19 hw;have hg : wr.grownBy w19 (some go16):=(by rw [hw];exact HP18.2);have hp_ : Kd.R (Kd.int .i64) 3 w19 w.heap.size (fun _ => True) (.slice (some ⟨go16,0,none⟩) x5_2.length co17) y125:=(by rw [hw,Ny125.out];exact HP18.1);clear HP18;have n0_:=am (hp_);have n1_:=am ((by rw [hw];exact sx (HB.out) GB16.out : Below w.heap.size w w19));clear HO_5;clear HB;have HO_5:=n0_;have HB:=n1_;clear n0_ n1_;clear hg hw hp_)))
                            go_roundg k2
                            case measure => have:=HK1.out;have:=HK2.out;omega
                            case rel => exact ⟨(y125),(wrap64 (Int.tdiv (wrap64 ((wrap64 ((rd x5_2 (ji10)) + (wrap64 ((rd l0 x6_1) * (rd l1 x8_2))))) + x7_2)) 65536)),(wrap64 (x8_2 + 1)),(by first|rfl|(simp;done)|(simp only [← hji10] <;> (first|rfl|simp))|(simp [*];done)),(by first|rfl|(simp;done)|(simp [*];done)),H',⟨by have:=HK1.out;have:=HK2.out;omega⟩,⟨by (with_reducible repeat (first|apply Kd.R_alloc|apply Kd.R_drewN|apply Kd.R_drew));exact HO_5.out⟩,⟨by repeat (first|(with_reducible first|exact HB.out|apply sa|apply sn|apply sd)|exact HB.out)⟩⟩
                          · rw [if_neg c15] at H
                            exact absurd H (by simp)
                        · rw [if_neg c14] at H
                          exact absurd H (by simp)
                      · rw [if_neg c13] at H
                        exact absurd H (by simp)
                    · rw [if_neg c12] at H
                      exact absurd H (by simp)
                  · rw [if_neg c11] at H
                    exact absurd H (by simp)
                · rw [if_neg c9] at H
                  have c9b0 : decide (x8_2 < (l1.length : Int)) = false:=decide_eq_false c9;clear c9;obtain ⟨ji20,hji20⟩ : ∃ j_ : Int,(wrap64 (x6_1 + (l1.length : Int))) = j_:=⟨_,rfl⟩
                  replace H : (if 0 ≤ (ji20) then (if (ji20) < (x5_2.length : Int) then (celluloidref01_times.l0 k2 l0 l1 (x5_2.set ((ji20) : Int).toNat (wrap64 ((rd x5_2 (ji20)) + x7_2))) (wrap64 (x6_1 + 1))) else (none)) else (none)) = some r:=by first|(rw [hji20] at H;exact H)|(simp only [hji20] at H ⊢;exact H)
                  have hji20w : (IntKind.i64.wrap (x6_1 + (l1.length : Int))) = ji20:=(i64_w _).trans hji20
                  by_cases c21 : 0 ≤ (ji20)
                  · rw [if_pos c21] at H
                    have c21b0 : decide (0 ≤ (ji20)) = true:=decide_eq_true c21;clear c21
                    by_cases c22 : (ji20) < (x5_2.length : Int)
                    · rw [if_pos c22] at H
                      have c22b0 : decide ((ji20) < (x5_2.length : Int)) = true:=decide_eq_true c22;clear c22;obtain ⟨y127,hy127⟩ : ∃ y_ : List Int,y_ = (x5_2.set ((ji20) : Int).toNat (wrap64 ((rd x5_2 (ji20)) + x7_2))):=⟨_,rfl⟩
                      replace H : (celluloidref01_times.l0 k2 l0 l1 y127 (wrap64 (x6_1 + 1))) = some r:=by first|(rw [hy127];with_reducible exact H)|(have H2_:=(Option.bind_some _ _).symm.trans H;rw [hy127];with_reducible exact H2_)|(have H2_:=(Option.bind_some _ _).symm.trans H;with_reducible exact H2_)|with_reducible exact H|(rw [hy127];exact H)|exact H
                      have Ny127:=am hy127;clear hy127;have H':=am H;clear H;obtain ⟨Ao24,co24,eo24⟩:=Kd.R_slice HO_5.out;subst eo24;have p126 : 0 ≤ ((ji20) : Int):=of_decide_eq_true (by first|(with_reducible assumption)|assumption);have q126 : (ji20) < (x5_2.length : Int):=of_decide_eq_true (by first|(with_reducible assumption)|assumption);obtain ⟨ad126,e126,hx126_0⟩:=Kd.at_int (Kd.R_reads' HO_5.out).2.2 (ji20) p126 q126
                      cases e126
                      replace p126:=eq_true p126;replace q126:=eq_true q126;have p23 : 0 ≤ ((ji20) : Int):=of_decide_eq_true (by first|(with_reducible assumption)|assumption);have q23 : ((ji20) : Int) < ((x5_2.length : Int) : Int):=of_decide_eq_true (by first|(with_reducible assumption)|assumption);obtain ⟨go23,co23,eo23,gb23,gl23,cl23,HG23⟩:=Kd.R_form HO_5.out (by omega)
                      (first|cases eo23|(injection eo23 with ea_ en_ ec_;(first|subst ea_|(injection ea_ with ea_;subst ea_));subst ec_;clear en_))
                      have GB23:=am gb23;have GG23:=am HG23;clear gb23 gl23 HG23
                      (first|simp only [add_plain] at hx126_0|skip)
                      obtain ⟨hx23_0,hf23_0⟩:=Kd.R_celln 0 HO_5.out ((ji20) : Int) p23 q23;replace p23:=eq_true p23;replace q23:=eq_true q23;have HP25:=Kd.R_putg HO_5.out ((ji20) : Int) (wrap64 ((rd x5_2 (ji20)) + x7_2))
                      go_wp2_with (first|((with_reducible refine gate_store (t:=3) (p:=64) rfl ?_);(try (rw [drewN_self wr];generalize hq_ : World.drewN wr _ = wr;have n0_:=am (Kd.R_at hq_ HO_5.out);have n1_:=am (below_at hq_ HB.out);clear hq_ HO_5 HB;have HO_5:=n0_;have HB:=n1_;clear n0_ n1_;(try (have HP25:=Kd.R_putg HO_5.out ((ji20) : Int) (wrap64 ((rd x5_2 (ji20)) + x7_2))));(try (obtain ⟨hxHP25_z,hfHP25_z⟩:=Kd.R_celln (by first|exact (0 : Int)|exact false|exact ByteArray.empty) HO_5.out ((ji20) : Int) (of_decide_eq_true (by first|(with_reducible assumption)|assumption)) (of_decide_eq_true (by first|(with_reducible assumption)|assumption))))));refine store_event (t:=3) (p:=64) (v:=?vo_w26) (w1:=(wr.setCell ⟨go23,((ji20) : Int).toNat,none⟩ (.int .i64 (wrap64 ((rd x5_2 (ji20)) + x7_2))))) ?hg ?ho ?hn ?hr ?_;(case ho => rfl);(case hg => rfl);(case hn => rfl);(case hr => first|(go_simp;done)|(go_simp;rfl));intro w26 hw;have hg : wr.grownBy w26 (some go23):=(by rw [hw];exact HP25.2);have hp_ : Kd.R (Kd.int .i64) 3 w26 w.heap.size (fun _ => True) (.slice (some ⟨go23,0,none⟩) x5_2.length co24) y127:=(by rw [hw,Ny127.out];exact HP25.1);clear HP25;replace HO_5:=am (hp_);replace HB:=am ((by rw [hw];exact sx (HB.out) GB23.out : Below w.heap.size w w26));clear hg hw hp_))
                      repeat (go_quiet (first|((with_reducible refine gate_store (t:=3) (p:=64) rfl ?_);(try (rw [drewN_self wr];generalize hq_ : World.drewN wr _ = wr;have n0_:=am (Kd.R_at hq_ HO_5.out);have n1_:=am (below_at hq_ HB.out);clear hq_ HO_5 HB;have HO_5:=n0_;have HB:=n1_;clear n0_ n1_;(try (have HP25:=Kd.R_putg HO_5.out ((ji20) : Int) (wrap64 ((rd x5_2 (ji20)) + x7_2))));(try (obtain ⟨hxHP25_z,hfHP25_z⟩:=Kd.R_celln (by first|exact (0 : Int)|exact false|exact ByteArray.empty) HO_5.out ((ji20) : Int) (of_decide_eq_true (by first|(with_reducible assumption)|assumption)) (of_decide_eq_true (by first|(with_reducible assumption)|assumption))))));refine store_event (t:=3) (p:=64) (v:=?vo_w26) (w1:=(wr.setCell ⟨go23,((ji20) : Int).toNat,none⟩ (.int .i64 (wrap64 ((rd x5_2 (ji20)) + x7_2))))) ?hg ?ho ?hn ?hr ?_;(case ho => rfl);(case hg => rfl);(case hn => rfl);(case hr => first|(go_simp;done)|(go_simp;rfl));intro w26 hw;have hg : wr.grownBy w26 (some go23):=(by rw [hw];exact HP25.2);have hp_ : Kd.R (Kd.int .i64) 3 w26 w.heap.size (fun _ => True) (.slice (some ⟨go23,0,none⟩) x5_2.length co24) y127:=(by rw [hw,Ny127.out];exact HP25.1);clear HP25;have n0_:=am (hp_);have n1_:=am ((by rw [hw];exact sx (HB.out) GB23.out : Below w.heap.size w w26));clear HO_5;clear HB;have HO_5:=n0_;have HB:=n1_;clear n0_ n1_;clear hg hw hp_));try go_wp2_with (first|((with_reducible refine gate_store (t:=3) (p:=64) rfl ?_);(try (rw [drewN_self wr];generalize hq_ : World.drewN wr _ = wr;have n0_:=am (Kd.R_at hq_ HO_5.out);have n1_:=am (below_at hq_ HB.out);clear hq_ HO_5 HB;have HO_5:=n0_;have HB:=n1_;clear n0_ n1_;(try (have HP25:=Kd.R_putg HO_5.out ((ji20) : Int) (wrap64 ((rd x5_2 (ji20)) + x7_2))));(try (obtain ⟨hxHP25_z,hfHP25_z⟩:=Kd.R_celln (by first|exact (0 : Int)|exact false|exact ByteArray.empty) HO_5.out ((ji20) : Int) (of_decide_eq_true (by first|(with_reducible assumption)|assumption)) (of_decide_eq_true (by first|(with_reducible assumption)|assumption))))));refine store_event (t:=3) (p:=64) (v:=?vo_w26) (w1:=(wr.setCell ⟨go23,((ji20) : Int).toNat,none⟩ (.int .i64 (wrap64 ((rd x5_2 (ji20)) + x7_2))))) ?hg ?ho ?hn ?hr ?_;(case ho => rfl);(case hg => rfl);(case hn => rfl);(case hr => first|(go_simp;done)|(go_simp;rfl));intro w26 hw;have hg : wr.grownBy w26 (some go23):=(by rw [hw];exact HP25.2);have hp_ : Kd.R (Kd.int .i64) 3 w26 w.heap.size (fun _ => True) (.slice (some ⟨go23,0,none⟩) x5_2.length co24) y127:=(by rw [hw,Ny127.out];exact HP25.1);clear HP25;have n0_:=am (hp_);have n1_:=am ((by rw [hw];exact sx (HB.out) GB23.out : Below w.heap.size w w26));clear HO_5;clear HB;have HO_5:=n0_;have HB:=n1_;clear n0_ n1_;clear hg hw hp_)))
                      go_roundg k2
                      case measure => have:=HK1.out;have:=HK2.out;omega
                      case rel => exact ⟨(y127),(wrap64 (x6_1 + 1)),(by first|rfl|(simp;done)|(simp [*];done)),H',⟨by have:=HK1.out;have:=HK2.out;omega⟩,⟨by (with_reducible repeat (first|apply Kd.R_alloc|apply Kd.R_drewN|apply Kd.R_drew));exact HO_5.out⟩,⟨by repeat (first|(with_reducible first|exact HB.out|apply sa|apply sn|apply sd)|exact HB.out)⟩⟩
                    · rw [if_neg c22] at H
                      exact absurd H (by simp)
                  · rw [if_neg c21] at H
                    exact absurd H (by simp)
          · rw [if_neg c8] at H
            have c8b0 : decide (x6_1 < (l0.length : Int)) = false:=decide_eq_false c8;clear c8;obtain rfl:=Option.some.inj H
            go_wp2
            repeat (go_quiet (fail);try go_wp2)
            go_ret
            exact ⟨_,by first|rfl|(simp [errW_none,errW_some] <;> rfl)|(simp only [← hji3];first|rfl|(simp [errW_none,errW_some] <;> rfl))|(simp [*,errW_none,errW_some] <;> rfl),by (with_reducible repeat (first|apply Kd.R_alloc|apply Kd.R_drewN|apply Kd.R_drew));exact HO_5.out,by repeat (first|(with_reducible first|exact HB.out|apply sa|apply sn|apply sd)|exact HB.out)⟩
    · rw [if_neg c5] at H
      exact absurd H (by simp)
  · rw [if_neg c4] at H
    exact absurd H (by simp)

/-! ### celluloidref01_nought: function 47 -/
def celluloidref01_nought.l0 : Nat → List Int → Int → Option (Bool)
  | 0,_,_ => none
  | k + 1,x0,x3 => if x3 < (x0.length : Int) then (if 0 ≤ x3 then (if (rd x0 x3) = 0 then (celluloidref01_nought.l0 k x0 (wrap64 (x3 + 1))) else (some false)) else (none)) else (some true)
def celluloidref01_nought.f (k : Nat) (l0 : List Int) : Option (Bool):=celluloidref01_nought.l0 k l0 0
theorem celluloidref01_nought.mono_l : ∀ k,(∀ y0 y1,LeO (celluloidref01_nought.l0 k y0 y1) (celluloidref01_nought.l0 (k + 1) y0 y1))
  | 0 => fun _ _ r h => by simp [celluloidref01_nought.l0] at h
  | k + 1 => by
    have ih0:=celluloidref01_nought.mono_l k
    · intro y0 y1
      unfold celluloidref01_nought.l0
      repeat' first
      | (with_reducible exact ih0 _ _)
      | (with_reducible exact LeO.refl _)
      | (with_reducible exact LeO.none _)
      | (with_reducible refine LeO.ite ?_ ?_)
      | (with_reducible refine LeO.bind ?_ (fun _ => ?_))
      | exact ih0 _ _
      | exact LeO.none _
      | refine LeO.ite ?_ ?_
      | refine LeO.bind ?_ (fun _ => ?_)
theorem celluloidref01_nought.mono : ∀ a0 k,LeO (celluloidref01_nought.f k a0) (celluloidref01_nought.f (k + 1) a0):=by
  intro a0 k
  have ih0:=celluloidref01_nought.mono_l k
  unfold celluloidref01_nought.f
  repeat' first
      | (with_reducible exact ih0 _ _)
      | (with_reducible exact LeO.refl _)
      | (with_reducible exact LeO.none _)
      | (with_reducible refine LeO.ite ?_ ?_)
      | (with_reducible refine LeO.bind ?_ (fun _ => ?_))
      | exact ih0 _ _
      | exact LeO.none _
      | refine LeO.ite ?_ ?_
      | refine LeO.bind ?_ (fun _ => ?_)
set_option maxHeartbeats 8000000 in
set_option maxRecDepth 100000 in
theorem celluloidref01_nought.calls (k : Nat) (A0 : Option Addr) (c0 : Nat) (l0 : List Int) (r : Bool) (w : World) (hr0 : Kd.C (Kd.int .i64) w A0 l0.length l0) (hc0 : l0.length ≤ c0) (h : celluloidref01_nought.f k l0 = some r) :
    Calls Try.prog 47 #[.slice A0 l0.length c0] w fun e w' => e = .returned (.bool r) ∧ Drawn0 w w':=by
  have HR0:=am hr0;have HC0:=am hc0;clear hr0 hc0;have H : (celluloidref01_nought.l0 k l0 0) = some r:=h;clear h;have H':=am H;clear H
  go_enter Try.func47,Try.ntmps47
  go_wp2
  go_loopg [3] k (fun kq v3 w' => ∃ (x3_1 : Int),v3 = .int .i64 x3_1 ∧ Aside0 (celluloidref01_nought.l0 kq l0 x3_1 = some r) ∧ Aside0 (kq ≤ k) ∧ Drawn0 w w')
  case atStart => exact ⟨(0),(by first|rfl|(simp;done)|(simp [*];done)),H',⟨Nat.le_refl _⟩,by repeat (first|exact Drawn0.refl _|apply Drawn0.step)⟩
  case round =>
    clear H';obtain ⟨x3_1,rfl,HA,HK1,⟨m1,rfl⟩⟩:=hrel
    cases gk with
    | zero => exact absurd HA.out (by simp [celluloidref01_nought.l0])
    | succ k1 =>
      have H:=HA.out;clear HA;simp only [celluloidref01_nought.l0] at H
      by_cases c2 : x3_1 < (l0.length : Int)
      · rw [if_pos c2] at H
        have c2b0 : decide (x3_1 < (l0.length : Int)) = true:=decide_eq_true c2;clear c2
        by_cases c3 : 0 ≤ x3_1
        · rw [if_pos c3] at H
          have c3b0 : decide (0 ≤ x3_1) = true:=decide_eq_true c3;clear c3
          by_cases c4 : (rd l0 x3_1) = 0
          · rw [if_pos c4] at H
            have c4b0 : ((rd l0 x3_1) == 0) = true:=beq_iff_eq.mpr c4;have c4b1 : ((rd l0 x3_1) != 0) = false:=bne_eq_false_iff_eq.mpr c4;clear c4;have H':=am H;clear H;have p128 : 0 ≤ (x3_1 : Int):=of_decide_eq_true (by first|(with_reducible assumption)|assumption);have q128 : x3_1 < (l0.length : Int):=of_decide_eq_true (by first|(with_reducible assumption)|assumption);obtain ⟨ad128,e128,hx128_0⟩:=Kd.at_int HR0.out x3_1 p128 q128
            cases e128
            replace p128:=eq_true p128;replace q128:=eq_true q128
            go_wp2
            go_roundg k1
            case measure => have:=HK1.out;omega
            case rel => exact ⟨(wrap64 (x3_1 + 1)),(by first|rfl|(simp;done)|(simp [*];done)),H',⟨by have:=HK1.out;omega⟩,by repeat (first|exact Drawn0.refl _|apply Drawn0.step)⟩
          · rw [if_neg c4] at H
            have c4b0 : ((rd l0 x3_1) == 0) = false:=beq_eq_false_iff_ne.mpr c4;have c4b1 : ((rd l0 x3_1) != 0) = true:=bne_iff_ne.mpr c4;obtain rfl:=Option.some.inj H;have p128 : 0 ≤ (x3_1 : Int):=of_decide_eq_true (by first|(with_reducible assumption)|assumption);have q128 : x3_1 < (l0.length : Int):=of_decide_eq_true (by first|(with_reducible assumption)|assumption);obtain ⟨ad128,e128,hx128_0⟩:=Kd.at_int HR0.out x3_1 p128 q128
            cases e128
            replace p128:=eq_true p128;replace q128:=eq_true q128
            go_wp2
            go_ret
            exact ⟨by first|rfl|(simp;done)|(simp [*];done),by repeat (first|exact Drawn0.refl _|apply Drawn0.step)⟩
        · rw [if_neg c3] at H
          exact absurd H (by simp)
      · rw [if_neg c2] at H
        have c2b0 : decide (x3_1 < (l0.length : Int)) = false:=decide_eq_false c2;clear c2;obtain rfl:=Option.some.inj H
        go_wp2
        go_ret
        exact ⟨by first|rfl|(simp;done)|(simp [*];done),by repeat (first|exact Drawn0.refl _|apply Drawn0.step)⟩

end Go.Proofs.Ytnofihkmgedbfaa.P
