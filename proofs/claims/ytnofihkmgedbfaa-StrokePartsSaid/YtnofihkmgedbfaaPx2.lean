/- Printed by printx.py (wip/tool) out of the translation: plain functions that tell what the program answers,and the proofs that the program comes to these answers,for all arguments of their kinds. Lean checks it. -/
import Derived.Test.YtnofihkmgedbfaaShort
import Derived.Test.YtnofihkmgedbfaaPx0
import Derived.Test.YtnofihkmgedbfaaPx1
namespace Go.Proofs.Ytnofihkmgedbfaa.P
open Go.RowKit Go.Proofs.YtnofihkmgedbfaaW.PrintWords Go.Proofs.YtnofihkmgedbfaaW.PrintLast Go.Proofs.YtnofihkmgedbfaaW.PrintMore
attribute [local go_sem] max2_int min2_int max_two min_two max_three min_three max_four min_four max_five min_five max_six min_six   -- for this text's walks alone
set_option linter.unusedVariables false
set_option linter.unusedSimpArgs false

/-! ### celluloidref01_product: function 34 -/
def celluloidref01_product.f (k : Nat) (a0 : Int) (a1 : Int) : Option (List Int × Bool):=(celluloidref01_digits.f k a0).bind fun bt129 => ((celluloidref01_digits.f k a1).bind fun bt133 => ((celluloidref01_times.f k bt129.1 bt133.1).bind fun t137 => (if (bt129.2 != bt133.2) = true then ((celluloidref01_nought.f k t137).bind fun t140 => (some (t137, !t140))) else (some (t137,false)))))
theorem celluloidref01_product.mono : ∀ a0 a1 k,LeO (celluloidref01_product.f k a0 a1) (celluloidref01_product.f (k + 1) a0 a1):=by
  intro a0 a1 k
  unfold celluloidref01_product.f
  repeat' first
      | (with_reducible exact celluloidref01_digits.mono _ _)
      | (with_reducible exact celluloidref01_nought.mono _ _)
      | (with_reducible exact celluloidref01_times.mono _ _ _)
      | (with_reducible exact LeO.refl _)
      | (with_reducible exact LeO.none _)
      | (with_reducible refine LeO.ite ?_ ?_)
      | (with_reducible refine LeO.bind ?_ (fun _ => ?_))
      | exact celluloidref01_digits.mono _ _
      | exact celluloidref01_nought.mono _ _
      | exact celluloidref01_times.mono _ _ _
      | exact LeO.none _
      | refine LeO.ite ?_ ?_
      | refine LeO.bind ?_ (fun _ => ?_)
set_option maxHeartbeats 8000000 in
set_option maxRecDepth 100000 in
theorem celluloidref01_product.calls (k : Nat) (a0 : Int) (a1 : Int) (r1 : List Int) (r2 : Bool) (w : World) (h : celluloidref01_product.f k a0 a1 = some (r1,r2)) :
    Calls Try.prog 34 #[.int .i64 a0,.int .i64 a1] w fun e w' => ∃ v0_ : Value,e = .returned (.tuple #[v0_,.bool r2]) ∧ Kd.R (Kd.int .i64) 3 w' w.heap.size (fun _ => True) v0_ r1 ∧ Below w.heap.size w w':=by
  have HB:=am (Below.refl w.heap.size w);have H : ((celluloidref01_digits.f k a0).bind fun bt129 => ((celluloidref01_digits.f k a1).bind fun bt133 => ((celluloidref01_times.f k bt129.1 bt133.1).bind fun t137 => (if (bt129.2 != bt133.2) = true then ((celluloidref01_nought.f k t137).bind fun t140 => (some (t137, !t140))) else (some (t137,false)))))) = some (r1,r2):=h;clear h;replace H:=Option.bind_eq_some_iff.mp H;obtain ⟨⟨t129,t130⟩,A30,H⟩:=H;replace H : ((celluloidref01_digits.f k a1).bind fun bt133 => ((celluloidref01_times.f k t129 bt133.1).bind fun t137 => (if (t130 != bt133.2) = true then ((celluloidref01_nought.f k t137).bind fun t140 => (some (t137, !t140))) else (some (t137,false))))) = some (r1,r2):=H;have A3:=am A30;clear A30;replace H:=Option.bind_eq_some_iff.mp H;obtain ⟨⟨t133,t134⟩,A40,H⟩:=H;replace H : ((celluloidref01_times.f k t129 t133).bind fun t137 => (if (t130 != t134) = true then ((celluloidref01_nought.f k t137).bind fun t140 => (some (t137, !t140))) else (some (t137,false)))) = some (r1,r2):=H;have A4:=am A40;clear A40;replace H:=Option.bind_eq_some_iff.mp H;obtain ⟨t137,A50,H⟩:=H;replace H : (if (t130 != t134) = true then ((celluloidref01_nought.f k t137).bind fun t140 => (some (t137, !t140))) else (some (t137,false))) = some (r1,r2):=H;have A5:=am A50;clear A50
  by_cases c6 : (t130 != t134) = true
  · rw [if_pos c6] at H
    have c6b0 : (t130 != t134) = true:=c6
    (try (have c6b1 : decide (t130 = t134) = false:=by simpa using c6))
    (try (have c6b2 : (t130 == t134) = false:=by simpa using c6))
    (try (have c6b3 : ¬ (t130 = t134):=by simpa using c6))
    clear c6;replace H:=Option.bind_eq_some_iff.mp H;obtain ⟨t140,A70,H⟩:=H;replace H : (some (t137, !t140)) = some (r1,r2):=H;have A7:=am A70;clear A70;simp only [Option.some.injEq,Prod.mk.injEq] at H;obtain ⟨rfl,rfl⟩:=H
    go_enter Try.func34,Try.ntmps34
    go_wp2_with (first|((with_reducible refine gate_callee (f:=45) rfl ?_);refine goesL_ (some 13) rfl rfl Try.func45 (by kernel_rfl) rfl #[.int .i64 a0] rfl (by (try simp only [List.map_toArray,List.map_cons,List.map_nil]);first|done|rfl|(simp only [List.length_drop,List.length_take];rfl)) ?_;(with_reducible refine (celluloidref01_digits.calls k a0 t129 t130 _ A3.out).mono ?_);rintro e w8 ⟨v131,rfl,ho0,hb⟩;refine ⟨_,rfl,?_⟩;have HO132:=am (Kd.R_lower ho0 (sz (by repeat (first|(with_reducible first|exact HB.out|apply sa|apply sn|apply sd)|exact HB.out))));replace HB:=am (ss (by repeat (first|(with_reducible first|exact HB.out|apply sa|apply sn|apply sd)|exact HB.out)) hb);(try clear hb);(try clear hb2);(try clear hk);(try clear hi);(try clear ho0))|((with_reducible refine gate_callee (f:=45) rfl ?_);refine goesL_ (some 18) rfl rfl Try.func45 (by kernel_rfl) rfl #[.int .i64 a1] rfl (by (try simp only [List.map_toArray,List.map_cons,List.map_nil]);first|done|rfl|(simp only [List.length_drop,List.length_take];rfl)) ?_;(with_reducible refine (celluloidref01_digits.calls k a1 t133 t134 _ A4.out).mono ?_);rintro e w9 ⟨v135,rfl,ho0,hb⟩;refine ⟨_,rfl,?_⟩;have HO136:=am (Kd.R_lower (Kd.R_new' ho0 (Kd.R_lt (by (with_reducible repeat (first|apply Kd.R_alloc|apply Kd.R_drewN|apply Kd.R_drew));exact HO132.out))) (sz (by repeat (first|(with_reducible first|exact HB.out|apply sa|apply sn|apply sd)|exact HB.out))));replace HO132:=am (Kd.R_elder' (by (with_reducible repeat (first|apply Kd.R_alloc|apply Kd.R_drewN|apply Kd.R_drew));exact HO132.out) (Kd.R_base ho0) hb);replace HB:=am (ss (by repeat (first|(with_reducible first|exact HB.out|apply sa|apply sn|apply sd)|exact HB.out)) hb);(try clear hb);(try clear hb2);(try clear hk);(try clear hi);(try clear ho0);obtain ⟨Ao10,co10,eo10⟩:=Kd.R_slice HO132.out;subst eo10;obtain ⟨Ao11,co11,eo11⟩:=Kd.R_slice HO136.out;subst eo11)|((with_reducible refine gate_callee (f:=46) rfl ?_);refine goesL_ (some 23) rfl rfl Try.func46 (by kernel_rfl) rfl #[.slice Ao10 t129.length co10,.slice Ao11 t133.length co11] rfl (by (try simp only [List.map_toArray,List.map_cons,List.map_nil]);first|done|rfl|(simp only [List.length_drop,List.length_take];rfl)) ?_;(with_reducible refine (celluloidref01_times.calls k _ _ t129 _ _ t133 t137 _ ?side1 ?side2 ?side3 ?side4 A5.out).mono ?_);(case side1 => repeat (first|exact (Kd.R_reads' HO132.out).2.2|(with_reducible refine Kd.C_alloc ?_ _)|(with_reducible refine Kd.C_drewN ?_ _)|(with_reducible refine Kd.C_drew ?_)));(case side2 => exact (Kd.R_reads' HO132.out).2.1);(case side3 => repeat (first|exact (Kd.R_reads' HO136.out).2.2|(with_reducible refine Kd.C_alloc ?_ _)|(with_reducible refine Kd.C_drewN ?_ _)|(with_reducible refine Kd.C_drew ?_)));(case side4 => exact (Kd.R_reads' HO136.out).2.1);rintro e w12 ⟨v138,rfl,ho0,hb⟩;refine ⟨_,rfl,?_⟩;have HO139:=am (Kd.R_lower (Kd.R_new' (Kd.R_new' ho0 (Kd.R_lt (by (with_reducible repeat (first|apply Kd.R_alloc|apply Kd.R_drewN|apply Kd.R_drew));exact HO132.out))) (Kd.R_lt (by (with_reducible repeat (first|apply Kd.R_alloc|apply Kd.R_drewN|apply Kd.R_drew));exact HO136.out))) (sz (by repeat (first|(with_reducible first|exact HB.out|apply sa|apply sn|apply sd)|exact HB.out))));replace HO132:=am (Kd.R_elder' (by (with_reducible repeat (first|apply Kd.R_alloc|apply Kd.R_drewN|apply Kd.R_drew));exact HO132.out) (Kd.R_base ho0) hb);replace HO136:=am (Kd.R_elder' (by (with_reducible repeat (first|apply Kd.R_alloc|apply Kd.R_drewN|apply Kd.R_drew));exact HO136.out) (Kd.R_base ho0) hb);replace HB:=am (ss (by repeat (first|(with_reducible first|exact HB.out|apply sa|apply sn|apply sd)|exact HB.out)) hb);(try clear hb);(try clear hb2);(try clear hk);(try clear hi);(try clear ho0);obtain ⟨Ao13,co13,eo13⟩:=Kd.R_slice HO139.out;subst eo13)|(go_at_call 47;(with_reducible refine (celluloidref01_nought.calls k _ _ t137 t140 _ ?side1 ?side2 A7.out).mono ?_);(case side1 => repeat (first|exact (Kd.R_reads' HO139.out).2.2|(with_reducible refine Kd.C_alloc ?_ _)|(with_reducible refine Kd.C_drewN ?_ _)|(with_reducible refine Kd.C_drew ?_)));(case side2 => exact (Kd.R_reads' HO139.out).2.1);rintro e w' ⟨rfl,⟨nd,rfl⟩⟩))
    go_ret2
    exact ⟨_,by first|rfl|(simp [errW_none,errW_some] <;> rfl)|(simp [*,errW_none,errW_some] <;> rfl),by (with_reducible repeat (first|apply Kd.R_alloc|apply Kd.R_drewN|apply Kd.R_drew));exact Kd.R_mono HO139.out (fun _ hk => trivial),by repeat (first|(with_reducible first|exact HB.out|apply sa|apply sn|apply sd)|exact HB.out)⟩
  · rw [if_neg c6] at H
    have c6b0 : (t130 != t134) = false:=by simpa using c6
    (try (have c6b1 : decide (t130 = t134) = true:=by simpa using c6))
    (try (have c6b2 : (t130 == t134) = true:=by simpa using c6))
    clear c6;simp only [Option.some.injEq,Prod.mk.injEq] at H;obtain ⟨rfl,rfl⟩:=H
    go_enter Try.func34,Try.ntmps34
    go_wp2_with (first|((with_reducible refine gate_callee (f:=45) rfl ?_);refine goesL_ (some 13) rfl rfl Try.func45 (by kernel_rfl) rfl #[.int .i64 a0] rfl (by (try simp only [List.map_toArray,List.map_cons,List.map_nil]);first|done|rfl|(simp only [List.length_drop,List.length_take];rfl)) ?_;(with_reducible refine (celluloidref01_digits.calls k a0 t129 t130 _ A3.out).mono ?_);rintro e w14 ⟨v131,rfl,ho0,hb⟩;refine ⟨_,rfl,?_⟩;have HO132:=am (Kd.R_lower ho0 (sz (by repeat (first|(with_reducible first|exact HB.out|apply sa|apply sn|apply sd)|exact HB.out))));replace HB:=am (ss (by repeat (first|(with_reducible first|exact HB.out|apply sa|apply sn|apply sd)|exact HB.out)) hb);(try clear hb);(try clear hb2);(try clear hk);(try clear hi);(try clear ho0))|((with_reducible refine gate_callee (f:=45) rfl ?_);refine goesL_ (some 18) rfl rfl Try.func45 (by kernel_rfl) rfl #[.int .i64 a1] rfl (by (try simp only [List.map_toArray,List.map_cons,List.map_nil]);first|done|rfl|(simp only [List.length_drop,List.length_take];rfl)) ?_;(with_reducible refine (celluloidref01_digits.calls k a1 t133 t134 _ A4.out).mono ?_);rintro e w15 ⟨v135,rfl,ho0,hb⟩;refine ⟨_,rfl,?_⟩;have HO136:=am (Kd.R_lower (Kd.R_new' ho0 (Kd.R_lt (by (with_reducible repeat (first|apply Kd.R_alloc|apply Kd.R_drewN|apply Kd.R_drew));exact HO132.out))) (sz (by repeat (first|(with_reducible first|exact HB.out|apply sa|apply sn|apply sd)|exact HB.out))));replace HO132:=am (Kd.R_elder' (by (with_reducible repeat (first|apply Kd.R_alloc|apply Kd.R_drewN|apply Kd.R_drew));exact HO132.out) (Kd.R_base ho0) hb);replace HB:=am (ss (by repeat (first|(with_reducible first|exact HB.out|apply sa|apply sn|apply sd)|exact HB.out)) hb);(try clear hb);(try clear hb2);(try clear hk);(try clear hi);(try clear ho0);obtain ⟨Ao16,co16,eo16⟩:=Kd.R_slice HO132.out;subst eo16;obtain ⟨Ao17,co17,eo17⟩:=Kd.R_slice HO136.out;subst eo17)|((with_reducible refine gate_callee (f:=46) rfl ?_);refine goesL_ (some 23) rfl rfl Try.func46 (by kernel_rfl) rfl #[.slice Ao16 t129.length co16,.slice Ao17 t133.length co17] rfl (by (try simp only [List.map_toArray,List.map_cons,List.map_nil]);first|done|rfl|(simp only [List.length_drop,List.length_take];rfl)) ?_;(with_reducible refine (celluloidref01_times.calls k _ _ t129 _ _ t133 t137 _ ?side1 ?side2 ?side3 ?side4 A5.out).mono ?_);(case side1 => repeat (first|exact (Kd.R_reads' HO132.out).2.2|(with_reducible refine Kd.C_alloc ?_ _)|(with_reducible refine Kd.C_drewN ?_ _)|(with_reducible refine Kd.C_drew ?_)));(case side2 => exact (Kd.R_reads' HO132.out).2.1);(case side3 => repeat (first|exact (Kd.R_reads' HO136.out).2.2|(with_reducible refine Kd.C_alloc ?_ _)|(with_reducible refine Kd.C_drewN ?_ _)|(with_reducible refine Kd.C_drew ?_)));(case side4 => exact (Kd.R_reads' HO136.out).2.1);rintro e w18 ⟨v138,rfl,ho0,hb⟩;refine ⟨_,rfl,?_⟩;have HO139:=am (Kd.R_lower (Kd.R_new' (Kd.R_new' ho0 (Kd.R_lt (by (with_reducible repeat (first|apply Kd.R_alloc|apply Kd.R_drewN|apply Kd.R_drew));exact HO132.out))) (Kd.R_lt (by (with_reducible repeat (first|apply Kd.R_alloc|apply Kd.R_drewN|apply Kd.R_drew));exact HO136.out))) (sz (by repeat (first|(with_reducible first|exact HB.out|apply sa|apply sn|apply sd)|exact HB.out))));replace HO132:=am (Kd.R_elder' (by (with_reducible repeat (first|apply Kd.R_alloc|apply Kd.R_drewN|apply Kd.R_drew));exact HO132.out) (Kd.R_base ho0) hb);replace HO136:=am (Kd.R_elder' (by (with_reducible repeat (first|apply Kd.R_alloc|apply Kd.R_drewN|apply Kd.R_drew));exact HO136.out) (Kd.R_base ho0) hb);replace HB:=am (ss (by repeat (first|(with_reducible first|exact HB.out|apply sa|apply sn|apply sd)|exact HB.out)) hb);(try clear hb);(try clear hb2);(try clear hk);(try clear hi);(try clear ho0)))
    go_ret2
    exact ⟨_,by first|rfl|(simp [errW_none,errW_some] <;> rfl)|(simp [*,errW_none,errW_some] <;> rfl),by (with_reducible repeat (first|apply Kd.R_alloc|apply Kd.R_drewN|apply Kd.R_drew));exact Kd.R_mono HO139.out (fun _ hk => trivial),by repeat (first|(with_reducible first|exact HB.out|apply sa|apply sn|apply sd)|exact HB.out)⟩

/-! ### celluloidref01_order: function 35 -/
def celluloidref01_order.l0 : Nat → List Int → List Int → Int → Option (Int)
  | 0,_,_,_ => none
  | k + 1,x0,x1,x5 => if x5 ≥ 0 then (if 0 ≤ x5 then (if x5 < (x0.length : Int) then (if x5 < (x1.length : Int) then (if (rd x0 x5) < (rd x1 x5) then (some (-1)) else (if (rd x0 x5) > (rd x1 x5) then (some 1) else (celluloidref01_order.l0 k x0 x1 (wrap64 (x5 - 1))))) else (none)) else (none)) else (none)) else (some 0)
def celluloidref01_order.f (k : Nat) (l0 : List Int) (l1 : List Int) : Option (Int):=celluloidref01_order.l0 k l0 l1 (wrap64 ((l0.length : Int) - 1))
theorem celluloidref01_order.mono_l : ∀ k,(∀ y0 y1 y2,LeO (celluloidref01_order.l0 k y0 y1 y2) (celluloidref01_order.l0 (k + 1) y0 y1 y2))
  | 0 => fun _ _ _ r h => by simp [celluloidref01_order.l0] at h
  | k + 1 => by
    have ih0:=celluloidref01_order.mono_l k
    · intro y0 y1 y2
      unfold celluloidref01_order.l0
      repeat' first
      | (with_reducible exact ih0 _ _ _)
      | (with_reducible exact LeO.refl _)
      | (with_reducible exact LeO.none _)
      | (with_reducible refine LeO.ite ?_ ?_)
      | (with_reducible refine LeO.bind ?_ (fun _ => ?_))
      | exact ih0 _ _ _
      | exact LeO.none _
      | refine LeO.ite ?_ ?_
      | refine LeO.bind ?_ (fun _ => ?_)
theorem celluloidref01_order.mono : ∀ a0 a1 k,LeO (celluloidref01_order.f k a0 a1) (celluloidref01_order.f (k + 1) a0 a1):=by
  intro a0 a1 k
  have ih0:=celluloidref01_order.mono_l k
  unfold celluloidref01_order.f
  repeat' first
      | (with_reducible exact ih0 _ _ _)
      | (with_reducible exact LeO.refl _)
      | (with_reducible exact LeO.none _)
      | (with_reducible refine LeO.ite ?_ ?_)
      | (with_reducible refine LeO.bind ?_ (fun _ => ?_))
      | exact ih0 _ _ _
      | exact LeO.none _
      | refine LeO.ite ?_ ?_
      | refine LeO.bind ?_ (fun _ => ?_)
set_option maxHeartbeats 8000000 in
set_option maxRecDepth 100000 in
theorem celluloidref01_order.calls (k : Nat) (A0 : Option Addr) (c0 : Nat) (l0 : List Int) (A1 : Option Addr) (c1 : Nat) (l1 : List Int) (r : Int) (w : World) (hr0 : Kd.C (Kd.int .i64) w A0 l0.length l0) (hc0 : l0.length ≤ c0) (hr1 : Kd.C (Kd.int .i64) w A1 l1.length l1) (hc1 : l1.length ≤ c1) (h : celluloidref01_order.f k l0 l1 = some r) :
    Calls Try.prog 35 #[.slice A0 l0.length c0,.slice A1 l1.length c1] w fun e w' => e = .returned (.int .i64 r) ∧ Drawn0 w w':=by
  have HR0:=am hr0;have HC0:=am hc0;clear hr0 hc0;have HR1:=am hr1;have HC1:=am hc1;clear hr1 hc1;have H : (celluloidref01_order.l0 k l0 l1 (wrap64 ((l0.length : Int) - 1))) = some r:=h;clear h;have H':=am H;clear H
  go_enter Try.func35,Try.ntmps35
  go_wp2
  repeat (go_quiet (fail);try go_wp2)
  go_loopg [5] k (fun kq v5 w' => ∃ (x5_1 : Int),v5 = .int .i64 x5_1 ∧ Aside0 (celluloidref01_order.l0 kq l0 l1 x5_1 = some r) ∧ Aside0 (kq ≤ k) ∧ Drawn0 w w')
  case atStart => exact ⟨(wrap64 ((l0.length : Int) - 1)),(by first|rfl|(simp;done)|(simp [*];done)),H',⟨Nat.le_refl _⟩,by repeat (first|exact Drawn0.refl _|apply Drawn0.step)⟩
  case round =>
    clear H'
    try clear c1
    try clear p2
    obtain ⟨x5_1,rfl,HA,HK1,⟨m1,rfl⟩⟩:=hrel
    cases gk with
    | zero => exact absurd HA.out (by simp [celluloidref01_order.l0])
    | succ k1 =>
      have H:=HA.out;clear HA;simp only [celluloidref01_order.l0] at H
      by_cases c3 : x5_1 ≥ 0
      · rw [if_pos c3] at H
        have c3b0 : decide (0 ≤ x5_1) = true:=decide_eq_true c3;clear c3
        by_cases c4 : 0 ≤ x5_1
        · rw [if_pos c4] at H
          have c4b0 : decide (0 ≤ x5_1) = true:=decide_eq_true c4;clear c4
          by_cases c5 : x5_1 < (l0.length : Int)
          · rw [if_pos c5] at H
            have c5b0 : decide (x5_1 < (l0.length : Int)) = true:=decide_eq_true c5;clear c5
            by_cases c6 : x5_1 < (l1.length : Int)
            · rw [if_pos c6] at H
              have c6b0 : decide (x5_1 < (l1.length : Int)) = true:=decide_eq_true c6;clear c6
              by_cases c7 : (rd l0 x5_1) < (rd l1 x5_1)
              · rw [if_pos c7] at H
                have c7b0 : decide ((rd l0 x5_1) < (rd l1 x5_1)) = true:=decide_eq_true c7;clear c7;obtain rfl:=Option.some.inj H;have p141 : 0 ≤ (x5_1 : Int):=of_decide_eq_true (by first|(with_reducible assumption)|assumption);have q141 : x5_1 < (l0.length : Int):=of_decide_eq_true (by first|(with_reducible assumption)|assumption);obtain ⟨ad141,e141,hx141_0⟩:=Kd.at_int HR0.out x5_1 p141 q141
                cases e141
                replace p141:=eq_true p141;replace q141:=eq_true q141;have p142 : 0 ≤ (x5_1 : Int):=of_decide_eq_true (by first|(with_reducible assumption)|assumption);have q142 : x5_1 < (l1.length : Int):=of_decide_eq_true (by first|(with_reducible assumption)|assumption);obtain ⟨ad142,e142,hx142_0⟩:=Kd.at_int HR1.out x5_1 p142 q142
                cases e142
                replace p142:=eq_true p142;replace q142:=eq_true q142
                go_wp2
                repeat (go_quiet (fail);try go_wp2)
                go_ret
                exact ⟨by first|rfl|(simp;done)|(simp [*];done),by repeat (first|exact Drawn0.refl _|apply Drawn0.step)⟩
              · rw [if_neg c7] at H
                have c7b0 : decide ((rd l0 x5_1) < (rd l1 x5_1)) = false:=decide_eq_false c7;clear c7
                by_cases c8 : (rd l0 x5_1) > (rd l1 x5_1)
                · rw [if_pos c8] at H
                  have c8b0 : decide ((rd l1 x5_1) < (rd l0 x5_1)) = true:=decide_eq_true c8;clear c8;obtain rfl:=Option.some.inj H;have p141 : 0 ≤ (x5_1 : Int):=of_decide_eq_true (by first|(with_reducible assumption)|assumption);have q141 : x5_1 < (l0.length : Int):=of_decide_eq_true (by first|(with_reducible assumption)|assumption);obtain ⟨ad141,e141,hx141_0⟩:=Kd.at_int HR0.out x5_1 p141 q141
                  cases e141
                  replace p141:=eq_true p141;replace q141:=eq_true q141;have p142 : 0 ≤ (x5_1 : Int):=of_decide_eq_true (by first|(with_reducible assumption)|assumption);have q142 : x5_1 < (l1.length : Int):=of_decide_eq_true (by first|(with_reducible assumption)|assumption);obtain ⟨ad142,e142,hx142_0⟩:=Kd.at_int HR1.out x5_1 p142 q142
                  cases e142
                  replace p142:=eq_true p142;replace q142:=eq_true q142;have p143 : 0 ≤ (x5_1 : Int):=of_decide_eq_true (by first|(with_reducible assumption)|assumption);have q143 : x5_1 < (l0.length : Int):=of_decide_eq_true (by first|(with_reducible assumption)|assumption);obtain ⟨ad143,e143,hx143_0⟩:=Kd.at_int HR0.out x5_1 p143 q143;obtain rfl : ad141 = ad143:=(by injection e143);replace p143:=eq_true p143;replace q143:=eq_true q143;have p144 : 0 ≤ (x5_1 : Int):=of_decide_eq_true (by first|(with_reducible assumption)|assumption);have q144 : x5_1 < (l1.length : Int):=of_decide_eq_true (by first|(with_reducible assumption)|assumption);obtain ⟨ad144,e144,hx144_0⟩:=Kd.at_int HR1.out x5_1 p144 q144;obtain rfl : ad142 = ad144:=(by injection e144);replace p144:=eq_true p144;replace q144:=eq_true q144
                  go_wp2
                  repeat (go_quiet (fail);try go_wp2)
                  go_ret
                  exact ⟨by first|rfl|(simp;done)|(simp [*];done),by repeat (first|exact Drawn0.refl _|apply Drawn0.step)⟩
                · rw [if_neg c8] at H
                  have c8b0 : decide ((rd l1 x5_1) < (rd l0 x5_1)) = false:=decide_eq_false c8;clear c8;have H':=am H;clear H;have p141 : 0 ≤ (x5_1 : Int):=of_decide_eq_true (by first|(with_reducible assumption)|assumption);have q141 : x5_1 < (l0.length : Int):=of_decide_eq_true (by first|(with_reducible assumption)|assumption);obtain ⟨ad141,e141,hx141_0⟩:=Kd.at_int HR0.out x5_1 p141 q141
                  cases e141
                  replace p141:=eq_true p141;replace q141:=eq_true q141;have p142 : 0 ≤ (x5_1 : Int):=of_decide_eq_true (by first|(with_reducible assumption)|assumption);have q142 : x5_1 < (l1.length : Int):=of_decide_eq_true (by first|(with_reducible assumption)|assumption);obtain ⟨ad142,e142,hx142_0⟩:=Kd.at_int HR1.out x5_1 p142 q142
                  cases e142
                  replace p142:=eq_true p142;replace q142:=eq_true q142;have p143 : 0 ≤ (x5_1 : Int):=of_decide_eq_true (by first|(with_reducible assumption)|assumption);have q143 : x5_1 < (l0.length : Int):=of_decide_eq_true (by first|(with_reducible assumption)|assumption);obtain ⟨ad143,e143,hx143_0⟩:=Kd.at_int HR0.out x5_1 p143 q143;obtain rfl : ad141 = ad143:=(by injection e143);replace p143:=eq_true p143;replace q143:=eq_true q143;have p144 : 0 ≤ (x5_1 : Int):=of_decide_eq_true (by first|(with_reducible assumption)|assumption);have q144 : x5_1 < (l1.length : Int):=of_decide_eq_true (by first|(with_reducible assumption)|assumption);obtain ⟨ad144,e144,hx144_0⟩:=Kd.at_int HR1.out x5_1 p144 q144;obtain rfl : ad142 = ad144:=(by injection e144);replace p144:=eq_true p144;replace q144:=eq_true q144
                  go_wp2
                  repeat (go_quiet (fail);try go_wp2)
                  go_roundg k1
                  case measure => have:=HK1.out;omega
                  case rel => exact ⟨(wrap64 (x5_1 - 1)),(by first|rfl|(simp;done)|(simp [*];done)),H',⟨by have:=HK1.out;omega⟩,by repeat (first|exact Drawn0.refl _|apply Drawn0.step)⟩
            · rw [if_neg c6] at H
              exact absurd H (by simp)
          · rw [if_neg c5] at H
            exact absurd H (by simp)
        · rw [if_neg c4] at H
          exact absurd H (by simp)
      · rw [if_neg c3] at H
        have c3b0 : decide (0 ≤ x5_1) = false:=decide_eq_false c3;clear c3;obtain rfl:=Option.some.inj H
        go_wp2
        repeat (go_quiet (fail);try go_wp2)
        go_ret
        exact ⟨by first|rfl|(simp;done)|(simp [*];done),by repeat (first|exact Drawn0.refl _|apply Drawn0.step)⟩

/-! ### celluloidref01_Compare: function 23 -/
def celluloidref01_Compare.f (k : Nat) (a0 : Int) (a1 : Int) (a2 : Int) (a3 : Int) : Option (Int):=(celluloidref01_product.f k a0 a1).bind fun bt145 => ((celluloidref01_product.f k a2 a3).bind fun bt149 => (if (bt145.2 != bt149.2) = true then (if bt145.2 = true then (some (-1)) else (some 1)) else (if bt145.2 = true then ((celluloidref01_order.f k bt149.1 bt145.1).bind fun t153 => (some t153)) else ((celluloidref01_order.f k bt145.1 bt149.1).bind fun t154 => (some t154)))))
theorem celluloidref01_Compare.mono : ∀ a0 a1 a2 a3 k,LeO (celluloidref01_Compare.f k a0 a1 a2 a3) (celluloidref01_Compare.f (k + 1) a0 a1 a2 a3):=by
  intro a0 a1 a2 a3 k
  unfold celluloidref01_Compare.f
  repeat' first
      | (with_reducible exact celluloidref01_order.mono _ _ _)
      | (with_reducible exact celluloidref01_product.mono _ _ _)
      | (with_reducible exact LeO.refl _)
      | (with_reducible exact LeO.none _)
      | (with_reducible refine LeO.ite ?_ ?_)
      | (with_reducible refine LeO.bind ?_ (fun _ => ?_))
      | exact celluloidref01_order.mono _ _ _
      | exact celluloidref01_product.mono _ _ _
      | exact LeO.none _
      | refine LeO.ite ?_ ?_
      | refine LeO.bind ?_ (fun _ => ?_)
set_option maxHeartbeats 8000000 in
set_option maxRecDepth 100000 in
theorem celluloidref01_Compare.calls (k : Nat) (a0 : Int) (a1 : Int) (a2 : Int) (a3 : Int) (r : Int) (w : World) (h : celluloidref01_Compare.f k a0 a1 a2 a3 = some r) :
    Calls Try.prog 23 #[.int .i64 a0,.int .i64 a1,.int .i64 a2,.int .i64 a3] w fun e w' => e = .returned (.int .i64 r) ∧ Below w.heap.size w w':=by
  have HB:=am (Below.refl w.heap.size w);have H : ((celluloidref01_product.f k a0 a1).bind fun bt145 => ((celluloidref01_product.f k a2 a3).bind fun bt149 => (if (bt145.2 != bt149.2) = true then (if bt145.2 = true then (some (-1)) else (some 1)) else (if bt145.2 = true then ((celluloidref01_order.f k bt149.1 bt145.1).bind fun t153 => (some t153)) else ((celluloidref01_order.f k bt145.1 bt149.1).bind fun t154 => (some t154)))))) = some r:=h;clear h;replace H:=Option.bind_eq_some_iff.mp H;obtain ⟨⟨t145,t146⟩,A50,H⟩:=H;replace H : ((celluloidref01_product.f k a2 a3).bind fun bt149 => (if (t146 != bt149.2) = true then (if t146 = true then (some (-1)) else (some 1)) else (if t146 = true then ((celluloidref01_order.f k bt149.1 t145).bind fun t153 => (some t153)) else ((celluloidref01_order.f k t145 bt149.1).bind fun t154 => (some t154))))) = some r:=H;have A5:=am A50;clear A50;replace H:=Option.bind_eq_some_iff.mp H;obtain ⟨⟨t149,t150⟩,A60,H⟩:=H;replace H : (if (t146 != t150) = true then (if t146 = true then (some (-1)) else (some 1)) else (if t146 = true then ((celluloidref01_order.f k t149 t145).bind fun t153 => (some t153)) else ((celluloidref01_order.f k t145 t149).bind fun t154 => (some t154)))) = some r:=H;have A6:=am A60;clear A60
  by_cases c7 : (t146 != t150) = true
  · rw [if_pos c7] at H
    have c7b0 : (t146 != t150) = true:=c7
    (try (have c7b1 : decide (t146 = t150) = false:=by simpa using c7))
    (try (have c7b2 : (t146 == t150) = false:=by simpa using c7))
    (try (have c7b3 : ¬ (t146 = t150):=by simpa using c7))
    clear c7
    by_cases c8 : t146 = true
    · subst c8
      have H1 : (some (-1)) = some r:=by rw [if_pos rfl] at H;exact H
      clear H;have H:=H1;clear H1;obtain rfl:=Option.some.inj H
      go_enter Try.func23,Try.ntmps23
      go_wp2_with (first|((with_reducible refine gate_callee (f:=34) rfl ?_);refine goesL_ (some 16) rfl rfl Try.func34 (by kernel_rfl) rfl #[.int .i64 a0,.int .i64 a1] rfl (by (try simp only [List.map_toArray,List.map_cons,List.map_nil]);first|done|rfl|(simp only [List.length_drop,List.length_take];rfl)) ?_;(with_reducible refine (celluloidref01_product.calls k a0 a1 t145 true _ A5.out).mono ?_);rintro e w9 ⟨v147,rfl,ho0,hb⟩;refine ⟨_,rfl,?_⟩;have HO148:=am (Kd.R_lower ho0 (sz (by repeat (first|(with_reducible first|exact HB.out|apply sa|apply sn|apply sd)|exact HB.out))));replace HB:=am (ss (by repeat (first|(with_reducible first|exact HB.out|apply sa|apply sn|apply sd)|exact HB.out)) hb);(try clear hb);(try clear hb2);(try clear hk);(try clear hi);(try clear ho0))|((with_reducible refine gate_callee (f:=34) rfl ?_);refine goesL_ (some 22) rfl rfl Try.func34 (by kernel_rfl) rfl #[.int .i64 a2,.int .i64 a3] rfl (by (try simp only [List.map_toArray,List.map_cons,List.map_nil]);first|done|rfl|(simp only [List.length_drop,List.length_take];rfl)) ?_;(with_reducible refine (celluloidref01_product.calls k a2 a3 t149 t150 _ A6.out).mono ?_);rintro e w10 ⟨v151,rfl,ho0,hb⟩;refine ⟨_,rfl,?_⟩;have HO152:=am (Kd.R_lower (Kd.R_new' ho0 (Kd.R_lt (by (with_reducible repeat (first|apply Kd.R_alloc|apply Kd.R_drewN|apply Kd.R_drew));exact HO148.out))) (sz (by repeat (first|(with_reducible first|exact HB.out|apply sa|apply sn|apply sd)|exact HB.out))));replace HO148:=am (Kd.R_elder' (by (with_reducible repeat (first|apply Kd.R_alloc|apply Kd.R_drewN|apply Kd.R_drew));exact HO148.out) (Kd.R_base ho0) hb);replace HB:=am (ss (by repeat (first|(with_reducible first|exact HB.out|apply sa|apply sn|apply sd)|exact HB.out)) hb);(try clear hb);(try clear hb2);(try clear hk);(try clear hi);(try clear ho0)))
      go_ret
      exact ⟨by first|rfl|(simp [errW_none,errW_some] <;> rfl)|(simp [*,errW_none,errW_some] <;> rfl),by repeat (first|(with_reducible first|exact HB.out|apply sa|apply sn|apply sd)|exact HB.out)⟩
    · replace c8:=Bool.eq_false_iff.mpr c8
      subst c8
      have H1 : (some 1) = some r:=by rw [if_neg (show ¬ (false = true) by decide)] at H;exact H
      clear H;have H:=H1;clear H1;obtain rfl:=Option.some.inj H
      go_enter Try.func23,Try.ntmps23
      go_wp2_with (first|((with_reducible refine gate_callee (f:=34) rfl ?_);refine goesL_ (some 16) rfl rfl Try.func34 (by kernel_rfl) rfl #[.int .i64 a0,.int .i64 a1] rfl (by (try simp only [List.map_toArray,List.map_cons,List.map_nil]);first|done|rfl|(simp only [List.length_drop,List.length_take];rfl)) ?_;(with_reducible refine (celluloidref01_product.calls k a0 a1 t145 false _ A5.out).mono ?_);rintro e w11 ⟨v147,rfl,ho0,hb⟩;refine ⟨_,rfl,?_⟩;have HO148:=am (Kd.R_lower ho0 (sz (by repeat (first|(with_reducible first|exact HB.out|apply sa|apply sn|apply sd)|exact HB.out))));replace HB:=am (ss (by repeat (first|(with_reducible first|exact HB.out|apply sa|apply sn|apply sd)|exact HB.out)) hb);(try clear hb);(try clear hb2);(try clear hk);(try clear hi);(try clear ho0))|((with_reducible refine gate_callee (f:=34) rfl ?_);refine goesL_ (some 22) rfl rfl Try.func34 (by kernel_rfl) rfl #[.int .i64 a2,.int .i64 a3] rfl (by (try simp only [List.map_toArray,List.map_cons,List.map_nil]);first|done|rfl|(simp only [List.length_drop,List.length_take];rfl)) ?_;(with_reducible refine (celluloidref01_product.calls k a2 a3 t149 t150 _ A6.out).mono ?_);rintro e w12 ⟨v151,rfl,ho0,hb⟩;refine ⟨_,rfl,?_⟩;have HO152:=am (Kd.R_lower (Kd.R_new' ho0 (Kd.R_lt (by (with_reducible repeat (first|apply Kd.R_alloc|apply Kd.R_drewN|apply Kd.R_drew));exact HO148.out))) (sz (by repeat (first|(with_reducible first|exact HB.out|apply sa|apply sn|apply sd)|exact HB.out))));replace HO148:=am (Kd.R_elder' (by (with_reducible repeat (first|apply Kd.R_alloc|apply Kd.R_drewN|apply Kd.R_drew));exact HO148.out) (Kd.R_base ho0) hb);replace HB:=am (ss (by repeat (first|(with_reducible first|exact HB.out|apply sa|apply sn|apply sd)|exact HB.out)) hb);(try clear hb);(try clear hb2);(try clear hk);(try clear hi);(try clear ho0)))
      go_ret
      exact ⟨by first|rfl|(simp [errW_none,errW_some] <;> rfl)|(simp [*,errW_none,errW_some] <;> rfl),by repeat (first|(with_reducible first|exact HB.out|apply sa|apply sn|apply sd)|exact HB.out)⟩
  · rw [if_neg c7] at H
    have c7b0 : (t146 != t150) = false:=by simpa using c7
    (try (have c7b1 : decide (t146 = t150) = true:=by simpa using c7))
    (try (have c7b2 : (t146 == t150) = true:=by simpa using c7))
    clear c7
    by_cases c13 : t146 = true
    · subst c13
      have H1 : ((celluloidref01_order.f k t149 t145).bind fun t153 => (some t153)) = some r:=by rw [if_pos rfl] at H;exact H
      clear H;have H:=H1;clear H1;replace H:=Option.bind_eq_some_iff.mp H;obtain ⟨t153,A140,H⟩:=H;replace H : (some t153) = some r:=H;have A14:=am A140;clear A140;obtain rfl:=Option.some.inj H
      go_enter Try.func23,Try.ntmps23
      go_wp2_with (first|((with_reducible refine gate_callee (f:=34) rfl ?_);refine goesL_ (some 16) rfl rfl Try.func34 (by kernel_rfl) rfl #[.int .i64 a0,.int .i64 a1] rfl (by (try simp only [List.map_toArray,List.map_cons,List.map_nil]);first|done|rfl|(simp only [List.length_drop,List.length_take];rfl)) ?_;(with_reducible refine (celluloidref01_product.calls k a0 a1 t145 true _ A5.out).mono ?_);rintro e w15 ⟨v147,rfl,ho0,hb⟩;refine ⟨_,rfl,?_⟩;have HO148:=am (Kd.R_lower ho0 (sz (by repeat (first|(with_reducible first|exact HB.out|apply sa|apply sn|apply sd)|exact HB.out))));replace HB:=am (ss (by repeat (first|(with_reducible first|exact HB.out|apply sa|apply sn|apply sd)|exact HB.out)) hb);(try clear hb);(try clear hb2);(try clear hk);(try clear hi);(try clear ho0))|((with_reducible refine gate_callee (f:=34) rfl ?_);refine goesL_ (some 22) rfl rfl Try.func34 (by kernel_rfl) rfl #[.int .i64 a2,.int .i64 a3] rfl (by (try simp only [List.map_toArray,List.map_cons,List.map_nil]);first|done|rfl|(simp only [List.length_drop,List.length_take];rfl)) ?_;(with_reducible refine (celluloidref01_product.calls k a2 a3 t149 t150 _ A6.out).mono ?_);rintro e w16 ⟨v151,rfl,ho0,hb⟩;refine ⟨_,rfl,?_⟩;have HO152:=am (Kd.R_lower (Kd.R_new' ho0 (Kd.R_lt (by (with_reducible repeat (first|apply Kd.R_alloc|apply Kd.R_drewN|apply Kd.R_drew));exact HO148.out))) (sz (by repeat (first|(with_reducible first|exact HB.out|apply sa|apply sn|apply sd)|exact HB.out))));replace HO148:=am (Kd.R_elder' (by (with_reducible repeat (first|apply Kd.R_alloc|apply Kd.R_drewN|apply Kd.R_drew));exact HO148.out) (Kd.R_base ho0) hb);replace HB:=am (ss (by repeat (first|(with_reducible first|exact HB.out|apply sa|apply sn|apply sd)|exact HB.out)) hb);(try clear hb);(try clear hb2);(try clear hk);(try clear hi);(try clear ho0);obtain ⟨Ao17,co17,eo17⟩:=Kd.R_slice HO152.out;subst eo17;obtain ⟨Ao18,co18,eo18⟩:=Kd.R_slice HO148.out;subst eo18)|((with_reducible refine gate_callee (f:=35) rfl ?_);refine goesL_ (some 32) rfl rfl Try.func35 (by kernel_rfl) rfl #[.slice Ao17 t149.length co17,.slice Ao18 t145.length co18] rfl (by (try simp only [List.map_toArray,List.map_cons,List.map_nil]);first|done|rfl|(simp only [List.length_drop,List.length_take];rfl)) ?_;(with_reducible refine (celluloidref01_order.calls k _ _ t149 _ _ t145 t153 _ ?side1 ?side2 ?side3 ?side4 A14.out).mono ?_);(case side1 => repeat (first|exact (Kd.R_reads' HO152.out).2.2|(with_reducible refine Kd.C_alloc ?_ _)|(with_reducible refine Kd.C_drewN ?_ _)|(with_reducible refine Kd.C_drew ?_)));(case side2 => exact (Kd.R_reads' HO152.out).2.1);(case side3 => repeat (first|exact (Kd.R_reads' HO148.out).2.2|(with_reducible refine Kd.C_alloc ?_ _)|(with_reducible refine Kd.C_drewN ?_ _)|(with_reducible refine Kd.C_drew ?_)));(case side4 => exact (Kd.R_reads' HO148.out).2.1);rintro e w' ⟨rfl,⟨nd,rfl⟩⟩;refine ⟨_,rfl,?_⟩))
      go_ret
      exact ⟨by first|rfl|(simp [errW_none,errW_some] <;> rfl)|(simp [*,errW_none,errW_some] <;> rfl),by repeat (first|(with_reducible first|exact HB.out|apply sa|apply sn|apply sd)|exact HB.out)⟩
    · replace c13:=Bool.eq_false_iff.mpr c13
      subst c13
      have H1 : ((celluloidref01_order.f k t145 t149).bind fun t154 => (some t154)) = some r:=by rw [if_neg (show ¬ (false = true) by decide)] at H;exact H
      clear H;have H:=H1;clear H1;replace H:=Option.bind_eq_some_iff.mp H;obtain ⟨t154,A190,H⟩:=H;replace H : (some t154) = some r:=H;have A19:=am A190;clear A190;obtain rfl:=Option.some.inj H
      go_enter Try.func23,Try.ntmps23
      go_wp2_with (first|((with_reducible refine gate_callee (f:=34) rfl ?_);refine goesL_ (some 16) rfl rfl Try.func34 (by kernel_rfl) rfl #[.int .i64 a0,.int .i64 a1] rfl (by (try simp only [List.map_toArray,List.map_cons,List.map_nil]);first|done|rfl|(simp only [List.length_drop,List.length_take];rfl)) ?_;(with_reducible refine (celluloidref01_product.calls k a0 a1 t145 false _ A5.out).mono ?_);rintro e w20 ⟨v147,rfl,ho0,hb⟩;refine ⟨_,rfl,?_⟩;have HO148:=am (Kd.R_lower ho0 (sz (by repeat (first|(with_reducible first|exact HB.out|apply sa|apply sn|apply sd)|exact HB.out))));replace HB:=am (ss (by repeat (first|(with_reducible first|exact HB.out|apply sa|apply sn|apply sd)|exact HB.out)) hb);(try clear hb);(try clear hb2);(try clear hk);(try clear hi);(try clear ho0))|((with_reducible refine gate_callee (f:=34) rfl ?_);refine goesL_ (some 22) rfl rfl Try.func34 (by kernel_rfl) rfl #[.int .i64 a2,.int .i64 a3] rfl (by (try simp only [List.map_toArray,List.map_cons,List.map_nil]);first|done|rfl|(simp only [List.length_drop,List.length_take];rfl)) ?_;(with_reducible refine (celluloidref01_product.calls k a2 a3 t149 t150 _ A6.out).mono ?_);rintro e w21 ⟨v151,rfl,ho0,hb⟩;refine ⟨_,rfl,?_⟩;have HO152:=am (Kd.R_lower (Kd.R_new' ho0 (Kd.R_lt (by (with_reducible repeat (first|apply Kd.R_alloc|apply Kd.R_drewN|apply Kd.R_drew));exact HO148.out))) (sz (by repeat (first|(with_reducible first|exact HB.out|apply sa|apply sn|apply sd)|exact HB.out))));replace HO148:=am (Kd.R_elder' (by (with_reducible repeat (first|apply Kd.R_alloc|apply Kd.R_drewN|apply Kd.R_drew));exact HO148.out) (Kd.R_base ho0) hb);replace HB:=am (ss (by repeat (first|(with_reducible first|exact HB.out|apply sa|apply sn|apply sd)|exact HB.out)) hb);(try clear hb);(try clear hb2);(try clear hk);(try clear hi);(try clear ho0);obtain ⟨Ao22,co22,eo22⟩:=Kd.R_slice HO148.out;subst eo22;obtain ⟨Ao23,co23,eo23⟩:=Kd.R_slice HO152.out;subst eo23)|((with_reducible refine gate_callee (f:=35) rfl ?_);refine goesL_ (some 35) rfl rfl Try.func35 (by kernel_rfl) rfl #[.slice Ao22 t145.length co22,.slice Ao23 t149.length co23] rfl (by (try simp only [List.map_toArray,List.map_cons,List.map_nil]);first|done|rfl|(simp only [List.length_drop,List.length_take];rfl)) ?_;(with_reducible refine (celluloidref01_order.calls k _ _ t145 _ _ t149 t154 _ ?side1 ?side2 ?side3 ?side4 A19.out).mono ?_);(case side1 => repeat (first|exact (Kd.R_reads' HO148.out).2.2|(with_reducible refine Kd.C_alloc ?_ _)|(with_reducible refine Kd.C_drewN ?_ _)|(with_reducible refine Kd.C_drew ?_)));(case side2 => exact (Kd.R_reads' HO148.out).2.1);(case side3 => repeat (first|exact (Kd.R_reads' HO152.out).2.2|(with_reducible refine Kd.C_alloc ?_ _)|(with_reducible refine Kd.C_drewN ?_ _)|(with_reducible refine Kd.C_drew ?_)));(case side4 => exact (Kd.R_reads' HO152.out).2.1);rintro e w' ⟨rfl,⟨nd,rfl⟩⟩;refine ⟨_,rfl,?_⟩))
      go_ret
      exact ⟨by first|rfl|(simp [errW_none,errW_some] <;> rfl)|(simp [*,errW_none,errW_some] <;> rfl),by repeat (first|(with_reducible first|exact HB.out|apply sa|apply sn|apply sd)|exact HB.out)⟩

/-! ### celluloidref18_Near: function 13 -/
def celluloidref18_Near.j0 : Nat → Int → Int → Int → Int → Int → Bool → Int → Int → Int → Int → Int → Int → Option (Bool)
  | 0,_,_,_,_,_,_,_,_,_,_,_,_ => none
  | k + 1,x1,x2,x8,x9,x10,x45,x156000,x156001,x156002,x156003,x156004,x156005 => if x45 = true then (some true) else (if x8 ≥ (wrap64 (x9 + x10)) then (some false) else (if x9 ≥ (wrap64 (x8 + x10)) then (some false) else ((celluloidref01_Compare.f k (wrap64 (2 * (wrap64 ((wrap64 ((wrap64 (x156002 - x156000)) * (wrap64 (x2 - x156001)))) - (wrap64 ((wrap64 (x156003 - x156001)) * (wrap64 (x1 - x156000)))))))) (wrap64 (2 * (wrap64 ((wrap64 ((wrap64 (x156002 - x156000)) * (wrap64 (x2 - x156001)))) - (wrap64 ((wrap64 (x156003 - x156001)) * (wrap64 (x1 - x156000)))))))) (wrap64 (x156005 * x156005)) x10).bind fun t160 => (some (decide (t160 ≤ 0))))))
def celluloidref18_Near.f (k : Nat) (a0_0 : Int) (a0_1 : Int) (a0_2 : Int) (a0_3 : Int) (a0_4 : Int) (a0_5 : Int) (a1 : Int) (a2 : Int) : Option (Bool):=(celluloidref18_square.f a0_0 a0_1 a1 a2).bind fun t157 => ((celluloidref18_square.f a0_2 a0_3 a1 a2).bind fun t158 => ((celluloidref18_square.f a0_0 a0_1 a0_2 a0_3).bind fun t159 => (if (wrap64 (4 * t157)) ≤ (wrap64 (a0_5 * a0_5)) then (celluloidref18_Near.j0 k a1 a2 t157 t158 t159 true a0_0 a0_1 a0_2 a0_3 a0_4 a0_5) else (celluloidref18_Near.j0 k a1 a2 t157 t158 t159 (decide ((wrap64 (4 * t158)) ≤ (wrap64 (a0_5 * a0_5)))) a0_0 a0_1 a0_2 a0_3 a0_4 a0_5))))
theorem celluloidref18_Near.mono_l : ∀ k,(∀ y0 y1 y2 y3 y4 y5 y6 y7 y8 y9 y10 y11,LeO (celluloidref18_Near.j0 k y0 y1 y2 y3 y4 y5 y6 y7 y8 y9 y10 y11) (celluloidref18_Near.j0 (k + 1) y0 y1 y2 y3 y4 y5 y6 y7 y8 y9 y10 y11))
  | 0 => fun _ _ _ _ _ _ _ _ _ _ _ _ r h => by simp [celluloidref18_Near.j0] at h
  | k + 1 => by
    have ih0:=celluloidref18_Near.mono_l k
    · intro y0 y1 y2 y3 y4 y5 y6 y7 y8 y9 y10 y11
      unfold celluloidref18_Near.j0
      repeat' first
      | (with_reducible exact ih0 _ _ _ _ _ _ _ _ _ _ _ _)
      | (with_reducible exact celluloidref01_Compare.mono _ _ _ _ _)
      | (with_reducible exact LeO.refl _)
      | (with_reducible exact LeO.none _)
      | (with_reducible refine LeO.ite ?_ ?_)
      | (with_reducible refine LeO.bind ?_ (fun _ => ?_))
      | exact ih0 _ _ _ _ _ _ _ _ _ _ _ _
      | exact celluloidref01_Compare.mono _ _ _ _ _
      | exact LeO.none _
      | refine LeO.ite ?_ ?_
      | refine LeO.bind ?_ (fun _ => ?_)
theorem celluloidref18_Near.mono : ∀ a0 a1 a2 a3 a4 a5 a6 a7 k,LeO (celluloidref18_Near.f k a0 a1 a2 a3 a4 a5 a6 a7) (celluloidref18_Near.f (k + 1) a0 a1 a2 a3 a4 a5 a6 a7):=by
  intro a0 a1 a2 a3 a4 a5 a6 a7 k
  have ih0:=celluloidref18_Near.mono_l k
  unfold celluloidref18_Near.f
  repeat' first
      | (with_reducible exact ih0 _ _ _ _ _ _ _ _ _ _ _ _)
      | (with_reducible exact celluloidref01_Compare.mono _ _ _ _ _)
      | (with_reducible exact LeO.refl _)
      | (with_reducible exact LeO.none _)
      | (with_reducible refine LeO.ite ?_ ?_)
      | (with_reducible refine LeO.bind ?_ (fun _ => ?_))
      | exact ih0 _ _ _ _ _ _ _ _ _ _ _ _
      | exact celluloidref01_Compare.mono _ _ _ _ _
      | exact LeO.none _
      | refine LeO.ite ?_ ?_
      | refine LeO.bind ?_ (fun _ => ?_)
def celluloidref18_Near.T2 : Bool × List (List Nat × List Nat):=(true,[([],[]),([0],[0]),([],[]),([1,2],[1,2]),([],[]),([4],[4]),([],[]),([5,6,3],[5,6]),([],[]),([8],[8]),([],[]),([10],[10]),([9,11,7],[9,11]),([3,12,0,1,2,3],[3]),([7,13,0,1,2,3,4,5,6,7,13],[7]),([12,14,0,1,2,3,4,5,6,7,8,9,10,11,12,13,14],[12])])
def celluloidref18_Near.B2 : List Nat:=[0,1,0,7,0,16,0,127,0,256,0,1024,4095,8191,16383,32767]
theorem celluloidref18_Near.tab2 : rtab .any (opsOf Try.f13 2) = celluloidref18_Near.T2:=by kernel_rfl
theorem celluloidref18_Near.bits2 : waitsOk celluloidref18_Near.T2.2 celluloidref18_Near.B2 = true:=by kernel_rfl
set_option maxHeartbeats 8000000 in
set_option maxRecDepth 100000 in
theorem celluloidref18_Near.calls (k : Nat) (a0_0 : Int) (a0_1 : Int) (a0_2 : Int) (a0_3 : Int) (a0_4 : Int) (a0_5 : Int) (a1 : Int) (a2 : Int) (r : Bool) (w : World) (h : celluloidref18_Near.f k a0_0 a0_1 a0_2 a0_3 a0_4 a0_5 a1 a2 = some r) :
    Calls Try.prog 13 #[.agg #[.int .i64 a0_0,.int .i64 a0_1,.int .i64 a0_2,.int .i64 a0_3,.int .i64 a0_4,.int .i64 a0_5],.int .i64 a1,.int .i64 a2] w fun e w' => e = .returned (.bool r) ∧ Below w.heap.size w w':=by
  have hu27:=Try.underlying27;have hu23:=Try.underlying23;have HB:=am (Below.refl w.heap.size w);have H : ((celluloidref18_square.f a0_0 a0_1 a1 a2).bind fun t157 => ((celluloidref18_square.f a0_2 a0_3 a1 a2).bind fun t158 => ((celluloidref18_square.f a0_0 a0_1 a0_2 a0_3).bind fun t159 => (if (wrap64 (4 * t157)) ≤ (wrap64 (a0_5 * a0_5)) then (celluloidref18_Near.j0 k a1 a2 t157 t158 t159 true a0_0 a0_1 a0_2 a0_3 a0_4 a0_5) else (celluloidref18_Near.j0 k a1 a2 t157 t158 t159 (decide ((wrap64 (4 * t158)) ≤ (wrap64 (a0_5 * a0_5)))) a0_0 a0_1 a0_2 a0_3 a0_4 a0_5))))) = some r:=h;clear h;replace H:=Option.bind_eq_some_iff.mp H;obtain ⟨t157,A40,H⟩:=H;replace H : ((celluloidref18_square.f a0_2 a0_3 a1 a2).bind fun t158 => ((celluloidref18_square.f a0_0 a0_1 a0_2 a0_3).bind fun t159 => (if (wrap64 (4 * t157)) ≤ (wrap64 (a0_5 * a0_5)) then (celluloidref18_Near.j0 k a1 a2 t157 t158 t159 true a0_0 a0_1 a0_2 a0_3 a0_4 a0_5) else (celluloidref18_Near.j0 k a1 a2 t157 t158 t159 (decide ((wrap64 (4 * t158)) ≤ (wrap64 (a0_5 * a0_5)))) a0_0 a0_1 a0_2 a0_3 a0_4 a0_5)))) = some r:=H;have A4:=am A40;clear A40;replace H:=Option.bind_eq_some_iff.mp H;obtain ⟨t158,A50,H⟩:=H;replace H : ((celluloidref18_square.f a0_0 a0_1 a0_2 a0_3).bind fun t159 => (if (wrap64 (4 * t157)) ≤ (wrap64 (a0_5 * a0_5)) then (celluloidref18_Near.j0 k a1 a2 t157 t158 t159 true a0_0 a0_1 a0_2 a0_3 a0_4 a0_5) else (celluloidref18_Near.j0 k a1 a2 t157 t158 t159 (decide ((wrap64 (4 * t158)) ≤ (wrap64 (a0_5 * a0_5)))) a0_0 a0_1 a0_2 a0_3 a0_4 a0_5))) = some r:=H;have A5:=am A50;clear A50;replace H:=Option.bind_eq_some_iff.mp H;obtain ⟨t159,A60,H⟩:=H;replace H : (if (wrap64 (4 * t157)) ≤ (wrap64 (a0_5 * a0_5)) then (celluloidref18_Near.j0 k a1 a2 t157 t158 t159 true a0_0 a0_1 a0_2 a0_3 a0_4 a0_5) else (celluloidref18_Near.j0 k a1 a2 t157 t158 t159 (decide ((wrap64 (4 * t158)) ≤ (wrap64 (a0_5 * a0_5)))) a0_0 a0_1 a0_2 a0_3 a0_4 a0_5)) = some r:=H;have A6:=am A60;clear A60;have HC7:=am H;clear H
  go_enter Try.func13,Try.ntmps13
  try go_wp2_with (first|((with_reducible refine gate_dst (N:=3) rfl ?_);refine box_event ?hg (N:=3) ?hd (cs:=#[.int .i64 a0_0,.int .i64 a0_1,.int .i64 a0_2,.int .i64 a0_3,.int .i64 a0_4,.int .i64 a0_5]) (t:=27) ?hr ?_;(case hd => rfl);(case hg => rfl);(case hr => first|(go_simp;done)|(go_simp;rfl));intro gb155 hg w8 hbox hb;have BK155:=am (hbox);have GW155:=am ((by rw [hg];exact (sz (by repeat (first|(with_reducible first|exact HB.out|apply sa|apply sn|apply sd)|exact HB.out))) : w.heap.size ≤ gb155));have GE155:=am ((by rw [hg];exact (sz (by repeat (first|(with_reducible first|exact HB.out|apply sa|apply sn|apply sd)|exact HB.out))) : w.heap.size ≤ gb155));replace HB:=am (ss (by repeat (first|(with_reducible first|exact HB.out|apply sa|apply sn|apply sd)|exact HB.out)) hb);clear hb hbox hg)|((with_reducible refine gate_dst (N:=7) rfl ?_);refine box_event ?hg (N:=7) ?hd (cs:=#[.int .i64 0,.int .i64 0]) (t:=23) ?hr ?_;(case hd => rfl);(case hg => rfl);(case hr => first|(go_simp;done)|(go_simp;rfl));intro gb156 hg w9 hbox hb;have BK156:=am (hbox);obtain ⟨h1_,GW156⟩:=sg (by repeat (first|(with_reducible first|exact HB.out|apply sa|apply sn|apply sd|refine sx ?_ GE155.out)|exact HB.out)) hb hg;replace HB:=h1_;clear h1_;have GE156:=GW156;have NB155_156:=nb (by exact BK155.out) hg;have NB156_155:=ng (by exact BK155.out) hg;replace BK155:=am (bw (by exact BK155.out) hb);clear hb hbox hg;have hnb10:=NB156_155.out;have hnc10:=NB155_156.out;obtain ⟨hcz11_0,hcz11_1⟩:=cq2 BK156.out;obtain ⟨hfz11_0,hfz11_1⟩:=fq2 BK156.out))
  have n0_ : Aside0 (((w9.setCell ⟨gb156,0,none⟩ (.int .i64 a1)).setCell ⟨gb156,1,none⟩ (.int .i64 a2)).heap[gb155]? = some (.cells #[.int .i64 a0_0,.int .i64 a0_1,.int .i64 a0_2,.int .i64 a0_3,.int .i64 a0_4,.int .i64 a0_5] 27 (0,0))):=⟨by (with_reducible repeat (first|refine bn ?_ _|refine bd ?_|refine ba ?_ _|refine bf ?_ NB155_156.out _));exact BK155.out⟩;have n1_ : Aside0 (((w9.setCell ⟨gb156,0,none⟩ (.int .i64 a1)).setCell ⟨gb156,1,none⟩ (.int .i64 a2)).heap[gb156]? = some (.cells #[.int .i64 a1,.int .i64 a2] 23 (0,0))):=⟨(bp (bp BK156.out 0 _ rfl) 1 _ rfl)⟩;have n2_ : Aside0 (Below w.heap.size w ((w9.setCell ⟨gb156,0,none⟩ (.int .i64 a1)).setCell ⟨gb156,1,none⟩ (.int .i64 a2))):=⟨by repeat (first|(with_reducible first|exact HB.out|apply sa|apply sn|apply sd|refine sy ?_ (by assumption))|exact HB.out)⟩;(try clear BK155);(try clear BK156);(try clear HB);generalize ((w9.setCell ⟨gb156,0,none⟩ (.int .i64 a1)).setCell ⟨gb156,1,none⟩ (.int .i64 a2)) = w12 at n0_ n1_ n2_ ⊢;have BK155:=n0_;have BK156:=n1_;have HB:=n2_;clear n0_ n1_ n2_;replace BK155:=am (bd BK155.out);replace BK156:=am (bd BK156.out);replace HB:=am (sd HB.out);refine start_ (n:=16) (S:=fun w' => w'.cell? ⟨gb155,0,none⟩ = some (.int .i64 a0_0) ∧ w'.cell? ⟨gb155,1,none⟩ = some (.int .i64 a0_1) ∧ w'.cell? ⟨gb155,2,none⟩ = some (.int .i64 a0_2) ∧ w'.cell? ⟨gb155,3,none⟩ = some (.int .i64 a0_3) ∧ w'.cell? ⟨gb155,4,none⟩ = some (.int .i64 a0_4) ∧ w'.cell? ⟨gb155,5,none⟩ = some (.int .i64 a0_5) ∧ w'.cell? ⟨gb156,0,none⟩ = some (.int .i64 a1) ∧ w'.cell? ⟨gb156,1,none⟩ = some (.int .i64 a2)) (ds:=[]) #[false,false,false,false,false,false,false,false,false,false,false,false,false,false,false,false] (by kernel_rfl) rfl rfl ⟨(bc BK155.out 0).trans rfl,(bc BK155.out 1).trans rfl,(bc BK155.out 2).trans rfl,(bc BK155.out 3).trans rfl,(bc BK155.out 4).trans rfl,(bc BK155.out 5).trans rfl,(bc BK156.out 0).trans rfl,(bc BK156.out 1).trans rfl⟩ (fun hHeld => ?_);refine with_tabW celluloidref18_Near.tab2 celluloidref18_Near.bits2 (fun HT_ HW_ => ?_);generalize w12.drew = w13 at BK155 BK156 HB hHeld ⊢;refine pure_ (i:=0) (N:=some 15) (v:=?_) (a':=?_) #[true,false,false,false,false,false,false,false,false,false,false,false,false,false,false,false] rfl rfl (any_of HT_.out (by kernel_rfl)) (fun _ _ _ h => h) (Or.inl ⟨by rfl,?_⟩) ?_ ?_
  rotate_left
  · intro w'
    go_simp
    with_reducible rfl
  rotate_left
  · simp only [Act.put,q1,q2,q3,i64_w,i32_w]
    rfl
  refine pure_ (i:=4) (N:=some 19) (v:=?_) (a':=?_) #[true,false,false,false,true,false,false,false,false,false,false,false,false,false,false,false] rfl rfl (any_of HT_.out (by kernel_rfl)) (fun _ _ _ h => h) (Or.inl ⟨by rfl,?_⟩) ?_ ?_
  rotate_left
  · intro w'
    go_simp
    with_reducible rfl
  rotate_left
  · simp only [Act.put,q1,q2,q3,i64_w,i32_w]
    rfl
  refine pure_ (i:=8) (N:=some 23) (v:=?_) (a':=?_) #[true,false,false,false,true,false,false,false,true,false,false,false,false,false,false,false] rfl rfl (any_of HT_.out (by kernel_rfl)) (fun _ _ _ h => h) (Or.inl ⟨by rfl,?_⟩) ?_ ?_
  rotate_left
  · intro w'
    go_simp
    with_reducible rfl
  rotate_left
  · simp only [Act.put,q1,q2,q3,i64_w,i32_w]
    rfl
  refine pure_ (i:=10) (N:=some 25) (v:=?_) (a':=?_) #[true,false,false,false,true,false,false,false,true,false,true,false,false,false,false,false] rfl rfl (any_of HT_.out (by kernel_rfl)) (fun _ _ _ h => h) (Or.inl ⟨by rfl,?_⟩) ?_ ?_
  rotate_left
  · intro w'
    go_simp
    with_reducible rfl
  rotate_left
  · simp only [Act.put,q1,q2,q3,i64_w,i32_w]
    rfl
  refine take_ (i:=1) (N:=some 16) (v:=?_) (a':=?_) #[true,true,false,false,true,false,false,false,true,false,true,false,false,false,false,false] rfl rfl (take_ofW HT_.out HW_.out (by kernel_rfl)) (fun _ _ _ h => h) (Or.inl ⟨by rfl,?_⟩) hHeld ?_ ?_
  rotate_left
  · rintro w' ⟨s0,s1,s2,s3,s4,s5,s6,s7⟩
    go_simp
    with_reducible rfl
  rotate_left
  · simp only [Act.put,q1,q2,q3,i64_w,i32_w]
    rfl
  refine take_ (i:=2) (N:=some 17) (v:=?_) (a':=?_) #[true,true,true,false,true,false,false,false,true,false,true,false,false,false,false,false] rfl rfl (take_ofW HT_.out HW_.out (by kernel_rfl)) (fun _ _ _ h => h) (Or.inl ⟨by rfl,?_⟩) hHeld ?_ ?_
  rotate_left
  · rintro w' ⟨s0,s1,s2,s3,s4,s5,s6,s7⟩
    go_simp
    with_reducible rfl
  rotate_left
  · simp only [Act.put,q1,q2,q3,i64_w,i32_w]
    rfl
  refine take_ (i:=5) (N:=some 20) (v:=?_) (a':=?_) #[true,true,true,false,true,true,false,false,true,false,true,false,false,false,false,false] rfl rfl (take_ofW HT_.out HW_.out (by kernel_rfl)) (fun _ _ _ h => h) (Or.inl ⟨by rfl,?_⟩) hHeld ?_ ?_
  rotate_left
  · rintro w' ⟨s0,s1,s2,s3,s4,s5,s6,s7⟩
    go_simp
    with_reducible rfl
  rotate_left
  · simp only [Act.put,q1,q2,q3,i64_w,i32_w]
    rfl
  refine take_ (i:=6) (N:=some 21) (v:=?_) (a':=?_) #[true,true,true,false,true,true,true,false,true,false,true,false,false,false,false,false] rfl rfl (take_ofW HT_.out HW_.out (by kernel_rfl)) (fun _ _ _ h => h) (Or.inl ⟨by rfl,?_⟩) hHeld ?_ ?_
  rotate_left
  · rintro w' ⟨s0,s1,s2,s3,s4,s5,s6,s7⟩
    go_simp
    with_reducible rfl
  rotate_left
  · simp only [Act.put,q1,q2,q3,i64_w,i32_w]
    rfl
  refine take_ (i:=9) (N:=some 24) (v:=?_) (a':=?_) #[true,true,true,false,true,true,true,false,true,true,true,false,false,false,false,false] rfl rfl (take_ofW HT_.out HW_.out (by kernel_rfl)) (fun _ _ _ h => h) (Or.inl ⟨by rfl,?_⟩) hHeld ?_ ?_
  rotate_left
  · rintro w' ⟨s0,s1,s2,s3,s4,s5,s6,s7⟩
    go_simp
    with_reducible rfl
  rotate_left
  · simp only [Act.put,q1,q2,q3,i64_w,i32_w]
    rfl
  refine take_ (i:=11) (N:=some 26) (v:=?_) (a':=?_) #[true,true,true,false,true,true,true,false,true,true,true,true,false,false,false,false] rfl rfl (take_ofW HT_.out HW_.out (by kernel_rfl)) (fun _ _ _ h => h) (Or.inl ⟨by rfl,?_⟩) hHeld ?_ ?_
  rotate_left
  · rintro w' ⟨s0,s1,s2,s3,s4,s5,s6,s7⟩
    go_simp
    with_reducible rfl
  rotate_left
  · simp only [Act.put,q1,q2,q3,i64_w,i32_w]
    rfl
  refine one_ (i:=3) (N:=some 18) #[true,true,true,true,true,true,true,false,true,true,true,true,false,false,false,false] rfl rfl (one_of HT_.out (by kernel_rfl)) (by decide) (fun K hK => ?_);refine goes_ Try.func22 (by kernel_rfl) rfl #[.agg #[.int .i64 a0_0,.int .i64 a0_1],.agg #[.int .i64 a1,.int .i64 a2]] (by rfl) rfl rfl (by (try simp only [List.map_toArray,List.map_cons,List.map_nil]);first|done|rfl|(simp only [List.length_drop,List.length_take];rfl)) ?_
  with_reducible refine (celluloidref18_square.calls a0_0 a0_1 a1 a2 t157 _ A4.out).mono ?_
  rintro e w14 ⟨rfl,hb⟩
  refine ⟨_,rfl,?_⟩;replace BK155:=am (bw (by exact BK155.out) hb);replace BK156:=am (bw (by exact BK156.out) hb);replace HB:=am (ss (by repeat (first|(with_reducible first|exact HB.out|apply sa|apply sn|apply sd|refine sy ?_ (by assumption))|exact HB.out)) hb);(try clear hb);(try clear hb2);(try clear hk);(try clear hi);refine hK.out _ _ ⟨(bc BK155.out 0).trans rfl,(bc BK155.out 1).trans rfl,(bc BK155.out 2).trans rfl,(bc BK155.out 3).trans rfl,(bc BK155.out 4).trans rfl,(bc BK155.out 5).trans rfl,(bc BK156.out 0).trans rfl,(bc BK156.out 1).trans rfl⟩ (fun hHeld => ?_);clear hK K;refine norm_ (a':=?_) ?_ ?_
  rotate_left
  · show Act.put _ (some 18) _ = _
    simp only [Act.put,q1,q2,q3,i64_w,i32_w]
    rfl
  refine one_ (i:=7) (N:=some 22) #[true,true,true,true,true,true,true,true,true,true,true,true,false,false,false,false] rfl rfl (one_of HT_.out (by kernel_rfl)) (by decide) (fun K hK => ?_);refine goes_ Try.func22 (by kernel_rfl) rfl #[.agg #[.int .i64 a0_2,.int .i64 a0_3],.agg #[.int .i64 a1,.int .i64 a2]] (by rfl) rfl rfl (by (try simp only [List.map_toArray,List.map_cons,List.map_nil]);first|done|rfl|(simp only [List.length_drop,List.length_take];rfl)) ?_
  with_reducible refine (celluloidref18_square.calls a0_2 a0_3 a1 a2 t158 _ A5.out).mono ?_
  rintro e w15 ⟨rfl,hb⟩
  refine ⟨_,rfl,?_⟩;replace BK155:=am (bw (by exact BK155.out) hb);replace BK156:=am (bw (by exact BK156.out) hb);replace HB:=am (ss (by repeat (first|(with_reducible first|exact HB.out|apply sa|apply sn|apply sd|refine sy ?_ (by assumption))|exact HB.out)) hb);(try clear hb);(try clear hb2);(try clear hk);(try clear hi);refine hK.out _ _ ⟨(bc BK155.out 0).trans rfl,(bc BK155.out 1).trans rfl,(bc BK155.out 2).trans rfl,(bc BK155.out 3).trans rfl,(bc BK155.out 4).trans rfl,(bc BK155.out 5).trans rfl,(bc BK156.out 0).trans rfl,(bc BK156.out 1).trans rfl⟩ (fun hHeld => ?_);clear hK K;refine norm_ (a':=?_) ?_ ?_
  rotate_left
  · show Act.put _ (some 22) _ = _
    simp only [Act.put,q1,q2,q3,i64_w,i32_w]
    rfl
  refine one_ (i:=12) (N:=some 27) #[true,true,true,true,true,true,true,true,true,true,true,true,true,false,false,false] rfl rfl (one_of HT_.out (by kernel_rfl)) (by decide) (fun K hK => ?_);refine goes_ Try.func22 (by kernel_rfl) rfl #[.agg #[.int .i64 a0_0,.int .i64 a0_1],.agg #[.int .i64 a0_2,.int .i64 a0_3]] (by rfl) rfl rfl (by (try simp only [List.map_toArray,List.map_cons,List.map_nil]);first|done|rfl|(simp only [List.length_drop,List.length_take];rfl)) ?_
  with_reducible refine (celluloidref18_square.calls a0_0 a0_1 a0_2 a0_3 t159 _ A6.out).mono ?_
  rintro e w16 ⟨rfl,hb⟩
  refine ⟨_,rfl,?_⟩;replace BK155:=am (bw (by exact BK155.out) hb);replace BK156:=am (bw (by exact BK156.out) hb);replace HB:=am (ss (by repeat (first|(with_reducible first|exact HB.out|apply sa|apply sn|apply sd|refine sy ?_ (by assumption))|exact HB.out)) hb);(try clear hb);(try clear hb2);(try clear hk);(try clear hi);refine hK.out _ _ ⟨(bc BK155.out 0).trans rfl,(bc BK155.out 1).trans rfl,(bc BK155.out 2).trans rfl,(bc BK155.out 3).trans rfl,(bc BK155.out 4).trans rfl,(bc BK155.out 5).trans rfl,(bc BK156.out 0).trans rfl,(bc BK156.out 1).trans rfl⟩ (fun hHeld => ?_);clear hK K;refine norm_ (a':=?_) ?_ ?_
  rotate_left
  · show Act.put _ (some 27) _ = _
    simp only [Act.put,q1,q2,q3,i64_w,i32_w]
    rfl
  refine pure_ (i:=13) (N:=some 8) (v:=?_) (a':=?_) #[true,true,true,true,true,true,true,true,true,true,true,true,true,true,false,false] rfl rfl (any_of HT_.out (by kernel_rfl)) (fun _ _ _ h => h) (Or.inl ⟨by rfl,?_⟩) ?_ ?_
  rotate_left
  · intro w'
    go_simp
    with_reducible rfl
  rotate_left
  · simp only [Act.put,q1,q2,q3,i64_w,i32_w]
    rfl
  refine pure_ (i:=14) (N:=some 9) (v:=?_) (a':=?_) #[true,true,true,true,true,true,true,true,true,true,true,true,true,true,true,false] rfl rfl (any_of HT_.out (by kernel_rfl)) (fun _ _ _ h => h) (Or.inl ⟨by rfl,?_⟩) ?_ ?_
  rotate_left
  · intro w'
    go_simp
    with_reducible rfl
  rotate_left
  · simp only [Act.put,q1,q2,q3,i64_w,i32_w]
    rfl
  refine pure_ (i:=15) (N:=some 10) (v:=?_) (a':=?_) #[true,true,true,true,true,true,true,true,true,true,true,true,true,true,true,true] rfl rfl (any_of HT_.out (by kernel_rfl)) (fun _ _ _ h => h) (Or.inl ⟨by rfl,?_⟩) ?_ ?_
  rotate_left
  · intro w'
    go_simp
    with_reducible rfl
  rotate_left
  · simp only [Act.put,q1,q2,q3,i64_w,i32_w]
    rfl
  refine done_ (done_of HT_.out (by kernel_rfl)) ?_
  go_upto_region 3 with (fail)
  go_cut [45] (fun v45 wc => ∃ (kq : Nat) (x45_6 : Bool),v45 = .bool x45_6 ∧ Aside0 (celluloidref18_Near.j0 kq a1 a2 t157 t158 t159 x45_6 a0_0 a0_1 a0_2 a0_3 a0_4 a0_5 = some r) ∧ Aside0 (kq ≤ k) ∧ Aside0 (wc.heap[gb155]? = some (.cells #[.int .i64 a0_0,.int .i64 a0_1,.int .i64 a0_2,.int .i64 a0_3,.int .i64 a0_4,.int .i64 a0_5] 27 (0,0))) ∧ Aside0 (wc.heap[gb156]? = some (.cells #[.int .i64 a1,.int .i64 a2] 23 (0,0))) ∧ Aside0 (Below w.heap.size w wc))
  case first =>
    have H:=HC7.out;clear HC7
    by_cases c17 : (wrap64 (4 * t157)) ≤ (wrap64 (a0_5 * a0_5))
    · rw [if_pos c17] at H
      have c17b0 : decide ((wrap64 (4 * t157)) ≤ (wrap64 (a0_5 * a0_5))) = true:=decide_eq_true c17;clear c17
      (first|rw [c17b0]|(simp only [i64_w,i32_w];rw [c17b0])|skip)
      have H':=am H;clear H;have hnb18:=NB155_156.out;have hnc18:=NB156_155.out;have hcz19_0 : w16.cell? ⟨gb155,0,none⟩ = some (.int .i64 a0_0):=(bc BK155.out 0).trans rfl;have hcz19_1 : w16.cell? ⟨gb155,1,none⟩ = some (.int .i64 a0_1):=(bc BK155.out 1).trans rfl;have hcz19_2 : w16.cell? ⟨gb155,2,none⟩ = some (.int .i64 a0_2):=(bc BK155.out 2).trans rfl;have hcz19_3 : w16.cell? ⟨gb155,3,none⟩ = some (.int .i64 a0_3):=(bc BK155.out 3).trans rfl;have hcz19_4 : w16.cell? ⟨gb155,4,none⟩ = some (.int .i64 a0_4):=(bc BK155.out 4).trans rfl;have hcz19_5 : w16.cell? ⟨gb155,5,none⟩ = some (.int .i64 a0_5):=(bc BK155.out 5).trans rfl;have hfz19_0:=bz BK155.out 0;have hfz19_1:=bz BK155.out 1;have hfz19_2:=bz BK155.out 2;have hfz19_3:=bz BK155.out 3;have hfz19_4:=bz BK155.out 4;have hfz19_5:=bz BK155.out 5
      go_wp2
      go_meet
      case rel => exact ⟨_,(true),(by first|rfl|(simp;done)|(simp [*];done)),H',⟨by first|omega|exact Nat.le_refl _⟩,⟨by exact BK155.out⟩,⟨by exact BK156.out⟩,⟨by repeat (first|(with_reducible first|exact HB.out|apply sa|apply sn|apply sd|refine sy ?_ (by assumption))|exact HB.out)⟩⟩
    · rw [if_neg c17] at H
      have c17b0 : decide ((wrap64 (4 * t157)) ≤ (wrap64 (a0_5 * a0_5))) = false:=decide_eq_false c17;clear c17
      (first|rw [c17b0]|(simp only [i64_w,i32_w];rw [c17b0])|skip)
      have H':=am H;clear H;have hnb20:=NB155_156.out;have hnc20:=NB156_155.out;have hcz21_0 : w16.cell? ⟨gb155,0,none⟩ = some (.int .i64 a0_0):=(bc BK155.out 0).trans rfl;have hcz21_1 : w16.cell? ⟨gb155,1,none⟩ = some (.int .i64 a0_1):=(bc BK155.out 1).trans rfl;have hcz21_2 : w16.cell? ⟨gb155,2,none⟩ = some (.int .i64 a0_2):=(bc BK155.out 2).trans rfl;have hcz21_3 : w16.cell? ⟨gb155,3,none⟩ = some (.int .i64 a0_3):=(bc BK155.out 3).trans rfl;have hcz21_4 : w16.cell? ⟨gb155,4,none⟩ = some (.int .i64 a0_4):=(bc BK155.out 4).trans rfl;have hcz21_5 : w16.cell? ⟨gb155,5,none⟩ = some (.int .i64 a0_5):=(bc BK155.out 5).trans rfl;have hfz21_0:=bz BK155.out 0;have hfz21_1:=bz BK155.out 1;have hfz21_2:=bz BK155.out 2;have hfz21_3:=bz BK155.out 3;have hfz21_4:=bz BK155.out 4;have hfz21_5:=bz BK155.out 5
      go_wp2
      go_meet
      case rel => exact ⟨_,(decide ((wrap64 (4 * t158)) ≤ (wrap64 (a0_5 * a0_5)))),(by first|rfl|(simp;done)|(simp [*];done)),H',⟨by first|omega|exact Nat.le_refl _⟩,⟨by exact BK155.out⟩,⟨by exact BK156.out⟩,⟨by repeat (first|(with_reducible first|exact HB.out|apply sa|apply sn|apply sd|refine sy ?_ (by assumption))|exact HB.out)⟩⟩
  case rest =>
    clear HC7
    try clear c1
    try clear c2
    try clear p2
    try clear p6
    try clear c10
    try clear c13
    try clear c17
    try clear c17b0
    try clear c18
    try clear c20
    try clear hcz11_0
    try clear hcz11_1
    try clear hcz19_0
    try clear hcz19_1
    try clear hcz19_2
    try clear hcz19_3
    try clear hcz19_4
    try clear hcz19_5
    try clear hcz21_0
    try clear hcz21_1
    try clear hcz21_2
    try clear hcz21_3
    try clear hcz21_4
    try clear hcz21_5
    try clear hfz11_0
    try clear hfz11_1
    try clear hfz19_0
    try clear hfz19_1
    try clear hfz19_2
    try clear hfz19_3
    try clear hfz19_4
    try clear hfz19_5
    try clear hfz21_0
    try clear hfz21_1
    try clear hfz21_2
    try clear hfz21_3
    try clear hfz21_4
    try clear hfz21_5
    obtain ⟨kq,x45_6,rfl,HA,HJ6,BK155,BK156,HB⟩:=hcut
    cases kq with
    | zero => exact absurd HA.out (by simp [celluloidref18_Near.j0])
    | succ kj6 =>
      have H:=HA.out;clear HA;simp only [celluloidref18_Near.j0] at H
      by_cases c22 : x45_6 = true
      · subst c22
        have H1 : (some true) = some r:=by rw [if_pos rfl] at H;exact H
        clear H;have H:=H1;clear H1;obtain rfl:=Option.some.inj H
        go_wp2
        go_ret
        exact ⟨by first|rfl|(simp [errW_none,errW_some] <;> rfl)|(simp [*,errW_none,errW_some] <;> rfl),by repeat (first|(with_reducible first|exact HB.out|apply sa|apply sn|apply sd|refine sy ?_ (by assumption))|exact HB.out)⟩
      · replace c22:=Bool.eq_false_iff.mpr c22
        subst c22
        have H1 : (if t157 ≥ (wrap64 (t158 + t159)) then (some false) else (if t158 ≥ (wrap64 (t157 + t159)) then (some false) else ((celluloidref01_Compare.f kj6 (wrap64 (2 * (wrap64 ((wrap64 ((wrap64 (a0_2 - a0_0)) * (wrap64 (a2 - a0_1)))) - (wrap64 ((wrap64 (a0_3 - a0_1)) * (wrap64 (a1 - a0_0)))))))) (wrap64 (2 * (wrap64 ((wrap64 ((wrap64 (a0_2 - a0_0)) * (wrap64 (a2 - a0_1)))) - (wrap64 ((wrap64 (a0_3 - a0_1)) * (wrap64 (a1 - a0_0)))))))) (wrap64 (a0_5 * a0_5)) t159).bind fun t160 => (some (decide (t160 ≤ 0)))))) = some r:=by rw [if_neg (show ¬ (false = true) by decide)] at H;exact H
        clear H;have H:=H1;clear H1
        by_cases c23 : t157 ≥ (wrap64 (t158 + t159))
        · rw [if_pos c23] at H
          have c23b0 : decide ((wrap64 (t158 + t159)) ≤ t157) = true:=decide_eq_true c23;clear c23;obtain rfl:=Option.some.inj H
          go_wp2
          go_ret
          exact ⟨by first|rfl|(simp [errW_none,errW_some] <;> rfl)|(simp [*,errW_none,errW_some] <;> rfl),by repeat (first|(with_reducible first|exact HB.out|apply sa|apply sn|apply sd|refine sy ?_ (by assumption))|exact HB.out)⟩
        · rw [if_neg c23] at H
          have c23b0 : decide ((wrap64 (t158 + t159)) ≤ t157) = false:=decide_eq_false c23;clear c23
          by_cases c24 : t158 ≥ (wrap64 (t157 + t159))
          · rw [if_pos c24] at H
            have c24b0 : decide ((wrap64 (t157 + t159)) ≤ t158) = true:=decide_eq_true c24;clear c24;obtain rfl:=Option.some.inj H
            go_wp2
            go_ret
            exact ⟨by first|rfl|(simp [errW_none,errW_some] <;> rfl)|(simp [*,errW_none,errW_some] <;> rfl),by repeat (first|(with_reducible first|exact HB.out|apply sa|apply sn|apply sd|refine sy ?_ (by assumption))|exact HB.out)⟩
          · rw [if_neg c24] at H
            have c24b0 : decide ((wrap64 (t157 + t159)) ≤ t158) = false:=decide_eq_false c24;clear c24;replace H:=Option.bind_eq_some_iff.mp H;obtain ⟨t160,A250,H⟩:=H;replace H : (some (decide (t160 ≤ 0))) = some r:=H;have A25:=am A250;clear A250;obtain rfl:=Option.some.inj H;have hnb26:=NB155_156.out;have hnc26:=NB156_155.out;have hcz27_0 : wc.cell? ⟨gb155,0,none⟩ = some (.int .i64 a0_0):=(bc BK155.out 0).trans rfl;have hcz27_1 : wc.cell? ⟨gb155,1,none⟩ = some (.int .i64 a0_1):=(bc BK155.out 1).trans rfl;have hcz27_2 : wc.cell? ⟨gb155,2,none⟩ = some (.int .i64 a0_2):=(bc BK155.out 2).trans rfl;have hcz27_3 : wc.cell? ⟨gb155,3,none⟩ = some (.int .i64 a0_3):=(bc BK155.out 3).trans rfl;have hcz27_4 : wc.cell? ⟨gb155,4,none⟩ = some (.int .i64 a0_4):=(bc BK155.out 4).trans rfl;have hcz27_5 : wc.cell? ⟨gb155,5,none⟩ = some (.int .i64 a0_5):=(bc BK155.out 5).trans rfl;have hfz27_0:=bz BK155.out 0;have hfz27_1:=bz BK155.out 1;have hfz27_2:=bz BK155.out 2;have hfz27_3:=bz BK155.out 3;have hfz27_4:=bz BK155.out 4;have hfz27_5:=bz BK155.out 5
            go_wp2_with (first|((with_reducible refine gate_callee (f:=23) rfl ?_);refine goesL_ (some 95) rfl rfl Try.func23 (by kernel_rfl) rfl #[.int .i64 (wrap64 (2 * (wrap64 ((wrap64 ((wrap64 (a0_2 - a0_0)) * (wrap64 (a2 - a0_1)))) - (wrap64 ((wrap64 (a0_3 - a0_1)) * (wrap64 (a1 - a0_0)))))))),.int .i64 (wrap64 (2 * (wrap64 ((wrap64 ((wrap64 (a0_2 - a0_0)) * (wrap64 (a2 - a0_1)))) - (wrap64 ((wrap64 (a0_3 - a0_1)) * (wrap64 (a1 - a0_0)))))))),.int .i64 (wrap64 (a0_5 * a0_5)),.int .i64 t159] rfl (by (try simp only [List.map_toArray,List.map_cons,List.map_nil]);first|done|rfl|(simp only [List.length_drop,List.length_take];rfl)) ?_;(with_reducible refine (celluloidref01_Compare.calls kj6 (wrap64 (2 * (wrap64 ((wrap64 ((wrap64 (a0_2 - a0_0)) * (wrap64 (a2 - a0_1)))) - (wrap64 ((wrap64 (a0_3 - a0_1)) * (wrap64 (a1 - a0_0)))))))) (wrap64 (2 * (wrap64 ((wrap64 ((wrap64 (a0_2 - a0_0)) * (wrap64 (a2 - a0_1)))) - (wrap64 ((wrap64 (a0_3 - a0_1)) * (wrap64 (a1 - a0_0)))))))) (wrap64 (a0_5 * a0_5)) t159 t160 _ A25.out).mono ?_);rintro e w28 ⟨rfl,hb⟩;refine ⟨_,rfl,?_⟩;replace BK155:=am (bw (by exact BK155.out) hb);replace BK156:=am (bw (by exact BK156.out) hb);replace HB:=am (ss (by repeat (first|(with_reducible first|exact HB.out|apply sa|apply sn|apply sd|refine sy ?_ (by assumption))|exact HB.out)) hb);(try clear hb);(try clear hb2);(try clear hk);(try clear hi)))
            go_ret
            exact ⟨by first|rfl|(simp [errW_none,errW_some] <;> rfl)|(simp [*,errW_none,errW_some] <;> rfl),by repeat (first|(with_reducible first|exact HB.out|apply sa|apply sn|apply sd|refine sy ?_ (by assumption))|exact HB.out)⟩

/-! ### curve_Even: function 24 -/
def curve_Even.f (a0_0 : Int) (a0_1 : Int) : Option (Bool):=if (Go.bits .and .i64 a0_0 1) = 0 then (if (Go.bits .and .i64 a0_1 1) = 0 then (if (mx a0_0 a0_1) ≤ 16777216 then (some (decide ((mn a0_0 a0_1) ≥ (-16777216)))) else (some false)) else (some false)) else (some false)
set_option maxHeartbeats 8000000 in
set_option maxRecDepth 100000 in
theorem curve_Even.calls (a0_0 : Int) (a0_1 : Int) (r : Bool) (w : World) (h : curve_Even.f a0_0 a0_1 = some r) :
    Calls Try.prog 24 #[.agg #[.int .i64 a0_0,.int .i64 a0_1]] w fun e w' => e = .returned (.bool r) ∧ Below w.heap.size w w':=by
  have hu23:=Try.underlying23;have HB:=am (Below.refl w.heap.size w);have H : (if (Go.bits .and .i64 a0_0 1) = 0 then (if (Go.bits .and .i64 a0_1 1) = 0 then (if (mx a0_0 a0_1) ≤ 16777216 then (some (decide ((mn a0_0 a0_1) ≥ (-16777216)))) else (some false)) else (some false)) else (some false)) = some r:=h;clear h
  by_cases c2 : (Go.bits .and .i64 a0_0 1) = 0
  · rw [if_pos c2] at H
    have c2b0 : ((Go.bits .and .i64 a0_0 1) == 0) = true:=beq_iff_eq.mpr c2;have c2b1 : ((Go.bits .and .i64 a0_0 1) != 0) = false:=bne_eq_false_iff_eq.mpr c2;clear c2
    by_cases c3 : (Go.bits .and .i64 a0_1 1) = 0
    · rw [if_pos c3] at H
      have c3b0 : ((Go.bits .and .i64 a0_1 1) == 0) = true:=beq_iff_eq.mpr c3;have c3b1 : ((Go.bits .and .i64 a0_1 1) != 0) = false:=bne_eq_false_iff_eq.mpr c3;clear c3;obtain ⟨ji4,hji4⟩ : ∃ j_ : Int,(mx a0_0 a0_1) = j_:=⟨_,rfl⟩
      replace H : (if (ji4) ≤ 16777216 then (some (decide ((mn a0_0 a0_1) ≥ (-16777216)))) else (some false)) = some r:=by first|(rw [hji4] at H;exact H)|(simp only [hji4] at H ⊢;exact H)
      have hji4_ : (if a0_0 < a0_1 then a0_1 else a0_0) = ji4:=hji4
      by_cases c5 : (ji4) ≤ 16777216
      · rw [if_pos c5] at H
        have c5b0 : decide ((ji4) ≤ 16777216) = true:=decide_eq_true c5;clear c5;obtain ⟨ji6,hji6⟩ : ∃ j_ : Int,(mn a0_0 a0_1) = j_:=⟨_,rfl⟩
        replace H : (some (decide ((ji6) ≥ (-16777216)))) = some r:=by first|(rw [hji6] at H;exact H)|(simp only [hji6] at H ⊢;exact H)
        have hji6_ : (if a0_1 < a0_0 then a0_1 else a0_0) = ji6:=hji6;obtain rfl:=Option.some.inj H
        go_enter Try.func24,Try.ntmps24
        go_wp2_with (first|((with_reducible refine gate_dst (N:=1) rfl ?_);(try (refine gate_guard (by rfl) ?_;dsimp only));refine box_event ?hg (N:=1) ?hd (cs:=#[.int .i64 a0_0,.int .i64 a0_1]) (t:=23) ?hr ?_;(case hd => rfl);(case hg => rfl);(case hr => first|(go_simp;done)|(go_simp;rfl));intro gb161 hg w7 hbox hb;have BK161:=am (hbox);have GW161:=am ((by rw [hg];exact (sz (by repeat (first|(with_reducible first|exact HB.out|apply sa|apply sn|apply sd)|exact HB.out))) : w.heap.size ≤ gb161));have GE161:=am ((by rw [hg];exact (sz (by repeat (first|(with_reducible first|exact HB.out|apply sa|apply sn|apply sd)|exact HB.out))) : w.heap.size ≤ gb161));replace HB:=am (ss (by repeat (first|(with_reducible first|exact HB.out|apply sa|apply sn|apply sd)|exact HB.out)) hb);clear hb hbox hg;obtain ⟨hcz8_0,hcz8_1⟩:=cq2 BK161.out;obtain ⟨hfz8_0,hfz8_1⟩:=fq2 BK161.out))
        go_ret
        exact ⟨by first|rfl|(simp [errW_none,errW_some] <;> rfl)|(simp only [← hji4, ← hji6];first|rfl|(simp [errW_none,errW_some] <;> rfl))|(simp [*,errW_none,errW_some] <;> rfl),by repeat (first|(with_reducible first|exact HB.out|apply sa|apply sn|apply sd|refine sx ?_ GE161.out)|exact HB.out)⟩
      · rw [if_neg c5] at H
        have c5b0 : decide ((ji4) ≤ 16777216) = false:=decide_eq_false c5;clear c5;obtain rfl:=Option.some.inj H
        go_enter Try.func24,Try.ntmps24
        go_wp2_with (first|((with_reducible refine gate_dst (N:=1) rfl ?_);(try (refine gate_guard (by rfl) ?_;dsimp only));refine box_event ?hg (N:=1) ?hd (cs:=#[.int .i64 a0_0,.int .i64 a0_1]) (t:=23) ?hr ?_;(case hd => rfl);(case hg => rfl);(case hr => first|(go_simp;done)|(go_simp;rfl));intro gb161 hg w9 hbox hb;have BK161:=am (hbox);have GW161:=am ((by rw [hg];exact (sz (by repeat (first|(with_reducible first|exact HB.out|apply sa|apply sn|apply sd)|exact HB.out))) : w.heap.size ≤ gb161));have GE161:=am ((by rw [hg];exact (sz (by repeat (first|(with_reducible first|exact HB.out|apply sa|apply sn|apply sd)|exact HB.out))) : w.heap.size ≤ gb161));replace HB:=am (ss (by repeat (first|(with_reducible first|exact HB.out|apply sa|apply sn|apply sd)|exact HB.out)) hb);clear hb hbox hg;obtain ⟨hcz10_0,hcz10_1⟩:=cq2 BK161.out;obtain ⟨hfz10_0,hfz10_1⟩:=fq2 BK161.out))
        go_ret
        exact ⟨by first|rfl|(simp [errW_none,errW_some] <;> rfl)|(simp only [← hji4];first|rfl|(simp [errW_none,errW_some] <;> rfl))|(simp [*,errW_none,errW_some] <;> rfl),by repeat (first|(with_reducible first|exact HB.out|apply sa|apply sn|apply sd|refine sx ?_ GE161.out)|exact HB.out)⟩
    · rw [if_neg c3] at H
      have c3b0 : ((Go.bits .and .i64 a0_1 1) == 0) = false:=beq_eq_false_iff_ne.mpr c3;have c3b1 : ((Go.bits .and .i64 a0_1 1) != 0) = true:=bne_iff_ne.mpr c3;obtain rfl:=Option.some.inj H
      go_enter Try.func24,Try.ntmps24
      go_wp2_with (first|((with_reducible refine gate_dst (N:=1) rfl ?_);(try (refine gate_guard (by rfl) ?_;dsimp only));refine box_event ?hg (N:=1) ?hd (cs:=#[.int .i64 a0_0,.int .i64 a0_1]) (t:=23) ?hr ?_;(case hd => rfl);(case hg => rfl);(case hr => first|(go_simp;done)|(go_simp;rfl));intro gb161 hg w11 hbox hb;have BK161:=am (hbox);have GW161:=am ((by rw [hg];exact (sz (by repeat (first|(with_reducible first|exact HB.out|apply sa|apply sn|apply sd)|exact HB.out))) : w.heap.size ≤ gb161));have GE161:=am ((by rw [hg];exact (sz (by repeat (first|(with_reducible first|exact HB.out|apply sa|apply sn|apply sd)|exact HB.out))) : w.heap.size ≤ gb161));replace HB:=am (ss (by repeat (first|(with_reducible first|exact HB.out|apply sa|apply sn|apply sd)|exact HB.out)) hb);clear hb hbox hg;obtain ⟨hcz12_0,hcz12_1⟩:=cq2 BK161.out;obtain ⟨hfz12_0,hfz12_1⟩:=fq2 BK161.out))
      go_ret
      exact ⟨by first|rfl|(simp [errW_none,errW_some] <;> rfl)|(simp [*,errW_none,errW_some] <;> rfl),by repeat (first|(with_reducible first|exact HB.out|apply sa|apply sn|apply sd|refine sx ?_ GE161.out)|exact HB.out)⟩
  · rw [if_neg c2] at H
    have c2b0 : ((Go.bits .and .i64 a0_0 1) == 0) = false:=beq_eq_false_iff_ne.mpr c2;have c2b1 : ((Go.bits .and .i64 a0_0 1) != 0) = true:=bne_iff_ne.mpr c2;obtain rfl:=Option.some.inj H
    go_enter Try.func24,Try.ntmps24
    go_wp2_with (first|((with_reducible refine gate_dst (N:=1) rfl ?_);(try (refine gate_guard (by rfl) ?_;dsimp only));refine box_event ?hg (N:=1) ?hd (cs:=#[.int .i64 a0_0,.int .i64 a0_1]) (t:=23) ?hr ?_;(case hd => rfl);(case hg => rfl);(case hr => first|(go_simp;done)|(go_simp;rfl));intro gb161 hg w13 hbox hb;have BK161:=am (hbox);have GW161:=am ((by rw [hg];exact (sz (by repeat (first|(with_reducible first|exact HB.out|apply sa|apply sn|apply sd)|exact HB.out))) : w.heap.size ≤ gb161));have GE161:=am ((by rw [hg];exact (sz (by repeat (first|(with_reducible first|exact HB.out|apply sa|apply sn|apply sd)|exact HB.out))) : w.heap.size ≤ gb161));replace HB:=am (ss (by repeat (first|(with_reducible first|exact HB.out|apply sa|apply sn|apply sd)|exact HB.out)) hb);clear hb hbox hg;obtain ⟨hcz14_0,hcz14_1⟩:=cq2 BK161.out;obtain ⟨hfz14_0,hfz14_1⟩:=fq2 BK161.out))
    go_ret
    exact ⟨by first|rfl|(simp [errW_none,errW_some] <;> rfl)|(simp [*,errW_none,errW_some] <;> rfl),by repeat (first|(with_reducible first|exact HB.out|apply sa|apply sn|apply sd|refine sx ?_ GE161.out)|exact HB.out)⟩

end Go.Proofs.Ytnofihkmgedbfaa.P
