/- Printed by printx.py (wip/tool) out of the translation: plain functions that tell what the program answers,and the proofs that the program comes to these answers,for all arguments of their kinds. Lean checks it. -/
import Derived.Test.YtmdfcinjmlagcaaShort
import Derived.Test.YtmdfcinjmlagcaaPx0
import Derived.Test.YtmdfcinjmlagcaaPx15
namespace Go.Proofs.Ytmdfcinjmlagcaa.P
open Go.RowKit Go.Proofs.YtmdfcinjmlagcaaW.PrintWords Go.Proofs.YtmdfcinjmlagcaaW.PrintLast Go.Proofs.YtmdfcinjmlagcaaW.PrintMore
attribute [local go_sem] max2_int min2_int max_two min_two max_three min_three max_four min_four max_five min_five max_six min_six   -- for this text's walks alone
set_option linter.unusedVariables false
set_option linter.unusedSimpArgs false

/-! ### ramp_Color: function 56 -/
mutual
def ramp_Color.j0 : Nat → List (S80) → Int → Bool → Option (Int × Int × Int × Int)
  | 0,_,_,_ => none
  | k + 1,x0,x1,x20 => if x20 = true then (some (0,0,0,0)) else (if 0 < (x0.length : Int) then (if x1 ≤ ((rd_T80 x0 0).f0) then (some ((rd_T80 x0 0).f1.f0,(rd_T80 x0 0).f1.f1,(rd_T80 x0 0).f1.f2,(rd_T80 x0 0).f1.f3)) else (ramp_Color.l0 k x0 x1 0)) else (none))
def ramp_Color.j2 : Nat → List (S80) → Int → Int → Option (Int × Int × Int × Int)
  | 0,_,_,_ => none
  | k + 1,x0,x1,x5 => if 0 ≤ x5 then (if x5 < (x0.length : Int) then (if (wrap64 (x5 + 1)) = (x0.length : Int) then (some ((rd_T80 x0 x5).f1.f0,(rd_T80 x0 x5).f1.f1,(rd_T80 x0 x5).f1.f2,(rd_T80 x0 x5).f1.f3)) else (if 0 ≤ (wrap64 (x5 + 1)) then (if (wrap64 (x5 + 1)) < (x0.length : Int) then ((ramp_mix.f k ((rd_T80 x0 x5).f1.f0) ((rd_T80 x0 (wrap64 (x5 + 1))).f1.f0) (wrap64 (x1 - ((rd_T80 x0 x5).f0))) (wrap64 (((rd_T80 x0 (wrap64 (x5 + 1))).f0) - ((rd_T80 x0 x5).f0)))).bind fun t289 => ((ramp_mix.f k ((rd_T80 x0 x5).f1.f1) ((rd_T80 x0 (wrap64 (x5 + 1))).f1.f1) (wrap64 (x1 - ((rd_T80 x0 x5).f0))) (wrap64 (((rd_T80 x0 (wrap64 (x5 + 1))).f0) - ((rd_T80 x0 x5).f0)))).bind fun t290 => ((ramp_mix.f k ((rd_T80 x0 x5).f1.f2) ((rd_T80 x0 (wrap64 (x5 + 1))).f1.f2) (wrap64 (x1 - ((rd_T80 x0 x5).f0))) (wrap64 (((rd_T80 x0 (wrap64 (x5 + 1))).f0) - ((rd_T80 x0 x5).f0)))).bind fun t291 => ((ramp_mix.f k ((rd_T80 x0 x5).f1.f3) ((rd_T80 x0 (wrap64 (x5 + 1))).f1.f3) (wrap64 (x1 - ((rd_T80 x0 x5).f0))) (wrap64 (((rd_T80 x0 (wrap64 (x5 + 1))).f0) - ((rd_T80 x0 x5).f0)))).bind fun t292 => (some (t289,t290,t291,t292)))))) else (none)) else (none))) else (none)) else (none)
def ramp_Color.l0 : Nat → List (S80) → Int → Int → Option (Int × Int × Int × Int)
  | 0,_,_,_ => none
  | k + 1,x0,x1,x5 => if (wrap64 (x5 + 1)) < (x0.length : Int) then (if 0 ≤ (wrap64 (x5 + 1)) then (if ((rd_T80 x0 (wrap64 (x5 + 1))).f0) ≤ x1 then (ramp_Color.l0 k x0 x1 (wrap64 (x5 + 1))) else (ramp_Color.j2 k x0 x1 x5)) else (none)) else (ramp_Color.j2 k x0 x1 x5)
end
def ramp_Color.f (k : Nat) (l0 : List (S80)) (a1 : Int) : Option (Int × Int × Int × Int):=(ramp_right.f k l0).bind fun t281 => (if t281 = true then (if a1 < 0 then (ramp_Color.j0 k l0 a1 true) else (ramp_Color.j0 k l0 a1 (decide (a1 > 255)))) else (ramp_Color.j0 k l0 a1 true))
theorem ramp_Color.mono_l : ∀ k,(∀ y0 y1 y2,LeO (ramp_Color.j0 k y0 y1 y2) (ramp_Color.j0 (k + 1) y0 y1 y2)) ∧ (∀ y0 y1 y2,LeO (ramp_Color.j2 k y0 y1 y2) (ramp_Color.j2 (k + 1) y0 y1 y2)) ∧ (∀ y0 y1 y2,LeO (ramp_Color.l0 k y0 y1 y2) (ramp_Color.l0 (k + 1) y0 y1 y2))
  | 0 => ⟨fun _ _ _ r h => by simp [ramp_Color.j0] at h,fun _ _ _ r h => by simp [ramp_Color.j2] at h,fun _ _ _ r h => by simp [ramp_Color.l0] at h⟩
  | k + 1 => by
    obtain ⟨ih0,ih1,ih2⟩:=ramp_Color.mono_l k;refine ⟨?_,?_,?_⟩
    · intro y0 y1 y2
      unfold ramp_Color.j0
      repeat' first
      | (with_reducible exact ih0 _ _ _)
      | (with_reducible exact ih1 _ _ _)
      | (with_reducible exact ih2 _ _ _)
      | (with_reducible exact ramp_mix.mono _ _ _ _ _)
      | (with_reducible exact ramp_right.mono _ _)
      | (with_reducible exact LeO.refl _)
      | (with_reducible exact LeO.none _)
      | (with_reducible refine LeO.ite ?_ ?_)
      | (with_reducible refine LeO.bind ?_ (fun _ => ?_))
      | exact ih0 _ _ _
      | exact ih1 _ _ _
      | exact ih2 _ _ _
      | exact ramp_mix.mono _ _ _ _ _
      | exact ramp_right.mono _ _
      | exact LeO.none _
      | refine LeO.ite ?_ ?_
      | refine LeO.bind ?_ (fun _ => ?_)
    · intro y0 y1 y2
      unfold ramp_Color.j2
      repeat' first
      | (with_reducible exact ih0 _ _ _)
      | (with_reducible exact ih1 _ _ _)
      | (with_reducible exact ih2 _ _ _)
      | (with_reducible exact ramp_mix.mono _ _ _ _ _)
      | (with_reducible exact ramp_right.mono _ _)
      | (with_reducible exact LeO.refl _)
      | (with_reducible exact LeO.none _)
      | (with_reducible refine LeO.ite ?_ ?_)
      | (with_reducible refine LeO.bind ?_ (fun _ => ?_))
      | exact ih0 _ _ _
      | exact ih1 _ _ _
      | exact ih2 _ _ _
      | exact ramp_mix.mono _ _ _ _ _
      | exact ramp_right.mono _ _
      | exact LeO.none _
      | refine LeO.ite ?_ ?_
      | refine LeO.bind ?_ (fun _ => ?_)
    · intro y0 y1 y2
      unfold ramp_Color.l0
      repeat' first
      | (with_reducible exact ih0 _ _ _)
      | (with_reducible exact ih1 _ _ _)
      | (with_reducible exact ih2 _ _ _)
      | (with_reducible exact ramp_mix.mono _ _ _ _ _)
      | (with_reducible exact ramp_right.mono _ _)
      | (with_reducible exact LeO.refl _)
      | (with_reducible exact LeO.none _)
      | (with_reducible refine LeO.ite ?_ ?_)
      | (with_reducible refine LeO.bind ?_ (fun _ => ?_))
      | exact ih0 _ _ _
      | exact ih1 _ _ _
      | exact ih2 _ _ _
      | exact ramp_mix.mono _ _ _ _ _
      | exact ramp_right.mono _ _
      | exact LeO.none _
      | refine LeO.ite ?_ ?_
      | refine LeO.bind ?_ (fun _ => ?_)
theorem ramp_Color.mono : ∀ a0 a1 k,LeO (ramp_Color.f k a0 a1) (ramp_Color.f (k + 1) a0 a1):=by
  intro a0 a1 k
  obtain ⟨ih0,ih1,ih2⟩:=ramp_Color.mono_l k
  unfold ramp_Color.f
  repeat' first
      | (with_reducible exact ih0 _ _ _)
      | (with_reducible exact ih1 _ _ _)
      | (with_reducible exact ih2 _ _ _)
      | (with_reducible exact ramp_mix.mono _ _ _ _ _)
      | (with_reducible exact ramp_right.mono _ _)
      | (with_reducible exact LeO.refl _)
      | (with_reducible exact LeO.none _)
      | (with_reducible refine LeO.ite ?_ ?_)
      | (with_reducible refine LeO.bind ?_ (fun _ => ?_))
      | exact ih0 _ _ _
      | exact ih1 _ _ _
      | exact ih2 _ _ _
      | exact ramp_mix.mono _ _ _ _ _
      | exact ramp_right.mono _ _
      | exact LeO.none _
      | refine LeO.ite ?_ ?_
      | refine LeO.bind ?_ (fun _ => ?_)
def ramp_Color.T12 : Bool × List (List Nat × List Nat):=(true,[([],[]),([],[]),([1],[1]),([0,2],[0,2]),([],[]),([4],[4]),([],[]),([6],[6]),([5,7],[5,7]),([3,0,1,2,3],[3]),([8,9,0,1,2,3,4,5,6,7,8,9],[8])])
def ramp_Color.B12 : List Nat:=[0,0,2,7,0,16,0,64,240,15,1023]
theorem ramp_Color.tab12 : rtab .any (opsOf Try.f56 12) = ramp_Color.T12:=by kernel_rfl
theorem ramp_Color.bits12 : waitsOk ramp_Color.T12.2 ramp_Color.B12 = true:=by kernel_rfl
def ramp_Color.T13 : Bool × List (List Nat × List Nat):=(true,[([],[]),([0],[0]),([1],[1]),([],[]),([3],[3]),([4],[4]),([],[]),([],[]),([2,5,6,7],[2,5,6,7]),([],[]),([9],[9]),([10],[10]),([],[]),([12],[12]),([13],[13]),([],[]),([],[]),([11,14,15,16,8],[11,14,15,16]),([],[]),([18],[18]),([19],[19]),([],[]),([21],[21]),([22],[22]),([],[]),([],[]),([20,23,24,25,17],[20,23,24,25]),([],[]),([27],[27]),([28],[28]),([],[]),([30],[30]),([31],[31]),([],[]),([],[]),([29,32,33,34,26],[29,32,33,34]),([8,17,26,35],[8,17,26,35]),([36,35,0,1,2,3,4,5,6,7,8,9,10,11,12,13,14,15,16,17,18,19,20,21,22,23,24,25,26,27,28,29,30,31,32,33,34,35,36],[36])])
def ramp_Color.B13 : List Nat:=[0,1,3,0,8,24,0,0,255,0,512,1536,0,4096,12288,0,0,131071,0,262144,786432,0,2097152,6291456,0,0,67108863,0,134217728,402653184,0,1073741824,3221225472,0,0,34359738367,68719476735,137438953471]
theorem ramp_Color.tab13 : rtab .any (opsOf Try.f56 13) = ramp_Color.T13:=by kernel_rfl
theorem ramp_Color.bits13 : waitsOk ramp_Color.T13.2 ramp_Color.B13 = true:=by kernel_rfl
set_option maxHeartbeats 8000000 in
set_option maxRecDepth 100000 in
theorem ramp_Color.calls (k : Nat) (A0 : Option Addr) (c0 : Nat) (l0 : List (S80)) (a1 : Int) (r1 : Int) (r2 : Int) (r3 : Int) (r4 : Int) (w : World) (hr0 : Kd.C k80 w A0 l0.length l0) (hc0 : l0.length ≤ c0) (h : ramp_Color.f k l0 a1 = some (r1,r2,r3,r4)) :
    Calls Try.prog 56 #[.slice A0 l0.length c0,.int .i64 a1] w fun e w' => e = .returned (.agg #[.int .i64 r1,.int .i64 r2,.int .i64 r3,.int .i64 r4]) ∧ Below w.heap.size w w':=by
  have hu23:=Try.underlying23;have hu80:=Try.underlying80;have HR0:=am hr0;have HC0:=am hc0;clear hr0 hc0;have HB:=am (Below.refl w.heap.size w);have H : ((ramp_right.f k l0).bind fun t281 => (if t281 = true then (if a1 < 0 then (ramp_Color.j0 k l0 a1 true) else (ramp_Color.j0 k l0 a1 (decide (a1 > 255)))) else (ramp_Color.j0 k l0 a1 true))) = some (r1,r2,r3,r4):=h;clear h;have HC3:=am H;clear H
  go_enter Try.func56,Try.ntmps56
  go_upto_region 1 with (first|((with_reducible refine gate_dst (N:=4) rfl ?_);refine box_event ?hg (N:=4) ?hd (cs:=#[.int .i64 0,.int .i64 0,.int .i64 0,.int .i64 0]) (t:=23) ?hr ?_;(case hd => rfl);(case hg => rfl);(case hr => first|(go_simp;done)|(go_simp;rfl));intro gb280 hg w4 hbox hb;have n0_:=am (ss (by repeat (first|(with_reducible first|exact HB.out|apply sa|apply sn|apply sd)|exact HB.out)) hb);have n1_:=am (hbox);have n2_:=am ((by rw [hg];exact (sz (by repeat (first|(with_reducible first|exact HB.out|apply sa|apply sn|apply sd)|exact HB.out))) : w.heap.size ≤ gb280));have n3_:=am ((by rw [hg];exact (sz (by repeat (first|(with_reducible first|exact HB.out|apply sa|apply sn|apply sd)|exact HB.out))) : w.heap.size ≤ gb280));clear HB;have HB:=n0_;have BK280:=n1_;have GW280:=n2_;have GE280:=n3_;clear n0_ n1_ n2_ n3_;clear hb hbox hg))
  (try simp only [Act.put,q1,q2,q3])
  go_cut [20] (fun v20 wc => ∃ (kq : Nat) (x20_2 : Bool),v20 = .bool x20_2 ∧ Aside0 (ramp_Color.j0 kq l0 a1 x20_2 = some (r1,r2,r3,r4)) ∧ Aside0 (kq ≤ k) ∧ Aside0 (wc.heap[gb280]? = some (.cells #[.int .i64 0,.int .i64 0,.int .i64 0,.int .i64 0] 23 (0,0))) ∧ Aside0 (Below w.heap.size w wc))
  case first =>
    have H:=HC3.out;clear HC3;replace H:=Option.bind_eq_some_iff.mp H;obtain ⟨t281,A50,H⟩:=H;replace H : (if t281 = true then (if a1 < 0 then (ramp_Color.j0 k l0 a1 true) else (ramp_Color.j0 k l0 a1 (decide (a1 > 255)))) else (ramp_Color.j0 k l0 a1 true)) = some (r1,r2,r3,r4):=H;have A5:=am A50;clear A50
    by_cases c6 : t281 = true
    · subst c6
      have H1 : (if a1 < 0 then (ramp_Color.j0 k l0 a1 true) else (ramp_Color.j0 k l0 a1 (decide (a1 > 255)))) = some (r1,r2,r3,r4):=by rw [if_pos rfl] at H;exact H
      clear H;have H:=H1;clear H1
      by_cases c7 : a1 < 0
      · rw [if_pos c7] at H
        have c7b0 : decide (a1 < 0) = true:=decide_eq_true c7;clear c7
        (first|rw [c7b0]|(simp only [i64_w,i32_w];rw [c7b0])|skip)
        have H':=am H;clear H
        go_wp2_with (first|((with_reducible refine gate_callee (f:=74) rfl ?_);refine goesL_ (some 11) rfl rfl Try.func74 (by kernel_rfl) rfl #[.slice A0 l0.length c0] rfl (by (try simp only [List.map_toArray,List.map_cons,List.map_nil]);first|done|rfl|(simp only [List.length_drop,List.length_take];rfl)) ?_;(with_reducible refine (ramp_right.calls k _ _ l0 true _ ?side1 ?side2 A5.out).mono ?_);(case side1 => repeat (first|exact (Kd.C_below HR0.out HB.out)|(with_reducible refine Kd.C_alloc ?_ _)|(with_reducible refine Kd.C_drewN ?_ _)|(with_reducible refine Kd.C_drew ?_)));(case side2 => exact HC0.out);rintro e w8 ⟨rfl,hb⟩;refine ⟨_,rfl,?_⟩;replace BK280:=am (bw (by exact BK280.out) hb);replace HB:=am (ss (by repeat (first|(with_reducible first|exact HB.out|apply sa|apply sn|apply sd|refine sx ?_ GE280.out)|exact HB.out)) hb);(try clear hb);(try clear hb2);(try clear hk);(try clear hi)))
        go_meet
        case rel => exact ⟨_,(true),(by first|rfl|(simp;done)|(simp [*];done)),H',⟨by first|omega|exact Nat.le_refl _⟩,⟨by exact BK280.out⟩,⟨by repeat (first|(with_reducible first|exact HB.out|apply sa|apply sn|apply sd|refine sx ?_ GE280.out)|exact HB.out)⟩⟩
      · rw [if_neg c7] at H
        have c7b0 : decide (a1 < 0) = false:=decide_eq_false c7;clear c7
        (first|rw [c7b0]|(simp only [i64_w,i32_w];rw [c7b0])|skip)
        have H':=am H;clear H
        go_wp2_with (first|((with_reducible refine gate_callee (f:=74) rfl ?_);refine goesL_ (some 11) rfl rfl Try.func74 (by kernel_rfl) rfl #[.slice A0 l0.length c0] rfl (by (try simp only [List.map_toArray,List.map_cons,List.map_nil]);first|done|rfl|(simp only [List.length_drop,List.length_take];rfl)) ?_;(with_reducible refine (ramp_right.calls k _ _ l0 true _ ?side1 ?side2 A5.out).mono ?_);(case side1 => repeat (first|exact (Kd.C_below HR0.out HB.out)|(with_reducible refine Kd.C_alloc ?_ _)|(with_reducible refine Kd.C_drewN ?_ _)|(with_reducible refine Kd.C_drew ?_)));(case side2 => exact HC0.out);rintro e w9 ⟨rfl,hb⟩;refine ⟨_,rfl,?_⟩;replace BK280:=am (bw (by exact BK280.out) hb);replace HB:=am (ss (by repeat (first|(with_reducible first|exact HB.out|apply sa|apply sn|apply sd|refine sx ?_ GE280.out)|exact HB.out)) hb);(try clear hb);(try clear hb2);(try clear hk);(try clear hi)))
        go_meet
        case rel => exact ⟨_,(decide (a1 > 255)),(by first|rfl|(simp;done)|(simp [*];done)),H',⟨by first|omega|exact Nat.le_refl _⟩,⟨by exact BK280.out⟩,⟨by repeat (first|(with_reducible first|exact HB.out|apply sa|apply sn|apply sd|refine sx ?_ GE280.out)|exact HB.out)⟩⟩
    · replace c6:=Bool.eq_false_iff.mpr c6
      subst c6
      have H1 : (ramp_Color.j0 k l0 a1 true) = some (r1,r2,r3,r4):=by rw [if_neg (show ¬ (false = true) by decide)] at H;exact H
      clear H;have H:=H1;clear H1;have H':=am H;clear H
      go_wp2_with (first|((with_reducible refine gate_callee (f:=74) rfl ?_);refine goesL_ (some 11) rfl rfl Try.func74 (by kernel_rfl) rfl #[.slice A0 l0.length c0] rfl (by (try simp only [List.map_toArray,List.map_cons,List.map_nil]);first|done|rfl|(simp only [List.length_drop,List.length_take];rfl)) ?_;(with_reducible refine (ramp_right.calls k _ _ l0 false _ ?side1 ?side2 A5.out).mono ?_);(case side1 => repeat (first|exact (Kd.C_below HR0.out HB.out)|(with_reducible refine Kd.C_alloc ?_ _)|(with_reducible refine Kd.C_drewN ?_ _)|(with_reducible refine Kd.C_drew ?_)));(case side2 => exact HC0.out);rintro e w10 ⟨rfl,hb⟩;refine ⟨_,rfl,?_⟩;replace BK280:=am (bw (by exact BK280.out) hb);replace HB:=am (ss (by repeat (first|(with_reducible first|exact HB.out|apply sa|apply sn|apply sd|refine sx ?_ GE280.out)|exact HB.out)) hb);(try clear hb);(try clear hb2);(try clear hk);(try clear hi)))
      go_meet
      case rel => exact ⟨_,(true),(by first|rfl|(simp;done)|(simp [*];done)),H',⟨by first|omega|exact Nat.le_refl _⟩,⟨by exact BK280.out⟩,⟨by repeat (first|(with_reducible first|exact HB.out|apply sa|apply sn|apply sd|refine sx ?_ GE280.out)|exact HB.out)⟩⟩
  case rest =>
    clear HC3
    try clear p2
    try clear c5
    try clear c6
    try clear c7
    try clear c7b0
    obtain ⟨kq,x20_2,rfl,HA,HJ2,BK280,HB⟩:=hcut
    cases kq with
    | zero => exact absurd HA.out (by simp [ramp_Color.j0])
    | succ kj2 =>
      have H:=HA.out;clear HA;simp only [ramp_Color.j0] at H
      by_cases c11 : x20_2 = true
      · subst c11
        have H1 : (some (0,0,0,0)) = some (r1,r2,r3,r4):=by rw [if_pos rfl] at H;exact H
        clear H;have H:=H1;clear H1;simp only [Option.some.injEq,Prod.mk.injEq] at H;obtain ⟨rfl,rfl,rfl,rfl⟩:=H;have hcz12_0 : wc.cell? ⟨gb280,0,none⟩ = some (.int .i64 0):=(bc BK280.out 0).trans rfl;have hcz12_1 : wc.cell? ⟨gb280,1,none⟩ = some (.int .i64 0):=(bc BK280.out 1).trans rfl;have hcz12_2 : wc.cell? ⟨gb280,2,none⟩ = some (.int .i64 0):=(bc BK280.out 2).trans rfl;have hcz12_3 : wc.cell? ⟨gb280,3,none⟩ = some (.int .i64 0):=(bc BK280.out 3).trans rfl;have hfz12_0:=bz BK280.out 0;have hfz12_1:=bz BK280.out 1;have hfz12_2:=bz BK280.out 2;have hfz12_3:=bz BK280.out 3
        go_wp2
        refine bodyPost_ret (results_cell_row rfl _ _ gb280 23 #[.int .i64 0,.int .i64 0,.int .i64 0,.int .i64 0] (0,0) _ rfl (bp (bp (bp (bp BK280.out 0 _ rfl) 1 _ rfl) 2 _ rfl) 3 _ rfl) Try.underlying23 rfl (by kernel_rfl)) rfl ?_
        exact ⟨by first|rfl|(simp [errW_none,errW_some] <;> rfl)|(simp [*,errW_none,errW_some] <;> rfl),by repeat (first|(with_reducible first|exact HB.out|apply sa|apply sn|apply sd|refine sx ?_ GE280.out)|exact HB.out)⟩
      · replace c11:=Bool.eq_false_iff.mpr c11
        subst c11
        have H1 : (if 0 < (l0.length : Int) then (if a1 ≤ ((rd_T80 l0 0).f0) then (some ((rd_T80 l0 0).f1.f0,(rd_T80 l0 0).f1.f1,(rd_T80 l0 0).f1.f2,(rd_T80 l0 0).f1.f3)) else (ramp_Color.l0 kj2 l0 a1 0)) else (none)) = some (r1,r2,r3,r4):=by rw [if_neg (show ¬ (false = true) by decide)] at H;exact H
        clear H;have H:=H1;clear H1
        by_cases c13 : 0 < (l0.length : Int)
        · rw [if_pos c13] at H
          have c13b0 : decide (0 < (l0.length : Int)) = true:=decide_eq_true c13;have c13b1 : decide (0 < l0.length) = true:=decide_eq_true (by omega);clear c13
          by_cases c14 : a1 ≤ ((rd_T80 l0 0).f0)
          · rw [if_pos c14] at H
            have c14b0 : decide (a1 ≤ ((rd_T80 l0 0).f0)) = true:=decide_eq_true c14;clear c14;simp only [Option.some.injEq,Prod.mk.injEq] at H;obtain ⟨rfl,rfl,rfl,rfl⟩:=H;have p282 : 0 ≤ (0 : Int):=(by omega);have q282 : 0 < (l0.length : Int):=of_decide_eq_true (by first|(with_reducible assumption)|assumption);obtain ⟨ad282,e282,hx282_0,hx282_1,hx282_2,hx282_3,hx282_4⟩:=at_T80 HR0.out 0 p282 q282
            cases e282
            have qi282 : (0 < l0.length) = True:=eq_true (by omega);(try rw [show ((0 : Int)).toNat = 0 from rfl] at hx282_0);(try rw [show 0 * 5 = 0 from rfl] at hx282_0);(try rw [Addr.add_zero'] at hx282_0);(try rw [show ((0 : Int)).toNat = 0 from rfl] at hx282_1);(try rw [show 0 * 5 = 0 from rfl] at hx282_1);(try rw [Addr.add_zero'] at hx282_1);(try rw [show ((0 : Int)).toNat = 0 from rfl] at hx282_2);(try rw [show 0 * 5 = 0 from rfl] at hx282_2);(try rw [Addr.add_zero'] at hx282_2);(try rw [show ((0 : Int)).toNat = 0 from rfl] at hx282_3);(try rw [show 0 * 5 = 0 from rfl] at hx282_3);(try rw [Addr.add_zero'] at hx282_3);(try rw [show ((0 : Int)).toNat = 0 from rfl] at hx282_4);(try rw [show 0 * 5 = 0 from rfl] at hx282_4);(try rw [Addr.add_zero'] at hx282_4);replace hx282_0:=(HB.out.cell (World.block_lt_of_cell? w _ hx282_0)).trans hx282_0;replace hx282_1:=(HB.out.cell (World.block_lt_of_cell? w _ hx282_1)).trans hx282_1;replace hx282_2:=(HB.out.cell (World.block_lt_of_cell? w _ hx282_2)).trans hx282_2;replace hx282_3:=(HB.out.cell (World.block_lt_of_cell? w _ hx282_3)).trans hx282_3;replace hx282_4:=(HB.out.cell (World.block_lt_of_cell? w _ hx282_4)).trans hx282_4;replace p282:=eq_true p282;replace q282:=eq_true q282;have p283 : 0 ≤ (0 : Int):=(by omega);have q283 : 0 < (l0.length : Int):=of_decide_eq_true (by first|(with_reducible assumption)|assumption);obtain ⟨ad283,e283,hx283_0,hx283_1,hx283_2,hx283_3,hx283_4⟩:=at_T80 HR0.out 0 p283 q283;obtain rfl : ad282 = ad283:=(by injection e283);have qi283 : (0 < l0.length) = True:=eq_true (by omega);(try rw [show ((0 : Int)).toNat = 0 from rfl] at hx283_0);(try rw [show 0 * 5 = 0 from rfl] at hx283_0);(try rw [Addr.add_zero'] at hx283_0);(try rw [show ((0 : Int)).toNat = 0 from rfl] at hx283_1);(try rw [show 0 * 5 = 0 from rfl] at hx283_1);(try rw [Addr.add_zero'] at hx283_1);(try rw [show ((0 : Int)).toNat = 0 from rfl] at hx283_2);(try rw [show 0 * 5 = 0 from rfl] at hx283_2);(try rw [Addr.add_zero'] at hx283_2);(try rw [show ((0 : Int)).toNat = 0 from rfl] at hx283_3);(try rw [show 0 * 5 = 0 from rfl] at hx283_3);(try rw [Addr.add_zero'] at hx283_3);(try rw [show ((0 : Int)).toNat = 0 from rfl] at hx283_4);(try rw [show 0 * 5 = 0 from rfl] at hx283_4);(try rw [Addr.add_zero'] at hx283_4);replace hx283_0:=(HB.out.cell (World.block_lt_of_cell? w _ hx283_0)).trans hx283_0;replace hx283_1:=(HB.out.cell (World.block_lt_of_cell? w _ hx283_1)).trans hx283_1;replace hx283_2:=(HB.out.cell (World.block_lt_of_cell? w _ hx283_2)).trans hx283_2;replace hx283_3:=(HB.out.cell (World.block_lt_of_cell? w _ hx283_3)).trans hx283_3;replace hx283_4:=(HB.out.cell (World.block_lt_of_cell? w _ hx283_4)).trans hx283_4;replace p283:=eq_true p283;replace q283:=eq_true q283;have hcz15_0 : wc.cell? ⟨gb280,0,none⟩ = some (.int .i64 0):=(bc BK280.out 0).trans rfl;have hcz15_1 : wc.cell? ⟨gb280,1,none⟩ = some (.int .i64 0):=(bc BK280.out 1).trans rfl;have hcz15_2 : wc.cell? ⟨gb280,2,none⟩ = some (.int .i64 0):=(bc BK280.out 2).trans rfl;have hcz15_3 : wc.cell? ⟨gb280,3,none⟩ = some (.int .i64 0):=(bc BK280.out 3).trans rfl;have hfz15_0:=bz BK280.out 0;have hfz15_1:=bz BK280.out 1;have hfz15_2:=bz BK280.out 2;have hfz15_3:=bz BK280.out 3
            go_wp2
            refine bodyPost_ret (results_cell_row rfl _ _ gb280 23 #[.int .i64 ((rd_T80 l0 0).f1.f0),.int .i64 ((rd_T80 l0 0).f1.f1),.int .i64 ((rd_T80 l0 0).f1.f2),.int .i64 ((rd_T80 l0 0).f1.f3)] (0,0) _ rfl (bp (bp (bp (bp BK280.out 0 _ rfl) 1 _ rfl) 2 _ rfl) 3 _ rfl) Try.underlying23 rfl (by kernel_rfl)) rfl ?_
            exact ⟨by first|rfl|(simp [errW_none,errW_some] <;> rfl)|(simp [*,errW_none,errW_some] <;> rfl),by repeat (first|(with_reducible first|exact HB.out|apply sa|apply sn|apply sd|refine sx ?_ GE280.out)|exact HB.out)⟩
          · rw [if_neg c14] at H
            have c14b0 : decide (a1 ≤ ((rd_T80 l0 0).f0)) = false:=decide_eq_false c14;clear c14;have HC16:=am H;clear H;have p282 : 0 ≤ (0 : Int):=(by omega);have q282 : 0 < (l0.length : Int):=of_decide_eq_true (by first|(with_reducible assumption)|assumption);obtain ⟨ad282,e282,hx282_0,hx282_1,hx282_2,hx282_3,hx282_4⟩:=at_T80 HR0.out 0 p282 q282
            cases e282
            have qi282 : (0 < l0.length) = True:=eq_true (by omega);(try rw [show ((0 : Int)).toNat = 0 from rfl] at hx282_0);(try rw [show 0 * 5 = 0 from rfl] at hx282_0);(try rw [Addr.add_zero'] at hx282_0);(try rw [show ((0 : Int)).toNat = 0 from rfl] at hx282_1);(try rw [show 0 * 5 = 0 from rfl] at hx282_1);(try rw [Addr.add_zero'] at hx282_1);(try rw [show ((0 : Int)).toNat = 0 from rfl] at hx282_2);(try rw [show 0 * 5 = 0 from rfl] at hx282_2);(try rw [Addr.add_zero'] at hx282_2);(try rw [show ((0 : Int)).toNat = 0 from rfl] at hx282_3);(try rw [show 0 * 5 = 0 from rfl] at hx282_3);(try rw [Addr.add_zero'] at hx282_3);(try rw [show ((0 : Int)).toNat = 0 from rfl] at hx282_4);(try rw [show 0 * 5 = 0 from rfl] at hx282_4);(try rw [Addr.add_zero'] at hx282_4);replace hx282_0:=(HB.out.cell (World.block_lt_of_cell? w _ hx282_0)).trans hx282_0;replace hx282_1:=(HB.out.cell (World.block_lt_of_cell? w _ hx282_1)).trans hx282_1;replace hx282_2:=(HB.out.cell (World.block_lt_of_cell? w _ hx282_2)).trans hx282_2;replace hx282_3:=(HB.out.cell (World.block_lt_of_cell? w _ hx282_3)).trans hx282_3;replace hx282_4:=(HB.out.cell (World.block_lt_of_cell? w _ hx282_4)).trans hx282_4;replace p282:=eq_true p282;replace q282:=eq_true q282
            go_upto_block 0 with (fail)
            go_cut [5] (fun v5 wc => ∃ (kq : Nat) (x5_15 : Int),v5 = .int .i64 x5_15 ∧ Aside0 (ramp_Color.j2 kq l0 a1 x5_15 = some (r1,r2,r3,r4)) ∧ Aside0 (kq ≤ kj2) ∧ Aside0 (wc.heap[gb280]? = some (.cells #[.int .i64 0,.int .i64 0,.int .i64 0,.int .i64 0] 23 (0,0))) ∧ Aside0 (Below w.heap.size w wc))
            case first =>
              have H:=HC16.out;clear HC16;have H':=am H;clear H
              go_wp2
              go_loopg [5] kj2 (fun kq v5 w' => ∃ (x5_2 : Int),v5 = .int .i64 x5_2 ∧ Aside0 (ramp_Color.l0 kq l0 a1 x5_2 = some (r1,r2,r3,r4)) ∧ Aside0 (kq ≤ kj2) ∧ Aside0 (w'.heap[gb280]? = some (.cells #[.int .i64 0,.int .i64 0,.int .i64 0,.int .i64 0] 23 (0,0))) ∧ Aside0 (Below w.heap.size w w'))
              case atStart => exact ⟨(0),(by first|rfl|(simp;done)|(simp [*];done)),H',⟨Nat.le_refl _⟩,⟨by exact BK280.out⟩,⟨by repeat (first|(with_reducible first|exact HB.out|apply sa|apply sn|apply sd|refine sx ?_ GE280.out)|exact HB.out)⟩⟩
              case round =>
                clear H'
                try clear c1
                try clear p2
                try clear q2
                try clear hx2
                try clear qi2
                try clear c5
                try clear c6
                try clear c7
                try clear c7b0
                try clear c11
                try clear c13
                try clear c13b0
                try clear c13b1
                try clear c14
                try clear c14b0
                try clear hcz12_0
                try clear hcz12_1
                try clear hcz12_2
                try clear hcz12_3
                try clear hcz15_0
                try clear hcz15_1
                try clear hcz15_2
                try clear hcz15_3
                try clear hfz12_0
                try clear hfz12_1
                try clear hfz12_2
                try clear hfz12_3
                try clear hfz15_0
                try clear hfz15_1
                try clear hfz15_2
                try clear hfz15_3
                try clear hx282_0
                try clear hx282_1
                try clear hx282_2
                try clear hx282_3
                try clear hx282_4
                try clear hx283_0
                try clear hx283_1
                try clear hx283_2
                try clear hx283_3
                try clear hx283_4
                try clear p2
                try clear p282
                try clear p283
                try clear q282
                try clear q283
                obtain ⟨x5_2,rfl,HA,HK2,BK280,HB⟩:=hrel
                cases gk with
                | zero => exact absurd HA.out (by simp [ramp_Color.l0])
                | succ k2 =>
                  have H:=HA.out;clear HA;simp only [ramp_Color.l0] at H
                  by_cases c17 : (wrap64 (x5_2 + 1)) < (l0.length : Int)
                  · rw [if_pos c17] at H
                    have c17b0 : decide ((wrap64 (x5_2 + 1)) < (l0.length : Int)) = true:=decide_eq_true c17;clear c17
                    (first|rw [c17b0]|(simp only [i64_w,i32_w];rw [c17b0])|skip)
                    obtain ⟨ji18,hji18⟩ : ∃ j_ : Int,(wrap64 (x5_2 + 1)) = j_:=⟨_,rfl⟩
                    replace H : (if 0 ≤ (ji18) then (if ((rd_T80 l0 (ji18)).f0) ≤ a1 then (ramp_Color.l0 k2 l0 a1 ji18) else (ramp_Color.j2 k2 l0 a1 x5_2)) else (none)) = some (r1,r2,r3,r4):=by first|(rw [hji18] at H;exact H)|(simp only [hji18] at H ⊢;exact H)
                    (try rw [hji18] at c17b0);have hji18w : (IntKind.i64.wrap (x5_2 + 1)) = ji18:=(i64_w _).trans hji18
                    by_cases c19 : 0 ≤ (ji18)
                    · rw [if_pos c19] at H
                      have c19b0 : decide (0 ≤ (ji18)) = true:=decide_eq_true c19;clear c19
                      by_cases c20 : ((rd_T80 l0 (ji18)).f0) ≤ a1
                      · rw [if_pos c20] at H
                        have c20b0 : decide (((rd_T80 l0 (ji18)).f0) ≤ a1) = true:=decide_eq_true c20;clear c20;have H':=am H;clear H;have p284 : 0 ≤ ((ji18) : Int):=of_decide_eq_true (by first|(with_reducible assumption)|assumption);have q284 : (ji18) < (l0.length : Int):=of_decide_eq_true (by first|(with_reducible assumption)|assumption);obtain ⟨ad284,e284,hx284_0,hx284_1,hx284_2,hx284_3,hx284_4⟩:=at_T80 HR0.out (ji18) p284 q284;obtain rfl : ad282 = ad284:=(by injection e284);replace hx284_0:=(HB.out.cell (World.block_lt_of_cell? w _ hx284_0)).trans hx284_0;replace hx284_1:=(HB.out.cell (World.block_lt_of_cell? w _ hx284_1)).trans hx284_1;replace hx284_2:=(HB.out.cell (World.block_lt_of_cell? w _ hx284_2)).trans hx284_2;replace hx284_3:=(HB.out.cell (World.block_lt_of_cell? w _ hx284_3)).trans hx284_3;replace hx284_4:=(HB.out.cell (World.block_lt_of_cell? w _ hx284_4)).trans hx284_4;replace p284:=eq_true p284;replace q284:=eq_true q284
                        go_wp2
                        go_roundg k2
                        case measure => have:=HJ2.out;have:=HK2.out;omega
                        case rel => exact ⟨(ji18),(by first|rfl|(simp;done)|(simp only [← hji18] <;> (first|rfl|simp))|(simp [*];done)),H',⟨by have:=HJ2.out;have:=HK2.out;omega⟩,⟨by exact BK280.out⟩,⟨by repeat (first|(with_reducible first|exact HB.out|apply sa|apply sn|apply sd|refine sx ?_ GE280.out)|exact HB.out)⟩⟩
                      · rw [if_neg c20] at H
                        have c20b0 : decide (((rd_T80 l0 (ji18)).f0) ≤ a1) = false:=decide_eq_false c20;clear c20;have H':=am H;clear H;have p284 : 0 ≤ ((ji18) : Int):=of_decide_eq_true (by first|(with_reducible assumption)|assumption);have q284 : (ji18) < (l0.length : Int):=of_decide_eq_true (by first|(with_reducible assumption)|assumption);obtain ⟨ad284,e284,hx284_0,hx284_1,hx284_2,hx284_3,hx284_4⟩:=at_T80 HR0.out (ji18) p284 q284;obtain rfl : ad282 = ad284:=(by injection e284);replace hx284_0:=(HB.out.cell (World.block_lt_of_cell? w _ hx284_0)).trans hx284_0;replace hx284_1:=(HB.out.cell (World.block_lt_of_cell? w _ hx284_1)).trans hx284_1;replace hx284_2:=(HB.out.cell (World.block_lt_of_cell? w _ hx284_2)).trans hx284_2;replace hx284_3:=(HB.out.cell (World.block_lt_of_cell? w _ hx284_3)).trans hx284_3;replace hx284_4:=(HB.out.cell (World.block_lt_of_cell? w _ hx284_4)).trans hx284_4;replace p284:=eq_true p284;replace q284:=eq_true q284
                        go_wp2
                        go_meet
                        case rel => exact ⟨_,(x5_2),(by first|rfl|(simp;done)|(simp [*];done)),H',⟨by have:=HJ2.out;have:=HK2.out;first|omega|exact Nat.le_refl _⟩,⟨by exact BK280.out⟩,⟨by repeat (first|(with_reducible first|exact HB.out|apply sa|apply sn|apply sd|refine sx ?_ GE280.out)|exact HB.out)⟩⟩
                    · rw [if_neg c19] at H
                      exact absurd H (by simp)
                  · rw [if_neg c17] at H
                    have c17b0 : decide ((wrap64 (x5_2 + 1)) < (l0.length : Int)) = false:=decide_eq_false c17;clear c17
                    (first|rw [c17b0]|(simp only [i64_w,i32_w];rw [c17b0])|skip)
                    have H':=am H;clear H
                    go_wp2
                    go_meet
                    case rel => exact ⟨_,(x5_2),(by first|rfl|(simp;done)|(simp [*];done)),H',⟨by have:=HJ2.out;have:=HK2.out;first|omega|exact Nat.le_refl _⟩,⟨by exact BK280.out⟩,⟨by repeat (first|(with_reducible first|exact HB.out|apply sa|apply sn|apply sd|refine sx ?_ GE280.out)|exact HB.out)⟩⟩
            case rest =>
              clear HC16
              try clear c1
              try clear c2
              try clear p2
              try clear q2
              try clear hx2
              try clear qi2
              try clear c5
              try clear c6
              try clear p6
              try clear c7
              try clear c7b0
              try clear c11
              try clear c13
              try clear c13b0
              try clear c13b1
              try clear c14
              try clear c14b0
              try clear c17
              try clear c17b0
              try clear c19
              try clear c19b0
              try clear c20
              try clear c20b0
              try clear hcz12_0
              try clear hcz12_1
              try clear hcz12_2
              try clear hcz12_3
              try clear hcz15_0
              try clear hcz15_1
              try clear hcz15_2
              try clear hcz15_3
              try clear hfz12_0
              try clear hfz12_1
              try clear hfz12_2
              try clear hfz12_3
              try clear hfz15_0
              try clear hfz15_1
              try clear hfz15_2
              try clear hfz15_3
              try clear hx282_0
              try clear hx282_1
              try clear hx282_2
              try clear hx282_3
              try clear hx282_4
              try clear hx283_0
              try clear hx283_1
              try clear hx283_2
              try clear hx283_3
              try clear hx283_4
              try clear hx284_0
              try clear hx284_1
              try clear hx284_2
              try clear hx284_3
              try clear hx284_4
              try clear p2
              try clear p282
              try clear p283
              try clear p284
              try clear q2
              try clear q282
              try clear q283
              try clear q284
              obtain ⟨kq,x5_15,rfl,HA,HJ15,BK280,HB⟩:=hcut
              cases kq with
              | zero => exact absurd HA.out (by simp [ramp_Color.j2])
              | succ kj15 =>
                have H:=HA.out;clear HA;simp only [ramp_Color.j2] at H
                by_cases c21 : 0 ≤ x5_15
                · rw [if_pos c21] at H
                  have c21b0 : decide (0 ≤ x5_15) = true:=decide_eq_true c21;clear c21
                  by_cases c22 : x5_15 < (l0.length : Int)
                  · rw [if_pos c22] at H
                    have c22b0 : decide (x5_15 < (l0.length : Int)) = true:=decide_eq_true c22;clear c22
                    by_cases c23 : (wrap64 (x5_15 + 1)) = (l0.length : Int)
                    · rw [if_pos c23] at H
                      have c23b0 : ((wrap64 (x5_15 + 1)) == (l0.length : Int)) = true:=beq_iff_eq.mpr c23;have c23b1 : ((wrap64 (x5_15 + 1)) != (l0.length : Int)) = false:=bne_eq_false_iff_eq.mpr c23;clear c23;simp only [Option.some.injEq,Prod.mk.injEq] at H;obtain ⟨rfl,rfl,rfl,rfl⟩:=H;have p285 : 0 ≤ (x5_15 : Int):=of_decide_eq_true (by first|(with_reducible assumption)|assumption);have q285 : x5_15 < (l0.length : Int):=of_decide_eq_true (by first|(with_reducible assumption)|assumption);obtain ⟨ad285,e285,hx285_0,hx285_1,hx285_2,hx285_3,hx285_4⟩:=at_T80 HR0.out x5_15 p285 q285;obtain rfl : ad282 = ad285:=(by injection e285);replace hx285_0:=(HB.out.cell (World.block_lt_of_cell? w _ hx285_0)).trans hx285_0;replace hx285_1:=(HB.out.cell (World.block_lt_of_cell? w _ hx285_1)).trans hx285_1;replace hx285_2:=(HB.out.cell (World.block_lt_of_cell? w _ hx285_2)).trans hx285_2;replace hx285_3:=(HB.out.cell (World.block_lt_of_cell? w _ hx285_3)).trans hx285_3;replace hx285_4:=(HB.out.cell (World.block_lt_of_cell? w _ hx285_4)).trans hx285_4;replace p285:=eq_true p285;replace q285:=eq_true q285
                      go_wp2_with (first|((with_reducible refine gate_dst (N:=6) rfl ?_);refine box_event ?hg (N:=6) ?hd (cs:=#[.int .i64 0,.int .i64 0,.int .i64 0,.int .i64 0,.int .i64 0]) (t:=80) ?hr ?_;(case hd => rfl);(case hg => rfl);(case hr => first|(go_simp;done)|(go_simp;rfl));intro gb286 hg w24 hbox hb;have BK286:=am (hbox);obtain ⟨h1_,GW286⟩:=sg (by repeat (first|(with_reducible first|exact HB.out|apply sa|apply sn|apply sd|refine sx ?_ GE280.out)|exact HB.out)) hb hg;replace HB:=h1_;clear h1_;have GE286:=GW286;have NB280_286:=nb (by exact BK280.out) hg;have NB286_280:=ng (by exact BK280.out) hg;replace BK280:=am (bw (by exact BK280.out) hb);clear hb hbox hg;have hnb25:=NB286_280.out;have hnc25:=NB280_286.out;obtain ⟨hcz26_0,hcz26_1,hcz26_2,hcz26_3,hcz26_4⟩:=cq5 BK286.out;obtain ⟨hfz26_0,hfz26_1,hfz26_2,hfz26_3,hfz26_4⟩:=fq5 BK286.out;obtain ⟨hcz27_0,hcz27_1,hcz27_2,hcz27_3⟩:=cq4 BK280.out;obtain ⟨hfz27_0,hfz27_1,hfz27_2,hfz27_3⟩:=fq4 BK280.out))
                      refine bodyPost_ret (results_cell_row rfl _ _ gb280 23 #[.int .i64 ((rd_T80 l0 x5_15).f1.f0),.int .i64 ((rd_T80 l0 x5_15).f1.f1),.int .i64 ((rd_T80 l0 x5_15).f1.f2),.int .i64 ((rd_T80 l0 x5_15).f1.f3)] (0,0) _ rfl (by (with_reducible repeat (first|refine bn ?_ _|refine bd ?_|refine ba ?_ _));refine bp (cs:=#[.int .i64 ((rd_T80 l0 x5_15).f1.f0),.int .i64 ((rd_T80 l0 x5_15).f1.f1),.int .i64 ((rd_T80 l0 x5_15).f1.f2),.int .i64 0]) ?_ 3 _ rfl;(with_reducible repeat (first|refine bn ?_ _|refine bd ?_|refine ba ?_ _));refine bp (cs:=#[.int .i64 ((rd_T80 l0 x5_15).f1.f0),.int .i64 ((rd_T80 l0 x5_15).f1.f1),.int .i64 0,.int .i64 0]) ?_ 2 _ rfl;(with_reducible repeat (first|refine bn ?_ _|refine bd ?_|refine ba ?_ _));refine bp (cs:=#[.int .i64 ((rd_T80 l0 x5_15).f1.f0),.int .i64 0,.int .i64 0,.int .i64 0]) ?_ 1 _ rfl;(with_reducible repeat (first|refine bn ?_ _|refine bd ?_|refine ba ?_ _));refine bp (cs:=#[.int .i64 0,.int .i64 0,.int .i64 0,.int .i64 0]) ?_ 0 _ rfl;(with_reducible repeat (first|refine bn ?_ _|refine bd ?_|refine ba ?_ _));refine bf ?_ NB280_286.out _;(with_reducible repeat (first|refine bn ?_ _|refine bd ?_|refine ba ?_ _));refine bf ?_ NB280_286.out _;(with_reducible repeat (first|refine bn ?_ _|refine bd ?_|refine ba ?_ _));refine bf ?_ NB280_286.out _;(with_reducible repeat (first|refine bn ?_ _|refine bd ?_|refine ba ?_ _));refine bf ?_ NB280_286.out _;(with_reducible repeat (first|refine bn ?_ _|refine bd ?_|refine ba ?_ _));refine bf ?_ NB280_286.out _;(with_reducible repeat (first|refine bn ?_ _|refine bd ?_|refine ba ?_ _));exact BK280.out) Try.underlying23 rfl (by kernel_rfl)) rfl ?_
                      exact ⟨by first|rfl|(simp [errW_none,errW_some] <;> rfl)|(simp [*,errW_none,errW_some] <;> rfl),by repeat (first|(with_reducible first|exact HB.out|apply sa|apply sn|apply sd|refine sy ?_ (by assumption))|exact HB.out)⟩
                    · rw [if_neg c23] at H
                      have c23b0 : ((wrap64 (x5_15 + 1)) == (l0.length : Int)) = false:=beq_eq_false_iff_ne.mpr c23;have c23b1 : ((wrap64 (x5_15 + 1)) != (l0.length : Int)) = true:=bne_iff_ne.mpr c23;obtain ⟨ji28,hji28⟩ : ∃ j_ : Int,(wrap64 (x5_15 + 1)) = j_:=⟨_,rfl⟩
                      replace H : (if 0 ≤ (ji28) then (if (ji28) < (l0.length : Int) then ((ramp_mix.f kj15 ((rd_T80 l0 x5_15).f1.f0) ((rd_T80 l0 (ji28)).f1.f0) (wrap64 (a1 - ((rd_T80 l0 x5_15).f0))) (wrap64 (((rd_T80 l0 (ji28)).f0) - ((rd_T80 l0 x5_15).f0)))).bind fun t289 => ((ramp_mix.f kj15 ((rd_T80 l0 x5_15).f1.f1) ((rd_T80 l0 (ji28)).f1.f1) (wrap64 (a1 - ((rd_T80 l0 x5_15).f0))) (wrap64 (((rd_T80 l0 (ji28)).f0) - ((rd_T80 l0 x5_15).f0)))).bind fun t290 => ((ramp_mix.f kj15 ((rd_T80 l0 x5_15).f1.f2) ((rd_T80 l0 (ji28)).f1.f2) (wrap64 (a1 - ((rd_T80 l0 x5_15).f0))) (wrap64 (((rd_T80 l0 (ji28)).f0) - ((rd_T80 l0 x5_15).f0)))).bind fun t291 => ((ramp_mix.f kj15 ((rd_T80 l0 x5_15).f1.f3) ((rd_T80 l0 (ji28)).f1.f3) (wrap64 (a1 - ((rd_T80 l0 x5_15).f0))) (wrap64 (((rd_T80 l0 (ji28)).f0) - ((rd_T80 l0 x5_15).f0)))).bind fun t292 => (some (t289,t290,t291,t292)))))) else (none)) else (none)) = some (r1,r2,r3,r4):=by first|(rw [hji28] at H;exact H)|(simp only [hji28] at H ⊢;exact H)
                      (try rw [hji28] at c23b0);(try rw [hji28] at c23b1);have hji28w : (IntKind.i64.wrap (x5_15 + 1)) = ji28:=(i64_w _).trans hji28
                      by_cases c29 : 0 ≤ (ji28)
                      · rw [if_pos c29] at H
                        have c29b0 : decide (0 ≤ (ji28)) = true:=decide_eq_true c29;clear c29
                        by_cases c30 : (ji28) < (l0.length : Int)
                        · rw [if_pos c30] at H
                          have c30b0 : decide ((ji28) < (l0.length : Int)) = true:=decide_eq_true c30;clear c30;replace H:=Option.bind_eq_some_iff.mp H;obtain ⟨t289,A310,H⟩:=H;replace H : ((ramp_mix.f kj15 ((rd_T80 l0 x5_15).f1.f1) ((rd_T80 l0 (ji28)).f1.f1) (wrap64 (a1 - ((rd_T80 l0 x5_15).f0))) (wrap64 (((rd_T80 l0 (ji28)).f0) - ((rd_T80 l0 x5_15).f0)))).bind fun t290 => ((ramp_mix.f kj15 ((rd_T80 l0 x5_15).f1.f2) ((rd_T80 l0 (ji28)).f1.f2) (wrap64 (a1 - ((rd_T80 l0 x5_15).f0))) (wrap64 (((rd_T80 l0 (ji28)).f0) - ((rd_T80 l0 x5_15).f0)))).bind fun t291 => ((ramp_mix.f kj15 ((rd_T80 l0 x5_15).f1.f3) ((rd_T80 l0 (ji28)).f1.f3) (wrap64 (a1 - ((rd_T80 l0 x5_15).f0))) (wrap64 (((rd_T80 l0 (ji28)).f0) - ((rd_T80 l0 x5_15).f0)))).bind fun t292 => (some (t289,t290,t291,t292))))) = some (r1,r2,r3,r4):=H;have A31:=am A310;clear A310;replace H:=Option.bind_eq_some_iff.mp H;obtain ⟨t290,A320,H⟩:=H;replace H : ((ramp_mix.f kj15 ((rd_T80 l0 x5_15).f1.f2) ((rd_T80 l0 (ji28)).f1.f2) (wrap64 (a1 - ((rd_T80 l0 x5_15).f0))) (wrap64 (((rd_T80 l0 (ji28)).f0) - ((rd_T80 l0 x5_15).f0)))).bind fun t291 => ((ramp_mix.f kj15 ((rd_T80 l0 x5_15).f1.f3) ((rd_T80 l0 (ji28)).f1.f3) (wrap64 (a1 - ((rd_T80 l0 x5_15).f0))) (wrap64 (((rd_T80 l0 (ji28)).f0) - ((rd_T80 l0 x5_15).f0)))).bind fun t292 => (some (t289,t290,t291,t292)))) = some (r1,r2,r3,r4):=H;have A32:=am A320;clear A320;replace H:=Option.bind_eq_some_iff.mp H;obtain ⟨t291,A330,H⟩:=H;replace H : ((ramp_mix.f kj15 ((rd_T80 l0 x5_15).f1.f3) ((rd_T80 l0 (ji28)).f1.f3) (wrap64 (a1 - ((rd_T80 l0 x5_15).f0))) (wrap64 (((rd_T80 l0 (ji28)).f0) - ((rd_T80 l0 x5_15).f0)))).bind fun t292 => (some (t289,t290,t291,t292))) = some (r1,r2,r3,r4):=H;have A33:=am A330;clear A330;replace H:=Option.bind_eq_some_iff.mp H;obtain ⟨t292,A340,H⟩:=H;replace H : (some (t289,t290,t291,t292)) = some (r1,r2,r3,r4):=H;have A34:=am A340;clear A340;simp only [Option.some.injEq,Prod.mk.injEq] at H;obtain ⟨rfl,rfl,rfl,rfl⟩:=H;have p285 : 0 ≤ (x5_15 : Int):=of_decide_eq_true (by first|(with_reducible assumption)|assumption);have q285 : x5_15 < (l0.length : Int):=of_decide_eq_true (by first|(with_reducible assumption)|assumption);obtain ⟨ad285,e285,hx285_0,hx285_1,hx285_2,hx285_3,hx285_4⟩:=at_T80 HR0.out x5_15 p285 q285;obtain rfl : ad282 = ad285:=(by injection e285);replace hx285_0:=(HB.out.cell (World.block_lt_of_cell? w _ hx285_0)).trans hx285_0;replace hx285_1:=(HB.out.cell (World.block_lt_of_cell? w _ hx285_1)).trans hx285_1;replace hx285_2:=(HB.out.cell (World.block_lt_of_cell? w _ hx285_2)).trans hx285_2;replace hx285_3:=(HB.out.cell (World.block_lt_of_cell? w _ hx285_3)).trans hx285_3;replace hx285_4:=(HB.out.cell (World.block_lt_of_cell? w _ hx285_4)).trans hx285_4;replace p285:=eq_true p285;replace q285:=eq_true q285
                          try go_wp2_with (first|((with_reducible refine gate_dst (N:=6) rfl ?_);refine box_event ?hg (N:=6) ?hd (cs:=#[.int .i64 0,.int .i64 0,.int .i64 0,.int .i64 0,.int .i64 0]) (t:=80) ?hr ?_;(case hd => rfl);(case hg => rfl);(case hr => first|(go_simp;done)|(go_simp;rfl));intro gb286 hg w35 hbox hb;have BK286:=am (hbox);obtain ⟨h1_,GW286⟩:=sg (by repeat (first|(with_reducible first|exact HB.out|apply sa|apply sn|apply sd|refine sx ?_ GE280.out)|exact HB.out)) hb hg;replace HB:=h1_;clear h1_;have GE286:=GW286;have NB280_286:=nb (by exact BK280.out) hg;have NB286_280:=ng (by exact BK280.out) hg;replace BK280:=am (bw (by exact BK280.out) hb);clear hb hbox hg;have hnb36:=NB286_280.out;have hnc36:=NB280_286.out;obtain ⟨hcz37_0,hcz37_1,hcz37_2,hcz37_3,hcz37_4⟩:=cq5 BK286.out;obtain ⟨hfz37_0,hfz37_1,hfz37_2,hfz37_3,hfz37_4⟩:=fq5 BK286.out;have p287 : 0 ≤ ((ji28) : Int):=of_decide_eq_true (by first|(with_reducible assumption)|assumption);have q287 : (ji28) < (l0.length : Int):=of_decide_eq_true (by first|(with_reducible assumption)|assumption);obtain ⟨ad287,e287,hx287_0,hx287_1,hx287_2,hx287_3,hx287_4⟩:=at_T80 HR0.out (ji28) p287 q287;obtain rfl : ad282 = ad287:=(by injection e287);have hn287_0 : ad282.block ≠ gb286:=Nat.ne_of_lt (Nat.lt_of_lt_of_le (by have:=World.block_lt_of_cell? _ _ hx287_0;first|rwa [add_block] at this|exact this) GW286.out);have hn287_1 : ad282.block ≠ gb286:=Nat.ne_of_lt (Nat.lt_of_lt_of_le (by have:=World.block_lt_of_cell? _ _ hx287_0;first|rwa [add_block] at this|exact this) GW286.out);have hn287_2 : ad282.block ≠ gb286:=Nat.ne_of_lt (Nat.lt_of_lt_of_le (by have:=World.block_lt_of_cell? _ _ hx287_0;first|rwa [add_block] at this|exact this) GW286.out);have hn287_3 : ad282.block ≠ gb286:=Nat.ne_of_lt (Nat.lt_of_lt_of_le (by have:=World.block_lt_of_cell? _ _ hx287_0;first|rwa [add_block] at this|exact this) GW286.out);have hn287_4 : ad282.block ≠ gb286:=Nat.ne_of_lt (Nat.lt_of_lt_of_le (by have:=World.block_lt_of_cell? _ _ hx287_0;first|rwa [add_block] at this|exact this) GW286.out);replace hx287_0:=(HB.out.cell (World.block_lt_of_cell? w _ hx287_0)).trans hx287_0;replace hx287_1:=(HB.out.cell (World.block_lt_of_cell? w _ hx287_1)).trans hx287_1;replace hx287_2:=(HB.out.cell (World.block_lt_of_cell? w _ hx287_2)).trans hx287_2;replace hx287_3:=(HB.out.cell (World.block_lt_of_cell? w _ hx287_3)).trans hx287_3;replace hx287_4:=(HB.out.cell (World.block_lt_of_cell? w _ hx287_4)).trans hx287_4;replace hx287_0:=(cell_far (p:=⟨gb286,0,none⟩) (by first|(rw [add_block];exact hn287_0)|(show (Addr.add _ _).block ≠ _;rw [add_block];exact hn287_0)|exact hn287_0) (.int .i64 ((rd_T80 l0 x5_15).f0))).trans hx287_0;replace hx287_1:=(cell_far (p:=⟨gb286,0,none⟩) (by first|(rw [add_block];exact hn287_0)|(show (Addr.add _ _).block ≠ _;rw [add_block];exact hn287_0)|exact hn287_0) (.int .i64 ((rd_T80 l0 x5_15).f0))).trans hx287_1;replace hx287_2:=(cell_far (p:=⟨gb286,0,none⟩) (by first|(rw [add_block];exact hn287_0)|(show (Addr.add _ _).block ≠ _;rw [add_block];exact hn287_0)|exact hn287_0) (.int .i64 ((rd_T80 l0 x5_15).f0))).trans hx287_2;replace hx287_3:=(cell_far (p:=⟨gb286,0,none⟩) (by first|(rw [add_block];exact hn287_0)|(show (Addr.add _ _).block ≠ _;rw [add_block];exact hn287_0)|exact hn287_0) (.int .i64 ((rd_T80 l0 x5_15).f0))).trans hx287_3;replace hx287_4:=(cell_far (p:=⟨gb286,0,none⟩) (by first|(rw [add_block];exact hn287_0)|(show (Addr.add _ _).block ≠ _;rw [add_block];exact hn287_0)|exact hn287_0) (.int .i64 ((rd_T80 l0 x5_15).f0))).trans hx287_4;replace hx287_0:=(cell_far (p:=⟨gb286,1,none⟩) (by first|(rw [add_block];exact hn287_1)|(show (Addr.add _ _).block ≠ _;rw [add_block];exact hn287_1)|exact hn287_1) (.int .i64 ((rd_T80 l0 x5_15).f1.f0))).trans hx287_0;replace hx287_1:=(cell_far (p:=⟨gb286,1,none⟩) (by first|(rw [add_block];exact hn287_1)|(show (Addr.add _ _).block ≠ _;rw [add_block];exact hn287_1)|exact hn287_1) (.int .i64 ((rd_T80 l0 x5_15).f1.f0))).trans hx287_1;replace hx287_2:=(cell_far (p:=⟨gb286,1,none⟩) (by first|(rw [add_block];exact hn287_1)|(show (Addr.add _ _).block ≠ _;rw [add_block];exact hn287_1)|exact hn287_1) (.int .i64 ((rd_T80 l0 x5_15).f1.f0))).trans hx287_2;replace hx287_3:=(cell_far (p:=⟨gb286,1,none⟩) (by first|(rw [add_block];exact hn287_1)|(show (Addr.add _ _).block ≠ _;rw [add_block];exact hn287_1)|exact hn287_1) (.int .i64 ((rd_T80 l0 x5_15).f1.f0))).trans hx287_3;replace hx287_4:=(cell_far (p:=⟨gb286,1,none⟩) (by first|(rw [add_block];exact hn287_1)|(show (Addr.add _ _).block ≠ _;rw [add_block];exact hn287_1)|exact hn287_1) (.int .i64 ((rd_T80 l0 x5_15).f1.f0))).trans hx287_4;replace hx287_0:=(cell_far (p:=⟨gb286,2,none⟩) (by first|(rw [add_block];exact hn287_2)|(show (Addr.add _ _).block ≠ _;rw [add_block];exact hn287_2)|exact hn287_2) (.int .i64 ((rd_T80 l0 x5_15).f1.f1))).trans hx287_0;replace hx287_1:=(cell_far (p:=⟨gb286,2,none⟩) (by first|(rw [add_block];exact hn287_2)|(show (Addr.add _ _).block ≠ _;rw [add_block];exact hn287_2)|exact hn287_2) (.int .i64 ((rd_T80 l0 x5_15).f1.f1))).trans hx287_1;replace hx287_2:=(cell_far (p:=⟨gb286,2,none⟩) (by first|(rw [add_block];exact hn287_2)|(show (Addr.add _ _).block ≠ _;rw [add_block];exact hn287_2)|exact hn287_2) (.int .i64 ((rd_T80 l0 x5_15).f1.f1))).trans hx287_2;replace hx287_3:=(cell_far (p:=⟨gb286,2,none⟩) (by first|(rw [add_block];exact hn287_2)|(show (Addr.add _ _).block ≠ _;rw [add_block];exact hn287_2)|exact hn287_2) (.int .i64 ((rd_T80 l0 x5_15).f1.f1))).trans hx287_3;replace hx287_4:=(cell_far (p:=⟨gb286,2,none⟩) (by first|(rw [add_block];exact hn287_2)|(show (Addr.add _ _).block ≠ _;rw [add_block];exact hn287_2)|exact hn287_2) (.int .i64 ((rd_T80 l0 x5_15).f1.f1))).trans hx287_4;replace hx287_0:=(cell_far (p:=⟨gb286,3,none⟩) (by first|(rw [add_block];exact hn287_3)|(show (Addr.add _ _).block ≠ _;rw [add_block];exact hn287_3)|exact hn287_3) (.int .i64 ((rd_T80 l0 x5_15).f1.f2))).trans hx287_0;replace hx287_1:=(cell_far (p:=⟨gb286,3,none⟩) (by first|(rw [add_block];exact hn287_3)|(show (Addr.add _ _).block ≠ _;rw [add_block];exact hn287_3)|exact hn287_3) (.int .i64 ((rd_T80 l0 x5_15).f1.f2))).trans hx287_1;replace hx287_2:=(cell_far (p:=⟨gb286,3,none⟩) (by first|(rw [add_block];exact hn287_3)|(show (Addr.add _ _).block ≠ _;rw [add_block];exact hn287_3)|exact hn287_3) (.int .i64 ((rd_T80 l0 x5_15).f1.f2))).trans hx287_2;replace hx287_3:=(cell_far (p:=⟨gb286,3,none⟩) (by first|(rw [add_block];exact hn287_3)|(show (Addr.add _ _).block ≠ _;rw [add_block];exact hn287_3)|exact hn287_3) (.int .i64 ((rd_T80 l0 x5_15).f1.f2))).trans hx287_3;replace hx287_4:=(cell_far (p:=⟨gb286,3,none⟩) (by first|(rw [add_block];exact hn287_3)|(show (Addr.add _ _).block ≠ _;rw [add_block];exact hn287_3)|exact hn287_3) (.int .i64 ((rd_T80 l0 x5_15).f1.f2))).trans hx287_4;replace hx287_0:=(cell_far (p:=⟨gb286,4,none⟩) (by first|(rw [add_block];exact hn287_4)|(show (Addr.add _ _).block ≠ _;rw [add_block];exact hn287_4)|exact hn287_4) (.int .i64 ((rd_T80 l0 x5_15).f1.f3))).trans hx287_0;replace hx287_1:=(cell_far (p:=⟨gb286,4,none⟩) (by first|(rw [add_block];exact hn287_4)|(show (Addr.add _ _).block ≠ _;rw [add_block];exact hn287_4)|exact hn287_4) (.int .i64 ((rd_T80 l0 x5_15).f1.f3))).trans hx287_1;replace hx287_2:=(cell_far (p:=⟨gb286,4,none⟩) (by first|(rw [add_block];exact hn287_4)|(show (Addr.add _ _).block ≠ _;rw [add_block];exact hn287_4)|exact hn287_4) (.int .i64 ((rd_T80 l0 x5_15).f1.f3))).trans hx287_2;replace hx287_3:=(cell_far (p:=⟨gb286,4,none⟩) (by first|(rw [add_block];exact hn287_4)|(show (Addr.add _ _).block ≠ _;rw [add_block];exact hn287_4)|exact hn287_4) (.int .i64 ((rd_T80 l0 x5_15).f1.f3))).trans hx287_3;replace hx287_4:=(cell_far (p:=⟨gb286,4,none⟩) (by first|(rw [add_block];exact hn287_4)|(show (Addr.add _ _).block ≠ _;rw [add_block];exact hn287_4)|exact hn287_4) (.int .i64 ((rd_T80 l0 x5_15).f1.f3))).trans hx287_4;clear hn287_0;clear hn287_1;clear hn287_2;clear hn287_3;clear hn287_4;replace p287:=eq_true p287;replace q287:=eq_true q287)|((with_reducible refine gate_dst (N:=7) rfl ?_);refine box_event ?hg (N:=7) ?hd (cs:=#[.int .i64 0,.int .i64 0,.int .i64 0,.int .i64 0,.int .i64 0]) (t:=80) ?hr ?_;(case hd => rfl);(case hg => rfl);(case hr => first|(go_simp;done)|(go_simp;rfl));intro gb288 hg w38 hbox hb;have BK288:=am (hbox);obtain ⟨h1_,GW288⟩:=sg (by repeat (first|(with_reducible first|exact HB.out|apply sa|apply sn|apply sd|refine sy ?_ (by assumption))|exact HB.out)) hb hg;replace HB:=h1_;clear h1_;have GE288:=GW288;have NB280_288:=am (by have:=blk_lt BK280.out;rw [hg];(try simp only [ks,kd,ke,ka]);omega : gb280 ≠ gb288);have NB288_280:=am (by have:=blk_lt BK280.out;rw [hg];(try simp only [ks,kd,ke,ka]);omega : gb288 ≠ gb280);replace BK280:=am (wz BK280.out (by (with_reducible repeat (first|refine bn ?_ _|refine bd ?_|refine ba ?_ _|refine bf ?_ NB280_286.out _));exact BK280.out) hb);have NB286_288:=am (by have:=blk_lt BK286.out;rw [hg];(try simp only [ks,kd,ke,ka]);omega : gb286 ≠ gb288);have NB288_286:=am (by have:=blk_lt BK286.out;rw [hg];(try simp only [ks,kd,ke,ka]);omega : gb288 ≠ gb286);replace BK286:=am (bw (g:=gb286) (o:=.cells #[.int .i64 ((rd_T80 l0 x5_15).f0),.int .i64 ((rd_T80 l0 x5_15).f1.f0),.int .i64 ((rd_T80 l0 x5_15).f1.f1),.int .i64 ((rd_T80 l0 x5_15).f1.f2),.int .i64 ((rd_T80 l0 x5_15).f1.f3)] 80 (0,0)) (bp (bp (bp (bp (bp BK286.out 0 _ rfl) 1 _ rfl) 2 _ rfl) 3 _ rfl) 4 _ rfl) hb);clear hb hbox hg;have hnb39:=NB288_280.out;have hnc39:=NB280_288.out;have hnb40:=NB288_286.out;have hnc40:=NB286_288.out;obtain ⟨hcz41_0,hcz41_1,hcz41_2,hcz41_3,hcz41_4⟩:=cq5 BK288.out;obtain ⟨hfz41_0,hfz41_1,hfz41_2,hfz41_3,hfz41_4⟩:=fq5 BK288.out))
                          have n0_ : Aside0 ((((((w38.setCell ⟨gb288,0,none⟩ (.int .i64 ((rd_T80 l0 (ji28)).f0))).setCell ⟨gb288,1,none⟩ (.int .i64 ((rd_T80 l0 (ji28)).f1.f0))).setCell ⟨gb288,2,none⟩ (.int .i64 ((rd_T80 l0 (ji28)).f1.f1))).setCell ⟨gb288,3,none⟩ (.int .i64 ((rd_T80 l0 (ji28)).f1.f2))).setCell ⟨gb288,4,none⟩ (.int .i64 ((rd_T80 l0 (ji28)).f1.f3))).heap[gb280]? = some (.cells #[.int .i64 0,.int .i64 0,.int .i64 0,.int .i64 0] 23 (0,0))):=⟨by (with_reducible repeat (first|refine bn ?_ _|refine bd ?_|refine ba ?_ _|refine bf ?_ NB280_288.out _));exact BK280.out⟩;have n1_ : Aside0 ((((((w38.setCell ⟨gb288,0,none⟩ (.int .i64 ((rd_T80 l0 (ji28)).f0))).setCell ⟨gb288,1,none⟩ (.int .i64 ((rd_T80 l0 (ji28)).f1.f0))).setCell ⟨gb288,2,none⟩ (.int .i64 ((rd_T80 l0 (ji28)).f1.f1))).setCell ⟨gb288,3,none⟩ (.int .i64 ((rd_T80 l0 (ji28)).f1.f2))).setCell ⟨gb288,4,none⟩ (.int .i64 ((rd_T80 l0 (ji28)).f1.f3))).heap[gb286]? = some (.cells #[.int .i64 ((rd_T80 l0 x5_15).f0),.int .i64 ((rd_T80 l0 x5_15).f1.f0),.int .i64 ((rd_T80 l0 x5_15).f1.f1),.int .i64 ((rd_T80 l0 x5_15).f1.f2),.int .i64 ((rd_T80 l0 x5_15).f1.f3)] 80 (0,0))):=⟨by (with_reducible repeat (first|refine bn ?_ _|refine bd ?_|refine ba ?_ _|refine bf ?_ NB286_288.out _));exact BK286.out⟩;have n2_ : Aside0 ((((((w38.setCell ⟨gb288,0,none⟩ (.int .i64 ((rd_T80 l0 (ji28)).f0))).setCell ⟨gb288,1,none⟩ (.int .i64 ((rd_T80 l0 (ji28)).f1.f0))).setCell ⟨gb288,2,none⟩ (.int .i64 ((rd_T80 l0 (ji28)).f1.f1))).setCell ⟨gb288,3,none⟩ (.int .i64 ((rd_T80 l0 (ji28)).f1.f2))).setCell ⟨gb288,4,none⟩ (.int .i64 ((rd_T80 l0 (ji28)).f1.f3))).heap[gb288]? = some (.cells #[.int .i64 ((rd_T80 l0 (ji28)).f0),.int .i64 ((rd_T80 l0 (ji28)).f1.f0),.int .i64 ((rd_T80 l0 (ji28)).f1.f1),.int .i64 ((rd_T80 l0 (ji28)).f1.f2),.int .i64 ((rd_T80 l0 (ji28)).f1.f3)] 80 (0,0))):=⟨(bp (bp (bp (bp (bp BK288.out 0 _ rfl) 1 _ rfl) 2 _ rfl) 3 _ rfl) 4 _ rfl)⟩;have n3_ : Aside0 (Below w.heap.size w (((((w38.setCell ⟨gb288,0,none⟩ (.int .i64 ((rd_T80 l0 (ji28)).f0))).setCell ⟨gb288,1,none⟩ (.int .i64 ((rd_T80 l0 (ji28)).f1.f0))).setCell ⟨gb288,2,none⟩ (.int .i64 ((rd_T80 l0 (ji28)).f1.f1))).setCell ⟨gb288,3,none⟩ (.int .i64 ((rd_T80 l0 (ji28)).f1.f2))).setCell ⟨gb288,4,none⟩ (.int .i64 ((rd_T80 l0 (ji28)).f1.f3)))):=⟨by repeat (first|(with_reducible first|exact HB.out|apply sa|apply sn|apply sd|refine sy ?_ (by assumption))|exact HB.out)⟩;(try clear BK280);(try clear BK286);(try clear BK288);(try clear HB);generalize (((((w38.setCell ⟨gb288,0,none⟩ (.int .i64 ((rd_T80 l0 (ji28)).f0))).setCell ⟨gb288,1,none⟩ (.int .i64 ((rd_T80 l0 (ji28)).f1.f0))).setCell ⟨gb288,2,none⟩ (.int .i64 ((rd_T80 l0 (ji28)).f1.f1))).setCell ⟨gb288,3,none⟩ (.int .i64 ((rd_T80 l0 (ji28)).f1.f2))).setCell ⟨gb288,4,none⟩ (.int .i64 ((rd_T80 l0 (ji28)).f1.f3))) = w42 at n0_ n1_ n2_ n3_ ⊢;have BK280:=n0_;have BK286:=n1_;have BK288:=n2_;have HB:=n3_;clear n0_ n1_ n2_ n3_;replace BK280:=am (bd BK280.out);replace BK286:=am (bd BK286.out);replace BK288:=am (bd BK288.out);replace HB:=am (sd HB.out);refine start_ (n:=11) (S:=fun w' => w'.cell? ⟨gb286,0,none⟩ = some (.int .i64 ((rd_T80 l0 x5_15).f0)) ∧ w'.cell? ⟨gb286,1,none⟩ = some (.int .i64 ((rd_T80 l0 x5_15).f1.f0)) ∧ w'.cell? ⟨gb286,2,none⟩ = some (.int .i64 ((rd_T80 l0 x5_15).f1.f1)) ∧ w'.cell? ⟨gb286,3,none⟩ = some (.int .i64 ((rd_T80 l0 x5_15).f1.f2)) ∧ w'.cell? ⟨gb286,4,none⟩ = some (.int .i64 ((rd_T80 l0 x5_15).f1.f3)) ∧ w'.cell? ⟨gb288,0,none⟩ = some (.int .i64 ((rd_T80 l0 (ji28)).f0)) ∧ w'.cell? ⟨gb288,1,none⟩ = some (.int .i64 ((rd_T80 l0 (ji28)).f1.f0)) ∧ w'.cell? ⟨gb288,2,none⟩ = some (.int .i64 ((rd_T80 l0 (ji28)).f1.f1)) ∧ w'.cell? ⟨gb288,3,none⟩ = some (.int .i64 ((rd_T80 l0 (ji28)).f1.f2)) ∧ w'.cell? ⟨gb288,4,none⟩ = some (.int .i64 ((rd_T80 l0 (ji28)).f1.f3))) (ds:=[]) #[false,false,false,false,false,false,false,false,false,false,false] (by kernel_rfl) rfl rfl ⟨(bc BK286.out 0).trans rfl,(bc BK286.out 1).trans rfl,(bc BK286.out 2).trans rfl,(bc BK286.out 3).trans rfl,(bc BK286.out 4).trans rfl,(bc BK288.out 0).trans rfl,(bc BK288.out 1).trans rfl,(bc BK288.out 2).trans rfl,(bc BK288.out 3).trans rfl,(bc BK288.out 4).trans rfl⟩ (fun hHeld => ?_);refine with_tabW ramp_Color.tab12 ramp_Color.bits12 (fun HT_ HW_ => ?_);generalize w42.drew = w43 at BK280 BK286 BK288 HB hHeld ⊢;refine pure_ (i:=0) (N:=some 65) (v:=?_) (a':=?_) #[true,false,false,false,false,false,false,false,false,false,false] rfl rfl (any_of HT_.out (by kernel_rfl)) (fun _ _ _ h => h) (Or.inl ⟨by rfl,?_⟩) ?_ ?_
                          rotate_left
                          · intro w'
                            go_simp
                            with_reducible rfl
                          rotate_left
                          · simp only [Act.put,q1,q2,q3,i64_w,i32_w]
                            rfl
                          refine pure_ (i:=1) (N:=some 66) (v:=?_) (a':=?_) #[true,true,false,false,false,false,false,false,false,false,false] rfl rfl (any_of HT_.out (by kernel_rfl)) (fun _ _ _ h => h) (Or.inl ⟨by rfl,?_⟩) ?_ ?_
                          rotate_left
                          · intro w'
                            go_simp
                            with_reducible rfl
                          rotate_left
                          · simp only [Act.put,q1,q2,q3,i64_w,i32_w]
                            rfl
                          refine pure_ (i:=4) (N:=some 69) (v:=?_) (a':=?_) #[true,true,false,false,true,false,false,false,false,false,false] rfl rfl (any_of HT_.out (by kernel_rfl)) (fun _ _ _ h => h) (Or.inl ⟨by rfl,?_⟩) ?_ ?_
                          rotate_left
                          · intro w'
                            go_simp
                            with_reducible rfl
                          rotate_left
                          · simp only [Act.put,q1,q2,q3,i64_w,i32_w]
                            rfl
                          refine pure_ (i:=6) (N:=some 71) (v:=?_) (a':=?_) #[true,true,false,false,true,false,true,false,false,false,false] rfl rfl (any_of HT_.out (by kernel_rfl)) (fun _ _ _ h => h) (Or.inl ⟨by rfl,?_⟩) ?_ ?_
                          rotate_left
                          · intro w'
                            go_simp
                            with_reducible rfl
                          rotate_left
                          · simp only [Act.put,q1,q2,q3,i64_w,i32_w]
                            rfl
                          refine take_ (i:=2) (N:=some 67) (v:=?_) (a':=?_) #[true,true,true,false,true,false,true,false,false,false,false] rfl rfl (take_ofW HT_.out HW_.out (by kernel_rfl)) (fun _ _ _ h => h) (Or.inl ⟨by rfl,?_⟩) hHeld ?_ ?_
                          rotate_left
                          · rintro w' ⟨s0,s1,s2,s3,s4,s5,s6,s7,s8,s9⟩
                            go_simp
                            with_reducible rfl
                          rotate_left
                          · simp only [Act.put,q1,q2,q3,i64_w,i32_w]
                            rfl
                          refine pure_ (i:=3) (N:=some 68) (v:=?_) (a':=?_) #[true,true,true,true,true,false,true,false,false,false,false] rfl rfl (any_of HT_.out (by kernel_rfl)) (fun _ _ _ h => h) (Or.inl ⟨by rfl,?_⟩) ?_ ?_
                          rotate_left
                          · intro w'
                            go_simp
                            with_reducible rfl
                          rotate_left
                          · simp only [Act.put,q1,q2,q3,i64_w,i32_w]
                            rfl
                          refine pure_ (i:=9) (N:=some 8) (v:=?_) (a':=?_) #[true,true,true,true,true,false,true,false,false,true,false] rfl rfl (any_of HT_.out (by kernel_rfl)) (fun _ _ _ h => h) (Or.inl ⟨by rfl,?_⟩) ?_ ?_
                          rotate_left
                          · intro w'
                            go_simp
                            with_reducible rfl
                          rotate_left
                          · simp only [Act.put,q1,q2,q3,i64_w,i32_w]
                            rfl
                          refine take_ (i:=5) (N:=some 70) (v:=?_) (a':=?_) #[true,true,true,true,true,true,true,false,false,true,false] rfl rfl (take_ofW HT_.out HW_.out (by kernel_rfl)) (fun _ _ _ h => h) (Or.inl ⟨by rfl,?_⟩) hHeld ?_ ?_
                          rotate_left
                          · rintro w' ⟨s0,s1,s2,s3,s4,s5,s6,s7,s8,s9⟩
                            go_simp
                            with_reducible rfl
                          rotate_left
                          · simp only [Act.put,q1,q2,q3,i64_w,i32_w]
                            rfl
                          refine take_ (i:=7) (N:=some 72) (v:=?_) (a':=?_) #[true,true,true,true,true,true,true,true,false,true,false] rfl rfl (take_ofW HT_.out HW_.out (by kernel_rfl)) (fun _ _ _ h => h) (Or.inl ⟨by rfl,?_⟩) hHeld ?_ ?_
                          rotate_left
                          · rintro w' ⟨s0,s1,s2,s3,s4,s5,s6,s7,s8,s9⟩
                            go_simp
                            with_reducible rfl
                          rotate_left
                          · simp only [Act.put,q1,q2,q3,i64_w,i32_w]
                            rfl
                          refine pure_ (i:=8) (N:=some 73) (v:=?_) (a':=?_) #[true,true,true,true,true,true,true,true,true,true,false] rfl rfl (any_of HT_.out (by kernel_rfl)) (fun _ _ _ h => h) (Or.inl ⟨by rfl,?_⟩) ?_ ?_
                          rotate_left
                          · intro w'
                            go_simp
                            with_reducible rfl
                          rotate_left
                          · simp only [Act.put,q1,q2,q3,i64_w,i32_w]
                            rfl
                          refine pure_ (i:=10) (N:=some 9) (v:=?_) (a':=?_) #[true,true,true,true,true,true,true,true,true,true,true] rfl rfl (any_of HT_.out (by kernel_rfl)) (fun _ _ _ h => h) (Or.inl ⟨by rfl,?_⟩) ?_ ?_
                          rotate_left
                          · intro w'
                            go_simp
                            with_reducible rfl
                          rotate_left
                          · simp only [Act.put,q1,q2,q3,i64_w,i32_w]
                            rfl
                          refine done_ (done_of HT_.out (by kernel_rfl)) ?_
                          try go_wp2
                          replace BK280:=am (bd BK280.out);replace BK286:=am (bd BK286.out);replace BK288:=am (bd BK288.out);replace HB:=am (sd HB.out);refine start_ (n:=38) (S:=fun w' => w'.cell? ⟨gb286,0,none⟩ = some (.int .i64 ((rd_T80 l0 x5_15).f0)) ∧ w'.cell? ⟨gb286,1,none⟩ = some (.int .i64 ((rd_T80 l0 x5_15).f1.f0)) ∧ w'.cell? ⟨gb286,2,none⟩ = some (.int .i64 ((rd_T80 l0 x5_15).f1.f1)) ∧ w'.cell? ⟨gb286,3,none⟩ = some (.int .i64 ((rd_T80 l0 x5_15).f1.f2)) ∧ w'.cell? ⟨gb286,4,none⟩ = some (.int .i64 ((rd_T80 l0 x5_15).f1.f3)) ∧ w'.cell? ⟨gb288,0,none⟩ = some (.int .i64 ((rd_T80 l0 (ji28)).f0)) ∧ w'.cell? ⟨gb288,1,none⟩ = some (.int .i64 ((rd_T80 l0 (ji28)).f1.f0)) ∧ w'.cell? ⟨gb288,2,none⟩ = some (.int .i64 ((rd_T80 l0 (ji28)).f1.f1)) ∧ w'.cell? ⟨gb288,3,none⟩ = some (.int .i64 ((rd_T80 l0 (ji28)).f1.f2)) ∧ w'.cell? ⟨gb288,4,none⟩ = some (.int .i64 ((rd_T80 l0 (ji28)).f1.f3))) (ds:=[]) #[false,false,false,false,false,false,false,false,false,false,false,false,false,false,false,false,false,false,false,false,false,false,false,false,false,false,false,false,false,false,false,false,false,false,false,false,false,false] (by kernel_rfl) rfl rfl ⟨(bc BK286.out 0).trans rfl,(bc BK286.out 1).trans rfl,(bc BK286.out 2).trans rfl,(bc BK286.out 3).trans rfl,(bc BK286.out 4).trans rfl,(bc BK288.out 0).trans rfl,(bc BK288.out 1).trans rfl,(bc BK288.out 2).trans rfl,(bc BK288.out 3).trans rfl,(bc BK288.out 4).trans rfl⟩ (fun hHeld => ?_);refine with_tabW ramp_Color.tab13 ramp_Color.bits13 (fun HT_ HW_ => ?_);generalize w43.drew = w44 at BK280 BK286 BK288 HB hHeld ⊢;refine pure_ (i:=0) (N:=some 74) (v:=?_) (a':=?_) #[true,false,false,false,false,false,false,false,false,false,false,false,false,false,false,false,false,false,false,false,false,false,false,false,false,false,false,false,false,false,false,false,false,false,false,false,false,false] rfl rfl (any_of HT_.out (by kernel_rfl)) (fun _ _ _ h => h) (Or.inl ⟨by rfl,?_⟩) ?_ ?_
                          rotate_left
                          · intro w'
                            go_simp
                            with_reducible rfl
                          rotate_left
                          · simp only [Act.put,q1,q2,q3,i64_w,i32_w]
                            rfl
                          refine pure_ (i:=1) (N:=some 75) (v:=?_) (a':=?_) #[true,true,false,false,false,false,false,false,false,false,false,false,false,false,false,false,false,false,false,false,false,false,false,false,false,false,false,false,false,false,false,false,false,false,false,false,false,false] rfl rfl (any_of HT_.out (by kernel_rfl)) (fun _ _ _ h => h) (Or.inl ⟨by rfl,?_⟩) ?_ ?_
                          rotate_left
                          · intro w'
                            go_simp
                            with_reducible rfl
                          rotate_left
                          · simp only [Act.put,q1,q2,q3,i64_w,i32_w]
                            rfl
                          refine pure_ (i:=3) (N:=some 77) (v:=?_) (a':=?_) #[true,true,false,true,false,false,false,false,false,false,false,false,false,false,false,false,false,false,false,false,false,false,false,false,false,false,false,false,false,false,false,false,false,false,false,false,false,false] rfl rfl (any_of HT_.out (by kernel_rfl)) (fun _ _ _ h => h) (Or.inl ⟨by rfl,?_⟩) ?_ ?_
                          rotate_left
                          · intro w'
                            go_simp
                            with_reducible rfl
                          rotate_left
                          · simp only [Act.put,q1,q2,q3,i64_w,i32_w]
                            rfl
                          refine pure_ (i:=4) (N:=some 78) (v:=?_) (a':=?_) #[true,true,false,true,true,false,false,false,false,false,false,false,false,false,false,false,false,false,false,false,false,false,false,false,false,false,false,false,false,false,false,false,false,false,false,false,false,false] rfl rfl (any_of HT_.out (by kernel_rfl)) (fun _ _ _ h => h) (Or.inl ⟨by rfl,?_⟩) ?_ ?_
                          rotate_left
                          · intro w'
                            go_simp
                            with_reducible rfl
                          rotate_left
                          · simp only [Act.put,q1,q2,q3,i64_w,i32_w]
                            rfl
                          refine pure_ (i:=6) (N:=some 80) (v:=?_) (a':=?_) #[true,true,false,true,true,false,true,false,false,false,false,false,false,false,false,false,false,false,false,false,false,false,false,false,false,false,false,false,false,false,false,false,false,false,false,false,false,false] rfl rfl (any_of HT_.out (by kernel_rfl)) (fun _ _ _ h => h) (Or.inl ⟨by rfl,?_⟩) ?_ ?_
                          rotate_left
                          · intro w'
                            go_simp
                            with_reducible rfl
                          rotate_left
                          · simp only [Act.put,q1,q2,q3,i64_w,i32_w]
                            rfl
                          refine pure_ (i:=7) (N:=some 81) (v:=?_) (a':=?_) #[true,true,false,true,true,false,true,true,false,false,false,false,false,false,false,false,false,false,false,false,false,false,false,false,false,false,false,false,false,false,false,false,false,false,false,false,false,false] rfl rfl (any_of HT_.out (by kernel_rfl)) (fun _ _ _ h => h) (Or.inl ⟨by rfl,?_⟩) ?_ ?_
                          rotate_left
                          · intro w'
                            go_simp
                            with_reducible rfl
                          rotate_left
                          · simp only [Act.put,q1,q2,q3,i64_w,i32_w]
                            rfl
                          refine pure_ (i:=9) (N:=some 83) (v:=?_) (a':=?_) #[true,true,false,true,true,false,true,true,false,true,false,false,false,false,false,false,false,false,false,false,false,false,false,false,false,false,false,false,false,false,false,false,false,false,false,false,false,false] rfl rfl (any_of HT_.out (by kernel_rfl)) (fun _ _ _ h => h) (Or.inl ⟨by rfl,?_⟩) ?_ ?_
                          rotate_left
                          · intro w'
                            go_simp
                            with_reducible rfl
                          rotate_left
                          · simp only [Act.put,q1,q2,q3,i64_w,i32_w]
                            rfl
                          refine pure_ (i:=10) (N:=some 84) (v:=?_) (a':=?_) #[true,true,false,true,true,false,true,true,false,true,true,false,false,false,false,false,false,false,false,false,false,false,false,false,false,false,false,false,false,false,false,false,false,false,false,false,false,false] rfl rfl (any_of HT_.out (by kernel_rfl)) (fun _ _ _ h => h) (Or.inl ⟨by rfl,?_⟩) ?_ ?_
                          rotate_left
                          · intro w'
                            go_simp
                            with_reducible rfl
                          rotate_left
                          · simp only [Act.put,q1,q2,q3,i64_w,i32_w]
                            rfl
                          refine pure_ (i:=12) (N:=some 86) (v:=?_) (a':=?_) #[true,true,false,true,true,false,true,true,false,true,true,false,true,false,false,false,false,false,false,false,false,false,false,false,false,false,false,false,false,false,false,false,false,false,false,false,false,false] rfl rfl (any_of HT_.out (by kernel_rfl)) (fun _ _ _ h => h) (Or.inl ⟨by rfl,?_⟩) ?_ ?_
                          rotate_left
                          · intro w'
                            go_simp
                            with_reducible rfl
                          rotate_left
                          · simp only [Act.put,q1,q2,q3,i64_w,i32_w]
                            rfl
                          refine pure_ (i:=13) (N:=some 87) (v:=?_) (a':=?_) #[true,true,false,true,true,false,true,true,false,true,true,false,true,true,false,false,false,false,false,false,false,false,false,false,false,false,false,false,false,false,false,false,false,false,false,false,false,false] rfl rfl (any_of HT_.out (by kernel_rfl)) (fun _ _ _ h => h) (Or.inl ⟨by rfl,?_⟩) ?_ ?_
                          rotate_left
                          · intro w'
                            go_simp
                            with_reducible rfl
                          rotate_left
                          · simp only [Act.put,q1,q2,q3,i64_w,i32_w]
                            rfl
                          refine pure_ (i:=15) (N:=some 89) (v:=?_) (a':=?_) #[true,true,false,true,true,false,true,true,false,true,true,false,true,true,false,true,false,false,false,false,false,false,false,false,false,false,false,false,false,false,false,false,false,false,false,false,false,false] rfl rfl (any_of HT_.out (by kernel_rfl)) (fun _ _ _ h => h) (Or.inl ⟨by rfl,?_⟩) ?_ ?_
                          rotate_left
                          · intro w'
                            go_simp
                            with_reducible rfl
                          rotate_left
                          · simp only [Act.put,q1,q2,q3,i64_w,i32_w]
                            rfl
                          refine pure_ (i:=16) (N:=some 90) (v:=?_) (a':=?_) #[true,true,false,true,true,false,true,true,false,true,true,false,true,true,false,true,true,false,false,false,false,false,false,false,false,false,false,false,false,false,false,false,false,false,false,false,false,false] rfl rfl (any_of HT_.out (by kernel_rfl)) (fun _ _ _ h => h) (Or.inl ⟨by rfl,?_⟩) ?_ ?_
                          rotate_left
                          · intro w'
                            go_simp
                            with_reducible rfl
                          rotate_left
                          · simp only [Act.put,q1,q2,q3,i64_w,i32_w]
                            rfl
                          refine pure_ (i:=18) (N:=some 92) (v:=?_) (a':=?_) #[true,true,false,true,true,false,true,true,false,true,true,false,true,true,false,true,true,false,true,false,false,false,false,false,false,false,false,false,false,false,false,false,false,false,false,false,false,false] rfl rfl (any_of HT_.out (by kernel_rfl)) (fun _ _ _ h => h) (Or.inl ⟨by rfl,?_⟩) ?_ ?_
                          rotate_left
                          · intro w'
                            go_simp
                            with_reducible rfl
                          rotate_left
                          · simp only [Act.put,q1,q2,q3,i64_w,i32_w]
                            rfl
                          refine pure_ (i:=19) (N:=some 93) (v:=?_) (a':=?_) #[true,true,false,true,true,false,true,true,false,true,true,false,true,true,false,true,true,false,true,true,false,false,false,false,false,false,false,false,false,false,false,false,false,false,false,false,false,false] rfl rfl (any_of HT_.out (by kernel_rfl)) (fun _ _ _ h => h) (Or.inl ⟨by rfl,?_⟩) ?_ ?_
                          rotate_left
                          · intro w'
                            go_simp
                            with_reducible rfl
                          rotate_left
                          · simp only [Act.put,q1,q2,q3,i64_w,i32_w]
                            rfl
                          refine pure_ (i:=21) (N:=some 95) (v:=?_) (a':=?_) #[true,true,false,true,true,false,true,true,false,true,true,false,true,true,false,true,true,false,true,true,false,true,false,false,false,false,false,false,false,false,false,false,false,false,false,false,false,false] rfl rfl (any_of HT_.out (by kernel_rfl)) (fun _ _ _ h => h) (Or.inl ⟨by rfl,?_⟩) ?_ ?_
                          rotate_left
                          · intro w'
                            go_simp
                            with_reducible rfl
                          rotate_left
                          · simp only [Act.put,q1,q2,q3,i64_w,i32_w]
                            rfl
                          refine pure_ (i:=22) (N:=some 96) (v:=?_) (a':=?_) #[true,true,false,true,true,false,true,true,false,true,true,false,true,true,false,true,true,false,true,true,false,true,true,false,false,false,false,false,false,false,false,false,false,false,false,false,false,false] rfl rfl (any_of HT_.out (by kernel_rfl)) (fun _ _ _ h => h) (Or.inl ⟨by rfl,?_⟩) ?_ ?_
                          rotate_left
                          · intro w'
                            go_simp
                            with_reducible rfl
                          rotate_left
                          · simp only [Act.put,q1,q2,q3,i64_w,i32_w]
                            rfl
                          refine pure_ (i:=24) (N:=some 98) (v:=?_) (a':=?_) #[true,true,false,true,true,false,true,true,false,true,true,false,true,true,false,true,true,false,true,true,false,true,true,false,true,false,false,false,false,false,false,false,false,false,false,false,false,false] rfl rfl (any_of HT_.out (by kernel_rfl)) (fun _ _ _ h => h) (Or.inl ⟨by rfl,?_⟩) ?_ ?_
                          rotate_left
                          · intro w'
                            go_simp
                            with_reducible rfl
                          rotate_left
                          · simp only [Act.put,q1,q2,q3,i64_w,i32_w]
                            rfl
                          refine pure_ (i:=25) (N:=some 99) (v:=?_) (a':=?_) #[true,true,false,true,true,false,true,true,false,true,true,false,true,true,false,true,true,false,true,true,false,true,true,false,true,true,false,false,false,false,false,false,false,false,false,false,false,false] rfl rfl (any_of HT_.out (by kernel_rfl)) (fun _ _ _ h => h) (Or.inl ⟨by rfl,?_⟩) ?_ ?_
                          rotate_left
                          · intro w'
                            go_simp
                            with_reducible rfl
                          rotate_left
                          · simp only [Act.put,q1,q2,q3,i64_w,i32_w]
                            rfl
                          refine pure_ (i:=27) (N:=some 101) (v:=?_) (a':=?_) #[true,true,false,true,true,false,true,true,false,true,true,false,true,true,false,true,true,false,true,true,false,true,true,false,true,true,false,true,false,false,false,false,false,false,false,false,false,false] rfl rfl (any_of HT_.out (by kernel_rfl)) (fun _ _ _ h => h) (Or.inl ⟨by rfl,?_⟩) ?_ ?_
                          rotate_left
                          · intro w'
                            go_simp
                            with_reducible rfl
                          rotate_left
                          · simp only [Act.put,q1,q2,q3,i64_w,i32_w]
                            rfl
                          refine pure_ (i:=28) (N:=some 102) (v:=?_) (a':=?_) #[true,true,false,true,true,false,true,true,false,true,true,false,true,true,false,true,true,false,true,true,false,true,true,false,true,true,false,true,true,false,false,false,false,false,false,false,false,false] rfl rfl (any_of HT_.out (by kernel_rfl)) (fun _ _ _ h => h) (Or.inl ⟨by rfl,?_⟩) ?_ ?_
                          rotate_left
                          · intro w'
                            go_simp
                            with_reducible rfl
                          rotate_left
                          · simp only [Act.put,q1,q2,q3,i64_w,i32_w]
                            rfl
                          refine pure_ (i:=30) (N:=some 104) (v:=?_) (a':=?_) #[true,true,false,true,true,false,true,true,false,true,true,false,true,true,false,true,true,false,true,true,false,true,true,false,true,true,false,true,true,false,true,false,false,false,false,false,false,false] rfl rfl (any_of HT_.out (by kernel_rfl)) (fun _ _ _ h => h) (Or.inl ⟨by rfl,?_⟩) ?_ ?_
                          rotate_left
                          · intro w'
                            go_simp
                            with_reducible rfl
                          rotate_left
                          · simp only [Act.put,q1,q2,q3,i64_w,i32_w]
                            rfl
                          refine pure_ (i:=31) (N:=some 105) (v:=?_) (a':=?_) #[true,true,false,true,true,false,true,true,false,true,true,false,true,true,false,true,true,false,true,true,false,true,true,false,true,true,false,true,true,false,true,true,false,false,false,false,false,false] rfl rfl (any_of HT_.out (by kernel_rfl)) (fun _ _ _ h => h) (Or.inl ⟨by rfl,?_⟩) ?_ ?_
                          rotate_left
                          · intro w'
                            go_simp
                            with_reducible rfl
                          rotate_left
                          · simp only [Act.put,q1,q2,q3,i64_w,i32_w]
                            rfl
                          refine pure_ (i:=33) (N:=some 107) (v:=?_) (a':=?_) #[true,true,false,true,true,false,true,true,false,true,true,false,true,true,false,true,true,false,true,true,false,true,true,false,true,true,false,true,true,false,true,true,false,true,false,false,false,false] rfl rfl (any_of HT_.out (by kernel_rfl)) (fun _ _ _ h => h) (Or.inl ⟨by rfl,?_⟩) ?_ ?_
                          rotate_left
                          · intro w'
                            go_simp
                            with_reducible rfl
                          rotate_left
                          · simp only [Act.put,q1,q2,q3,i64_w,i32_w]
                            rfl
                          refine pure_ (i:=34) (N:=some 108) (v:=?_) (a':=?_) #[true,true,false,true,true,false,true,true,false,true,true,false,true,true,false,true,true,false,true,true,false,true,true,false,true,true,false,true,true,false,true,true,false,true,true,false,false,false] rfl rfl (any_of HT_.out (by kernel_rfl)) (fun _ _ _ h => h) (Or.inl ⟨by rfl,?_⟩) ?_ ?_
                          rotate_left
                          · intro w'
                            go_simp
                            with_reducible rfl
                          rotate_left
                          · simp only [Act.put,q1,q2,q3,i64_w,i32_w]
                            rfl
                          refine take_ (i:=2) (N:=some 76) (v:=?_) (a':=?_) #[true,true,true,true,true,false,true,true,false,true,true,false,true,true,false,true,true,false,true,true,false,true,true,false,true,true,false,true,true,false,true,true,false,true,true,false,false,false] rfl rfl (take_ofW HT_.out HW_.out (by kernel_rfl)) (fun _ _ _ h => h) (Or.inl ⟨by rfl,?_⟩) hHeld ?_ ?_
                          rotate_left
                          · rintro w' ⟨s0,s1,s2,s3,s4,s5,s6,s7,s8,s9⟩
                            go_simp
                            with_reducible rfl
                          rotate_left
                          · simp only [Act.put,q1,q2,q3,i64_w,i32_w]
                            rfl
                          refine take_ (i:=5) (N:=some 79) (v:=?_) (a':=?_) #[true,true,true,true,true,true,true,true,false,true,true,false,true,true,false,true,true,false,true,true,false,true,true,false,true,true,false,true,true,false,true,true,false,true,true,false,false,false] rfl rfl (take_ofW HT_.out HW_.out (by kernel_rfl)) (fun _ _ _ h => h) (Or.inl ⟨by rfl,?_⟩) hHeld ?_ ?_
                          rotate_left
                          · rintro w' ⟨s0,s1,s2,s3,s4,s5,s6,s7,s8,s9⟩
                            go_simp
                            with_reducible rfl
                          rotate_left
                          · simp only [Act.put,q1,q2,q3,i64_w,i32_w]
                            rfl
                          refine take_ (i:=11) (N:=some 85) (v:=?_) (a':=?_) #[true,true,true,true,true,true,true,true,false,true,true,true,true,true,false,true,true,false,true,true,false,true,true,false,true,true,false,true,true,false,true,true,false,true,true,false,false,false] rfl rfl (take_ofW HT_.out HW_.out (by kernel_rfl)) (fun _ _ _ h => h) (Or.inl ⟨by rfl,?_⟩) hHeld ?_ ?_
                          rotate_left
                          · rintro w' ⟨s0,s1,s2,s3,s4,s5,s6,s7,s8,s9⟩
                            go_simp
                            with_reducible rfl
                          rotate_left
                          · simp only [Act.put,q1,q2,q3,i64_w,i32_w]
                            rfl
                          refine take_ (i:=14) (N:=some 88) (v:=?_) (a':=?_) #[true,true,true,true,true,true,true,true,false,true,true,true,true,true,true,true,true,false,true,true,false,true,true,false,true,true,false,true,true,false,true,true,false,true,true,false,false,false] rfl rfl (take_ofW HT_.out HW_.out (by kernel_rfl)) (fun _ _ _ h => h) (Or.inl ⟨by rfl,?_⟩) hHeld ?_ ?_
                          rotate_left
                          · rintro w' ⟨s0,s1,s2,s3,s4,s5,s6,s7,s8,s9⟩
                            go_simp
                            with_reducible rfl
                          rotate_left
                          · simp only [Act.put,q1,q2,q3,i64_w,i32_w]
                            rfl
                          refine take_ (i:=20) (N:=some 94) (v:=?_) (a':=?_) #[true,true,true,true,true,true,true,true,false,true,true,true,true,true,true,true,true,false,true,true,true,true,true,false,true,true,false,true,true,false,true,true,false,true,true,false,false,false] rfl rfl (take_ofW HT_.out HW_.out (by kernel_rfl)) (fun _ _ _ h => h) (Or.inl ⟨by rfl,?_⟩) hHeld ?_ ?_
                          rotate_left
                          · rintro w' ⟨s0,s1,s2,s3,s4,s5,s6,s7,s8,s9⟩
                            go_simp
                            with_reducible rfl
                          rotate_left
                          · simp only [Act.put,q1,q2,q3,i64_w,i32_w]
                            rfl
                          refine take_ (i:=23) (N:=some 97) (v:=?_) (a':=?_) #[true,true,true,true,true,true,true,true,false,true,true,true,true,true,true,true,true,false,true,true,true,true,true,true,true,true,false,true,true,false,true,true,false,true,true,false,false,false] rfl rfl (take_ofW HT_.out HW_.out (by kernel_rfl)) (fun _ _ _ h => h) (Or.inl ⟨by rfl,?_⟩) hHeld ?_ ?_
                          rotate_left
                          · rintro w' ⟨s0,s1,s2,s3,s4,s5,s6,s7,s8,s9⟩
                            go_simp
                            with_reducible rfl
                          rotate_left
                          · simp only [Act.put,q1,q2,q3,i64_w,i32_w]
                            rfl
                          refine take_ (i:=29) (N:=some 103) (v:=?_) (a':=?_) #[true,true,true,true,true,true,true,true,false,true,true,true,true,true,true,true,true,false,true,true,true,true,true,true,true,true,false,true,true,true,true,true,false,true,true,false,false,false] rfl rfl (take_ofW HT_.out HW_.out (by kernel_rfl)) (fun _ _ _ h => h) (Or.inl ⟨by rfl,?_⟩) hHeld ?_ ?_
                          rotate_left
                          · rintro w' ⟨s0,s1,s2,s3,s4,s5,s6,s7,s8,s9⟩
                            go_simp
                            with_reducible rfl
                          rotate_left
                          · simp only [Act.put,q1,q2,q3,i64_w,i32_w]
                            rfl
                          refine take_ (i:=32) (N:=some 106) (v:=?_) (a':=?_) #[true,true,true,true,true,true,true,true,false,true,true,true,true,true,true,true,true,false,true,true,true,true,true,true,true,true,false,true,true,true,true,true,true,true,true,false,false,false] rfl rfl (take_ofW HT_.out HW_.out (by kernel_rfl)) (fun _ _ _ h => h) (Or.inl ⟨by rfl,?_⟩) hHeld ?_ ?_
                          rotate_left
                          · rintro w' ⟨s0,s1,s2,s3,s4,s5,s6,s7,s8,s9⟩
                            go_simp
                            with_reducible rfl
                          rotate_left
                          · simp only [Act.put,q1,q2,q3,i64_w,i32_w]
                            rfl
                          refine one_ (i:=8) (N:=some 82) #[true,true,true,true,true,true,true,true,true,true,true,true,true,true,true,true,true,false,true,true,true,true,true,true,true,true,false,true,true,true,true,true,true,true,true,false,false,false] rfl rfl (one_of HT_.out (by kernel_rfl)) (by decide) (fun K hK => ?_);refine goes_ Try.func75 (by kernel_rfl) rfl #[.int .i64 ((rd_T80 l0 x5_15).f1.f0),.int .i64 ((rd_T80 l0 (ji28)).f1.f0),.int .i64 (wrap64 (a1 - ((rd_T80 l0 x5_15).f0))),.int .i64 (wrap64 (((rd_T80 l0 (ji28)).f0) - ((rd_T80 l0 x5_15).f0)))] (by rfl) rfl rfl (by (try simp only [List.map_toArray,List.map_cons,List.map_nil]);first|done|(simp only [hji28];rfl)|rfl|(simp only [List.length_drop,List.length_take];rfl)) ?_
                          with_reducible refine (ramp_mix.calls kj15 ((rd_T80 l0 x5_15).f1.f0) ((rd_T80 l0 (ji28)).f1.f0) (wrap64 (a1 - ((rd_T80 l0 x5_15).f0))) (wrap64 (((rd_T80 l0 (ji28)).f0) - ((rd_T80 l0 x5_15).f0))) t289 _ A31.out).mono ?_
                          rintro e w45 ⟨rfl,hb⟩
                          refine ⟨_,rfl,?_⟩;replace BK280:=am (bw (by exact BK280.out) hb);replace BK286:=am (bw (by exact BK286.out) hb);replace BK288:=am (bw (by exact BK288.out) hb);replace HB:=am (ss (by repeat (first|(with_reducible first|exact HB.out|apply sa|apply sn|apply sd|refine sy ?_ (by assumption))|exact HB.out)) hb);(try clear hb);(try clear hb2);(try clear hk);(try clear hi);refine hK.out _ _ ⟨(bc BK286.out 0).trans rfl,(bc BK286.out 1).trans rfl,(bc BK286.out 2).trans rfl,(bc BK286.out 3).trans rfl,(bc BK286.out 4).trans rfl,(bc BK288.out 0).trans rfl,(bc BK288.out 1).trans rfl,(bc BK288.out 2).trans rfl,(bc BK288.out 3).trans rfl,(bc BK288.out 4).trans rfl⟩ (fun hHeld => ?_);clear hK K;refine norm_ (a':=?_) ?_ ?_
                          rotate_left
                          · show Act.put _ (some 82) _ = _
                            simp only [Act.put,q1,q2,q3,i64_w,i32_w]
                            rfl
                          refine one_ (i:=17) (N:=some 91) #[true,true,true,true,true,true,true,true,true,true,true,true,true,true,true,true,true,true,true,true,true,true,true,true,true,true,false,true,true,true,true,true,true,true,true,false,false,false] rfl rfl (one_of HT_.out (by kernel_rfl)) (by decide) (fun K hK => ?_);refine goes_ Try.func75 (by kernel_rfl) rfl #[.int .i64 ((rd_T80 l0 x5_15).f1.f1),.int .i64 ((rd_T80 l0 (ji28)).f1.f1),.int .i64 (wrap64 (a1 - ((rd_T80 l0 x5_15).f0))),.int .i64 (wrap64 (((rd_T80 l0 (ji28)).f0) - ((rd_T80 l0 x5_15).f0)))] (by rfl) rfl rfl (by (try simp only [List.map_toArray,List.map_cons,List.map_nil]);first|done|(simp only [hji28];rfl)|rfl|(simp only [List.length_drop,List.length_take];rfl)) ?_
                          with_reducible refine (ramp_mix.calls kj15 ((rd_T80 l0 x5_15).f1.f1) ((rd_T80 l0 (ji28)).f1.f1) (wrap64 (a1 - ((rd_T80 l0 x5_15).f0))) (wrap64 (((rd_T80 l0 (ji28)).f0) - ((rd_T80 l0 x5_15).f0))) t290 _ A32.out).mono ?_
                          rintro e w46 ⟨rfl,hb⟩
                          refine ⟨_,rfl,?_⟩;replace BK280:=am (bw (by exact BK280.out) hb);replace BK286:=am (bw (by exact BK286.out) hb);replace BK288:=am (bw (by exact BK288.out) hb);replace HB:=am (ss (by repeat (first|(with_reducible first|exact HB.out|apply sa|apply sn|apply sd|refine sy ?_ (by assumption))|exact HB.out)) hb);(try clear hb);(try clear hb2);(try clear hk);(try clear hi);refine hK.out _ _ ⟨(bc BK286.out 0).trans rfl,(bc BK286.out 1).trans rfl,(bc BK286.out 2).trans rfl,(bc BK286.out 3).trans rfl,(bc BK286.out 4).trans rfl,(bc BK288.out 0).trans rfl,(bc BK288.out 1).trans rfl,(bc BK288.out 2).trans rfl,(bc BK288.out 3).trans rfl,(bc BK288.out 4).trans rfl⟩ (fun hHeld => ?_);clear hK K;refine norm_ (a':=?_) ?_ ?_
                          rotate_left
                          · show Act.put _ (some 91) _ = _
                            simp only [Act.put,q1,q2,q3,i64_w,i32_w]
                            rfl
                          refine one_ (i:=26) (N:=some 100) #[true,true,true,true,true,true,true,true,true,true,true,true,true,true,true,true,true,true,true,true,true,true,true,true,true,true,true,true,true,true,true,true,true,true,true,false,false,false] rfl rfl (one_of HT_.out (by kernel_rfl)) (by decide) (fun K hK => ?_);refine goes_ Try.func75 (by kernel_rfl) rfl #[.int .i64 ((rd_T80 l0 x5_15).f1.f2),.int .i64 ((rd_T80 l0 (ji28)).f1.f2),.int .i64 (wrap64 (a1 - ((rd_T80 l0 x5_15).f0))),.int .i64 (wrap64 (((rd_T80 l0 (ji28)).f0) - ((rd_T80 l0 x5_15).f0)))] (by rfl) rfl rfl (by (try simp only [List.map_toArray,List.map_cons,List.map_nil]);first|done|(simp only [hji28];rfl)|rfl|(simp only [List.length_drop,List.length_take];rfl)) ?_
                          with_reducible refine (ramp_mix.calls kj15 ((rd_T80 l0 x5_15).f1.f2) ((rd_T80 l0 (ji28)).f1.f2) (wrap64 (a1 - ((rd_T80 l0 x5_15).f0))) (wrap64 (((rd_T80 l0 (ji28)).f0) - ((rd_T80 l0 x5_15).f0))) t291 _ A33.out).mono ?_
                          rintro e w47 ⟨rfl,hb⟩
                          refine ⟨_,rfl,?_⟩;replace BK280:=am (bw (by exact BK280.out) hb);replace BK286:=am (bw (by exact BK286.out) hb);replace BK288:=am (bw (by exact BK288.out) hb);replace HB:=am (ss (by repeat (first|(with_reducible first|exact HB.out|apply sa|apply sn|apply sd|refine sy ?_ (by assumption))|exact HB.out)) hb);(try clear hb);(try clear hb2);(try clear hk);(try clear hi);refine hK.out _ _ ⟨(bc BK286.out 0).trans rfl,(bc BK286.out 1).trans rfl,(bc BK286.out 2).trans rfl,(bc BK286.out 3).trans rfl,(bc BK286.out 4).trans rfl,(bc BK288.out 0).trans rfl,(bc BK288.out 1).trans rfl,(bc BK288.out 2).trans rfl,(bc BK288.out 3).trans rfl,(bc BK288.out 4).trans rfl⟩ (fun hHeld => ?_);clear hK K;refine norm_ (a':=?_) ?_ ?_
                          rotate_left
                          · show Act.put _ (some 100) _ = _
                            simp only [Act.put,q1,q2,q3,i64_w,i32_w]
                            rfl
                          refine one_ (i:=35) (N:=some 109) #[true,true,true,true,true,true,true,true,true,true,true,true,true,true,true,true,true,true,true,true,true,true,true,true,true,true,true,true,true,true,true,true,true,true,true,true,false,false] rfl rfl (one_of HT_.out (by kernel_rfl)) (by decide) (fun K hK => ?_);refine goes_ Try.func75 (by kernel_rfl) rfl #[.int .i64 ((rd_T80 l0 x5_15).f1.f3),.int .i64 ((rd_T80 l0 (ji28)).f1.f3),.int .i64 (wrap64 (a1 - ((rd_T80 l0 x5_15).f0))),.int .i64 (wrap64 (((rd_T80 l0 (ji28)).f0) - ((rd_T80 l0 x5_15).f0)))] (by rfl) rfl rfl (by (try simp only [List.map_toArray,List.map_cons,List.map_nil]);first|done|(simp only [hji28];rfl)|rfl|(simp only [List.length_drop,List.length_take];rfl)) ?_
                          with_reducible refine (ramp_mix.calls kj15 ((rd_T80 l0 x5_15).f1.f3) ((rd_T80 l0 (ji28)).f1.f3) (wrap64 (a1 - ((rd_T80 l0 x5_15).f0))) (wrap64 (((rd_T80 l0 (ji28)).f0) - ((rd_T80 l0 x5_15).f0))) t292 _ A34.out).mono ?_
                          rintro e w48 ⟨rfl,hb⟩
                          refine ⟨_,rfl,?_⟩;replace BK280:=am (bw (by exact BK280.out) hb);replace BK286:=am (bw (by exact BK286.out) hb);replace BK288:=am (bw (by exact BK288.out) hb);replace HB:=am (ss (by repeat (first|(with_reducible first|exact HB.out|apply sa|apply sn|apply sd|refine sy ?_ (by assumption))|exact HB.out)) hb);(try clear hb);(try clear hb2);(try clear hk);(try clear hi);refine hK.out _ _ ⟨(bc BK286.out 0).trans rfl,(bc BK286.out 1).trans rfl,(bc BK286.out 2).trans rfl,(bc BK286.out 3).trans rfl,(bc BK286.out 4).trans rfl,(bc BK288.out 0).trans rfl,(bc BK288.out 1).trans rfl,(bc BK288.out 2).trans rfl,(bc BK288.out 3).trans rfl,(bc BK288.out 4).trans rfl⟩ (fun hHeld => ?_);clear hK K;refine norm_ (a':=?_) ?_ ?_
                          rotate_left
                          · show Act.put _ (some 109) _ = _
                            simp only [Act.put,q1,q2,q3,i64_w,i32_w]
                            rfl
                          refine pure_ (i:=36) (N:=some 110) (v:=?_) (a':=?_) #[true,true,true,true,true,true,true,true,true,true,true,true,true,true,true,true,true,true,true,true,true,true,true,true,true,true,true,true,true,true,true,true,true,true,true,true,true,false] rfl rfl (any_of HT_.out (by kernel_rfl)) (fun _ _ _ h => h) (Or.inl ⟨by rfl,?_⟩) ?_ ?_
                          rotate_left
                          · intro w'
                            go_simp
                            with_reducible rfl
                          rotate_left
                          · simp only [Act.put,q1,q2,q3,i64_w,i32_w]
                            rfl
                          refine one_ (i:=37) (N:=none) #[true,true,true,true,true,true,true,true,true,true,true,true,true,true,true,true,true,true,true,true,true,true,true,true,true,true,true,true,true,true,true,true,true,true,true,true,true,true] rfl rfl (one_of HT_.out (by kernel_rfl)) (by decide) (fun K hK => ?_);have hs49 : w48.cell? ⟨gb280,0,none⟩ = some (.int .i64 0):=(bc BK280.out 0).trans rfl;have hfs49:=bz BK280.out 0;have hns49_1:=NB286_280.out;have hns49_2:=NB288_280.out;have hms49_1:=NB280_286.out;have hms49_2:=NB280_288.out;have hs50 : w48.cell? ⟨gb280,1,none⟩ = some (.int .i64 0):=(bc BK280.out 1).trans rfl;have hfs50:=bz BK280.out 1;have hns50_1:=NB286_280.out;have hns50_2:=NB288_280.out;have hms50_1:=NB280_286.out;have hms50_2:=NB280_288.out;have hs51 : w48.cell? ⟨gb280,2,none⟩ = some (.int .i64 0):=(bc BK280.out 2).trans rfl;have hfs51:=bz BK280.out 2;have hns51_1:=NB286_280.out;have hns51_2:=NB288_280.out;have hms51_1:=NB280_286.out;have hms51_2:=NB280_288.out;have hs52 : w48.cell? ⟨gb280,3,none⟩ = some (.int .i64 0):=(bc BK280.out 3).trans rfl;have hfs52:=bz BK280.out 3;have hns52_1:=NB286_280.out;have hns52_2:=NB288_280.out;have hms52_1:=NB280_286.out;have hms52_2:=NB280_288.out;refine skip_ (w1:=?_) (by rfl) rfl ?_ ?_
                          rotate_left
                          · go_simp
                            rfl
                          refine hK.out _ _ ⟨((cell_far (p:=⟨gb280,_,none⟩) NB286_280.out _).trans (((cell_far (p:=⟨gb280,_,none⟩) NB286_280.out _).trans (((cell_far (p:=⟨gb280,_,none⟩) NB286_280.out _).trans (((cell_far (p:=⟨gb280,_,none⟩) NB286_280.out _).trans (hHeld.1)))))))),((cell_far (p:=⟨gb280,_,none⟩) NB286_280.out _).trans (((cell_far (p:=⟨gb280,_,none⟩) NB286_280.out _).trans (((cell_far (p:=⟨gb280,_,none⟩) NB286_280.out _).trans (((cell_far (p:=⟨gb280,_,none⟩) NB286_280.out _).trans (hHeld.2.1)))))))),((cell_far (p:=⟨gb280,_,none⟩) NB286_280.out _).trans (((cell_far (p:=⟨gb280,_,none⟩) NB286_280.out _).trans (((cell_far (p:=⟨gb280,_,none⟩) NB286_280.out _).trans (((cell_far (p:=⟨gb280,_,none⟩) NB286_280.out _).trans (hHeld.2.2.1)))))))),((cell_far (p:=⟨gb280,_,none⟩) NB286_280.out _).trans (((cell_far (p:=⟨gb280,_,none⟩) NB286_280.out _).trans (((cell_far (p:=⟨gb280,_,none⟩) NB286_280.out _).trans (((cell_far (p:=⟨gb280,_,none⟩) NB286_280.out _).trans (hHeld.2.2.2.1)))))))),((cell_far (p:=⟨gb280,_,none⟩) NB286_280.out _).trans (((cell_far (p:=⟨gb280,_,none⟩) NB286_280.out _).trans (((cell_far (p:=⟨gb280,_,none⟩) NB286_280.out _).trans (((cell_far (p:=⟨gb280,_,none⟩) NB286_280.out _).trans (hHeld.2.2.2.2.1)))))))),((cell_far (p:=⟨gb280,_,none⟩) NB288_280.out _).trans (((cell_far (p:=⟨gb280,_,none⟩) NB288_280.out _).trans (((cell_far (p:=⟨gb280,_,none⟩) NB288_280.out _).trans (((cell_far (p:=⟨gb280,_,none⟩) NB288_280.out _).trans (hHeld.2.2.2.2.2.1)))))))),((cell_far (p:=⟨gb280,_,none⟩) NB288_280.out _).trans (((cell_far (p:=⟨gb280,_,none⟩) NB288_280.out _).trans (((cell_far (p:=⟨gb280,_,none⟩) NB288_280.out _).trans (((cell_far (p:=⟨gb280,_,none⟩) NB288_280.out _).trans (hHeld.2.2.2.2.2.2.1)))))))),((cell_far (p:=⟨gb280,_,none⟩) NB288_280.out _).trans (((cell_far (p:=⟨gb280,_,none⟩) NB288_280.out _).trans (((cell_far (p:=⟨gb280,_,none⟩) NB288_280.out _).trans (((cell_far (p:=⟨gb280,_,none⟩) NB288_280.out _).trans (hHeld.2.2.2.2.2.2.2.1)))))))),((cell_far (p:=⟨gb280,_,none⟩) NB288_280.out _).trans (((cell_far (p:=⟨gb280,_,none⟩) NB288_280.out _).trans (((cell_far (p:=⟨gb280,_,none⟩) NB288_280.out _).trans (((cell_far (p:=⟨gb280,_,none⟩) NB288_280.out _).trans (hHeld.2.2.2.2.2.2.2.2.1)))))))),((cell_far (p:=⟨gb280,_,none⟩) NB288_280.out _).trans (((cell_far (p:=⟨gb280,_,none⟩) NB288_280.out _).trans (((cell_far (p:=⟨gb280,_,none⟩) NB288_280.out _).trans (((cell_far (p:=⟨gb280,_,none⟩) NB288_280.out _).trans (hHeld.2.2.2.2.2.2.2.2.2))))))))⟩ (fun hHeld => ?_);clear hK K;refine done_ (done_of HT_.out (by kernel_rfl)) ?_
                          try go_wp2
                          refine bodyPost_ret (results_cell_row rfl _ _ gb280 23 #[.int .i64 t289,.int .i64 t290,.int .i64 t291,.int .i64 t292] (0,0) _ rfl (bp (bp (bp (bp BK280.out 0 _ rfl) 1 _ rfl) 2 _ rfl) 3 _ rfl) Try.underlying23 rfl (by kernel_rfl)) rfl ?_
                          exact ⟨by first|rfl|(simp [errW_none,errW_some] <;> rfl)|(simp only [← hji28];first|rfl|(simp [errW_none,errW_some] <;> rfl))|(simp [*,errW_none,errW_some] <;> rfl),by repeat (first|(with_reducible first|exact HB.out|apply sa|apply sn|apply sd|refine sy ?_ (by assumption))|exact HB.out)⟩
                        · rw [if_neg c30] at H
                          exact absurd H (by simp)
                      · rw [if_neg c29] at H
                        exact absurd H (by simp)
                  · rw [if_neg c22] at H
                    exact absurd H (by simp)
                · rw [if_neg c21] at H
                  exact absurd H (by simp)
        · rw [if_neg c13] at H
          exact absurd H (by simp)
end Go.Proofs.Ytmdfcinjmlagcaa.P
