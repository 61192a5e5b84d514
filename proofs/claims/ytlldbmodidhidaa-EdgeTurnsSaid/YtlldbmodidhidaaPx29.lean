/- Printed by printx.py (wip/tool) out of the translation: plain functions that tell what the program answers,and the proofs that the program comes to these answers,for all arguments of their kinds. Lean checks it. -/
import Derived.Test.YtlldbmodidhidaaShort
import Derived.Test.YtlldbmodidhidaaPx0
import Derived.Test.YtlldbmodidhidaaPx2
import Derived.Test.YtlldbmodidhidaaPx17
namespace Go.Proofs.Ytlldbmodidhidaa.P
open Go.RowKit Go.Proofs.YtlldbmodidhidaaW.PrintWords Go.Proofs.YtlldbmodidhidaaW.PrintLast Go.Proofs.YtlldbmodidhidaaW.PrintMore
attribute [local go_sem] max2_int min2_int max_two min_two max_three min_three max_four min_four max_five min_five max_six min_six   -- for this text's walks alone
set_option linter.unusedVariables false
set_option linter.unusedSimpArgs false

attribute [local go_sem high] eqA51
-- NOT PRINTED: function 5 (celluloidlaw15_EdgeShifts)

-- NOT PRINTED: function 6 (celluloidlaw15_EdgePlain)

/-! ### edge_Turned: function 16 -/
def edge_Turned.f (a0_0 : Int) (a0_1 : Int) (a0_2 : Int) (a0_3 : Int) (a0_4 : Int) (a0_5 : Int) (a0_6 : Bool) (a0_7 : Int) (a0_8 : Int) (a0_9 : Int) : Option (Int × Int × Int × Int × Int × Int × Bool × Int × Int × Int):=some (a0_4,a0_5,a0_2,a0_3,a0_0,a0_1,a0_6,a0_8,a0_7,a0_9)
set_option maxHeartbeats 8000000 in
set_option maxRecDepth 100000 in
theorem edge_Turned.calls (a0_0 : Int) (a0_1 : Int) (a0_2 : Int) (a0_3 : Int) (a0_4 : Int) (a0_5 : Int) (a0_6 : Bool) (a0_7 : Int) (a0_8 : Int) (a0_9 : Int) (r1 : Int) (r2 : Int) (r3 : Int) (r4 : Int) (r5 : Int) (r6 : Int) (r7 : Bool) (r8 : Int) (r9 : Int) (r10 : Int) (w : World) (h : edge_Turned.f a0_0 a0_1 a0_2 a0_3 a0_4 a0_5 a0_6 a0_7 a0_8 a0_9 = some (r1,r2,r3,r4,r5,r6,r7,r8,r9,r10)) :
    Calls Try.prog 16 #[.agg #[.int .i64 a0_0,.int .i64 a0_1,.int .i64 a0_2,.int .i64 a0_3,.int .i64 a0_4,.int .i64 a0_5,.bool a0_6,.int .i64 a0_7,.int .i64 a0_8,.int .i64 a0_9]] w fun e w' => e = .returned (.agg #[.int .i64 r1,.int .i64 r2,.int .i64 r3,.int .i64 r4,.int .i64 r5,.int .i64 r6,.bool r7,.int .i64 r8,.int .i64 r9,.int .i64 r10]) ∧ Below w.heap.size w w':=by
  have hu51:=Try.underlying51;have hu47:=Try.underlying47;have HB:=am (Below.refl w.heap.size w);have H : (some (a0_4,a0_5,a0_2,a0_3,a0_0,a0_1,a0_6,a0_8,a0_7,a0_9)) = some (r1,r2,r3,r4,r5,r6,r7,r8,r9,r10):=h;clear h;simp only [Option.some.injEq,Prod.mk.injEq] at H;obtain ⟨rfl,rfl,rfl,rfl,rfl,rfl,rfl,rfl,rfl,rfl⟩:=H
  go_enter Try.func16,Try.ntmps16
  go_wp2_with (first|((with_reducible refine gate_dst (N:=1) rfl ?_);refine box_event ?hg (N:=1) ?hd (cs:=#[.int .i64 a0_0,.int .i64 a0_1,.int .i64 a0_2,.int .i64 a0_3,.int .i64 a0_4,.int .i64 a0_5,.bool a0_6,.int .i64 a0_7,.int .i64 a0_8,.int .i64 a0_9]) (t:=51) ?hr ?_;(case hd => rfl);(case hg => rfl);(case hr => first|(go_simp;done)|(go_simp;rfl));intro gb487 hg w2 hbox hb;have BK487:=am (hbox);have GW487:=am ((by rw [hg];exact (sz (by repeat (first|(with_reducible first|exact HB.out|apply sa|apply sn|apply sd)|exact HB.out))) : w.heap.size ≤ gb487));have GE487:=am ((by rw [hg];exact (sz (by repeat (first|(with_reducible first|exact HB.out|apply sa|apply sn|apply sd)|exact HB.out))) : w.heap.size ≤ gb487));replace HB:=am (ss (by repeat (first|(with_reducible first|exact HB.out|apply sa|apply sn|apply sd)|exact HB.out)) hb);clear hb hbox hg)|((with_reducible refine gate_dst (N:=2) rfl ?_);refine box_event ?hg (N:=2) ?hd (cs:=#[.int .i64 0,.int .i64 0,.int .i64 0,.int .i64 0,.int .i64 0,.int .i64 0,.bool false,.int .i64 0,.int .i64 0,.int .i64 0]) (t:=51) ?hr ?_;(case hd => rfl);(case hg => rfl);(case hr => first|(go_simp;done)|(go_simp;rfl));intro gb488 hg w3 hbox hb;have BK488:=am (hbox);obtain ⟨h1_,GW488⟩:=sg (by repeat (first|(with_reducible first|exact HB.out|apply sa|apply sn|apply sd|refine sx ?_ GE487.out)|exact HB.out)) hb hg;replace HB:=h1_;clear h1_;have GE488:=GW488;have NB487_488:=nb (by exact BK487.out) hg;have NB488_487:=ng (by exact BK487.out) hg;replace BK487:=am (bw (by exact BK487.out) hb);clear hb hbox hg;have hnb4:=NB487_488.out;have hnc4:=NB488_487.out;obtain ⟨hcz5_0,hcz5_1,hcz5_2,hcz5_3,hcz5_4,hcz5_5,hcz5_6,hcz5_7,hcz5_8,hcz5_9⟩:=cq10 BK487.out;obtain ⟨hfz5_0,hfz5_1,hfz5_2,hfz5_3,hfz5_4,hfz5_5,hfz5_6,hfz5_7,hfz5_8,hfz5_9⟩:=fq10 BK487.out;obtain ⟨hcz6_0,hcz6_1,hcz6_2,hcz6_3,hcz6_4,hcz6_5,hcz6_6,hcz6_7,hcz6_8,hcz6_9⟩:=cq10 BK488.out;obtain ⟨hfz6_0,hfz6_1,hfz6_2,hfz6_3,hfz6_4,hfz6_5,hfz6_6,hfz6_7,hfz6_8,hfz6_9⟩:=fq10 BK488.out))
  refine bodyPost_ret (results_cell_row rfl _ _ gb488 51 #[.int .i64 a0_4,.int .i64 a0_5,.int .i64 a0_2,.int .i64 a0_3,.int .i64 a0_0,.int .i64 a0_1,.bool a0_6,.int .i64 a0_8,.int .i64 a0_7,.int .i64 a0_9] (0,0) _ rfl (by (with_reducible repeat (first|refine bn ?_ _|refine bd ?_|refine ba ?_ _));refine bp (cs:=#[.int .i64 a0_4,.int .i64 a0_5,.int .i64 a0_2,.int .i64 a0_3,.int .i64 a0_0,.int .i64 a0_1,.bool a0_6,.int .i64 a0_8,.int .i64 a0_7,.int .i64 0]) ?_ 9 _ rfl;(with_reducible repeat (first|refine bn ?_ _|refine bd ?_|refine ba ?_ _));refine bp (cs:=#[.int .i64 a0_4,.int .i64 a0_5,.int .i64 a0_2,.int .i64 a0_3,.int .i64 a0_0,.int .i64 a0_1,.bool a0_6,.int .i64 a0_8,.int .i64 0,.int .i64 0]) ?_ 8 _ rfl;(with_reducible repeat (first|refine bn ?_ _|refine bd ?_|refine ba ?_ _));refine bp (cs:=#[.int .i64 a0_4,.int .i64 a0_5,.int .i64 a0_2,.int .i64 a0_3,.int .i64 a0_0,.int .i64 a0_1,.bool a0_6,.int .i64 0,.int .i64 0,.int .i64 0]) ?_ 7 _ rfl;(with_reducible repeat (first|refine bn ?_ _|refine bd ?_|refine ba ?_ _));refine bp (cs:=#[.int .i64 a0_4,.int .i64 a0_5,.int .i64 a0_2,.int .i64 a0_3,.int .i64 a0_0,.int .i64 a0_1,.bool false,.int .i64 0,.int .i64 0,.int .i64 0]) ?_ 6 _ rfl;(with_reducible repeat (first|refine bn ?_ _|refine bd ?_|refine ba ?_ _));refine bp (cs:=#[.int .i64 a0_4,.int .i64 a0_5,.int .i64 a0_2,.int .i64 a0_3,.int .i64 a0_0,.int .i64 0,.bool false,.int .i64 0,.int .i64 0,.int .i64 0]) ?_ 5 _ rfl;(with_reducible repeat (first|refine bn ?_ _|refine bd ?_|refine ba ?_ _));refine bp (cs:=#[.int .i64 a0_4,.int .i64 a0_5,.int .i64 a0_2,.int .i64 a0_3,.int .i64 0,.int .i64 0,.bool false,.int .i64 0,.int .i64 0,.int .i64 0]) ?_ 4 _ rfl;(with_reducible repeat (first|refine bn ?_ _|refine bd ?_|refine ba ?_ _));refine bp (cs:=#[.int .i64 a0_4,.int .i64 a0_5,.int .i64 a0_2,.int .i64 0,.int .i64 0,.int .i64 0,.bool false,.int .i64 0,.int .i64 0,.int .i64 0]) ?_ 3 _ rfl;(with_reducible repeat (first|refine bn ?_ _|refine bd ?_|refine ba ?_ _));refine bp (cs:=#[.int .i64 a0_4,.int .i64 a0_5,.int .i64 0,.int .i64 0,.int .i64 0,.int .i64 0,.bool false,.int .i64 0,.int .i64 0,.int .i64 0]) ?_ 2 _ rfl;(with_reducible repeat (first|refine bn ?_ _|refine bd ?_|refine ba ?_ _));refine bp (cs:=#[.int .i64 a0_4,.int .i64 0,.int .i64 0,.int .i64 0,.int .i64 0,.int .i64 0,.bool false,.int .i64 0,.int .i64 0,.int .i64 0]) ?_ 1 _ rfl;(with_reducible repeat (first|refine bn ?_ _|refine bd ?_|refine ba ?_ _));refine bp (cs:=#[.int .i64 0,.int .i64 0,.int .i64 0,.int .i64 0,.int .i64 0,.int .i64 0,.bool false,.int .i64 0,.int .i64 0,.int .i64 0]) ?_ 0 _ rfl;(with_reducible repeat (first|refine bn ?_ _|refine bd ?_|refine ba ?_ _));refine bf ?_ NB488_487.out _;(with_reducible repeat (first|refine bn ?_ _|refine bd ?_|refine ba ?_ _));refine bf ?_ NB488_487.out _;(with_reducible repeat (first|refine bn ?_ _|refine bd ?_|refine ba ?_ _));refine bf ?_ NB488_487.out _;(with_reducible repeat (first|refine bn ?_ _|refine bd ?_|refine ba ?_ _));refine bf ?_ NB488_487.out _;(with_reducible repeat (first|refine bn ?_ _|refine bd ?_|refine ba ?_ _));refine bf ?_ NB488_487.out _;(with_reducible repeat (first|refine bn ?_ _|refine bd ?_|refine ba ?_ _));refine bf ?_ NB488_487.out _;(with_reducible repeat (first|refine bn ?_ _|refine bd ?_|refine ba ?_ _));exact BK488.out) Try.underlying51 rfl (by kernel_rfl)) rfl ?_
  exact ⟨by first|rfl|(simp [errW_none,errW_some] <;> rfl)|(simp [*,errW_none,errW_some] <;> rfl),by repeat (first|(with_reducible first|exact HB.out|apply sa|apply sn|apply sd|refine sy ?_ (by assumption))|exact HB.out)⟩

/-! ### celluloidlaw15_EdgeTurns: function 7 -/
def celluloidlaw15_EdgeTurns.f (k : Nat) (a0_0 : Int) (a0_1 : Int) (a0_2 : Int) (a0_3 : Int) (a0_4 : Int) (a0_5 : Int) (a0_6 : Bool) (a0_7 : Int) (a0_8 : Int) (a0_9 : Int) : Option (Bool):=(edge_Turned.f a0_0 a0_1 a0_2 a0_3 a0_4 a0_5 a0_6 a0_7 a0_8 a0_9).bind fun bt490 => (if ((bt490.1 == a0_4 && (bt490.2.1 == a0_5)) && ((bt490.2.2.1 == a0_2 && (bt490.2.2.2.1 == a0_3)) && ((bt490.2.2.2.2.1 == a0_0 && (bt490.2.2.2.2.2.1 == a0_1)) && (bt490.2.2.2.2.2.2.1 == a0_6 && (bt490.2.2.2.2.2.2.2.1 == a0_8 && (bt490.2.2.2.2.2.2.2.2.1 == a0_7 && (bt490.2.2.2.2.2.2.2.2.2 == a0_9))))))) = true then ((edge_Turned.f bt490.1 bt490.2.1 bt490.2.2.1 bt490.2.2.2.1 bt490.2.2.2.2.1 bt490.2.2.2.2.2.1 bt490.2.2.2.2.2.2.1 bt490.2.2.2.2.2.2.2.1 bt490.2.2.2.2.2.2.2.2.1 bt490.2.2.2.2.2.2.2.2.2).bind fun bt501 => (if ((bt501.1 == a0_0 && (bt501.2.1 == a0_1)) && ((bt501.2.2.1 == a0_2 && (bt501.2.2.2.1 == a0_3)) && ((bt501.2.2.2.2.1 == a0_4 && (bt501.2.2.2.2.2.1 == a0_5)) && (bt501.2.2.2.2.2.2.1 == a0_6 && (bt501.2.2.2.2.2.2.2.1 == a0_7 && (bt501.2.2.2.2.2.2.2.2.1 == a0_8 && (bt501.2.2.2.2.2.2.2.2.2 == a0_9))))))) = true then ((celluloidlaw15_awake.f k).bind fun t511 => (some t511)) else (some false))) else (some false))
theorem celluloidlaw15_EdgeTurns.mono : ∀ a0 a1 a2 a3 a4 a5 a6 a7 a8 a9 k,LeO (celluloidlaw15_EdgeTurns.f k a0 a1 a2 a3 a4 a5 a6 a7 a8 a9) (celluloidlaw15_EdgeTurns.f (k + 1) a0 a1 a2 a3 a4 a5 a6 a7 a8 a9):=by
  intro a0 a1 a2 a3 a4 a5 a6 a7 a8 a9 k
  unfold celluloidlaw15_EdgeTurns.f
  repeat' first
      | (with_reducible exact celluloidlaw15_awake.mono _)
      | (with_reducible exact LeO.refl _)
      | (with_reducible exact LeO.none _)
      | (with_reducible refine LeO.ite ?_ ?_)
      | (with_reducible refine LeO.bind ?_ (fun _ => ?_))
      | exact celluloidlaw15_awake.mono _
      | exact LeO.none _
      | refine LeO.ite ?_ ?_
      | refine LeO.bind ?_ (fun _ => ?_)
def celluloidlaw15_EdgeTurns.T2 : Bool × List (List Nat × List Nat):=(true,[([],[]),([],[]),([1],[1]),([],[]),([3],[3]),([],[]),([5],[5]),([],[]),([7],[7]),([],[]),([9],[9]),([],[]),([11],[11]),([],[]),([13],[13]),([2,4,6,8,10,12,14],[2,4,6,8,10,12,14]),([0,15],[0,15]),([16],[16]),([17],[17]),([18,17,17],[17,18]),([17],[17]),([19,20,17],[17,19,20]),([17,21],[17,21]),([22,19],[22]),([23,23],[23]),([23,24],[23,24]),([25,24,0,1,2,3,4,5,6,7,8,9,10,11,12,13,14,15,16,17,18,19,20,21,22,23,24,25],[25])])
def celluloidlaw15_EdgeTurns.B2 : List Nat:=[0,0,2,0,8,0,32,0,128,0,512,0,2048,0,8192,32766,65535,131071,262143,524287,262143,2097151,4194303,8388607,16777215,33554431,67108863]
theorem celluloidlaw15_EdgeTurns.tab2 : rtab .any (opsOf Try.f7 2) = celluloidlaw15_EdgeTurns.T2:=by kernel_rfl
theorem celluloidlaw15_EdgeTurns.bits2 : waitsOk celluloidlaw15_EdgeTurns.T2.2 celluloidlaw15_EdgeTurns.B2 = true:=by kernel_rfl
set_option maxHeartbeats 8000000 in
set_option maxRecDepth 100000 in
theorem celluloidlaw15_EdgeTurns.calls (k : Nat) (a0_0 : Int) (a0_1 : Int) (a0_2 : Int) (a0_3 : Int) (a0_4 : Int) (a0_5 : Int) (a0_6 : Bool) (a0_7 : Int) (a0_8 : Int) (a0_9 : Int) (r : Bool) (w : World) (h : celluloidlaw15_EdgeTurns.f k a0_0 a0_1 a0_2 a0_3 a0_4 a0_5 a0_6 a0_7 a0_8 a0_9 = some r) :
    Calls Try.prog 7 #[.agg #[.int .i64 a0_0,.int .i64 a0_1,.int .i64 a0_2,.int .i64 a0_3,.int .i64 a0_4,.int .i64 a0_5,.bool a0_6,.int .i64 a0_7,.int .i64 a0_8,.int .i64 a0_9]] w fun e w' => e = .returned (.bool r) ∧ Below w.heap.size w w':=by
  have hu51:=Try.underlying51;have hu47:=Try.underlying47;have HB:=am (Below.refl w.heap.size w);have H : ((edge_Turned.f a0_0 a0_1 a0_2 a0_3 a0_4 a0_5 a0_6 a0_7 a0_8 a0_9).bind fun bt490 => (if ((bt490.1 == a0_4 && (bt490.2.1 == a0_5)) && ((bt490.2.2.1 == a0_2 && (bt490.2.2.2.1 == a0_3)) && ((bt490.2.2.2.2.1 == a0_0 && (bt490.2.2.2.2.2.1 == a0_1)) && (bt490.2.2.2.2.2.2.1 == a0_6 && (bt490.2.2.2.2.2.2.2.1 == a0_8 && (bt490.2.2.2.2.2.2.2.2.1 == a0_7 && (bt490.2.2.2.2.2.2.2.2.2 == a0_9))))))) = true then ((edge_Turned.f bt490.1 bt490.2.1 bt490.2.2.1 bt490.2.2.2.1 bt490.2.2.2.2.1 bt490.2.2.2.2.2.1 bt490.2.2.2.2.2.2.1 bt490.2.2.2.2.2.2.2.1 bt490.2.2.2.2.2.2.2.2.1 bt490.2.2.2.2.2.2.2.2.2).bind fun bt501 => (if ((bt501.1 == a0_0 && (bt501.2.1 == a0_1)) && ((bt501.2.2.1 == a0_2 && (bt501.2.2.2.1 == a0_3)) && ((bt501.2.2.2.2.1 == a0_4 && (bt501.2.2.2.2.2.1 == a0_5)) && (bt501.2.2.2.2.2.2.1 == a0_6 && (bt501.2.2.2.2.2.2.2.1 == a0_7 && (bt501.2.2.2.2.2.2.2.2.1 == a0_8 && (bt501.2.2.2.2.2.2.2.2.2 == a0_9))))))) = true then ((celluloidlaw15_awake.f k).bind fun t511 => (some t511)) else (some false))) else (some false))) = some r:=h;clear h;replace H:=Option.bind_eq_some_iff.mp H;obtain ⟨⟨t490,t491,t492,t493,t494,t495,t496,t497,t498,t499⟩,A20,H⟩:=H;replace H : (if ((t490 == a0_4 && (t491 == a0_5)) && ((t492 == a0_2 && (t493 == a0_3)) && ((t494 == a0_0 && (t495 == a0_1)) && (t496 == a0_6 && (t497 == a0_8 && (t498 == a0_7 && (t499 == a0_9))))))) = true then ((edge_Turned.f t490 t491 t492 t493 t494 t495 t496 t497 t498 t499).bind fun bt501 => (if ((bt501.1 == a0_0 && (bt501.2.1 == a0_1)) && ((bt501.2.2.1 == a0_2 && (bt501.2.2.2.1 == a0_3)) && ((bt501.2.2.2.2.1 == a0_4 && (bt501.2.2.2.2.2.1 == a0_5)) && (bt501.2.2.2.2.2.2.1 == a0_6 && (bt501.2.2.2.2.2.2.2.1 == a0_7 && (bt501.2.2.2.2.2.2.2.2.1 == a0_8 && (bt501.2.2.2.2.2.2.2.2.2 == a0_9))))))) = true then ((celluloidlaw15_awake.f k).bind fun t511 => (some t511)) else (some false))) else (some false)) = some r:=H;have A2:=am A20;clear A20
  by_cases c3 : ((t490 == a0_4 && (t491 == a0_5)) && ((t492 == a0_2 && (t493 == a0_3)) && ((t494 == a0_0 && (t495 == a0_1)) && (t496 == a0_6 && (t497 == a0_8 && (t498 == a0_7 && (t499 == a0_9))))))) = true
  · rw [if_pos c3] at H
    have c3b0 : ((t490 == a0_4 && (t491 == a0_5)) && ((t492 == a0_2 && (t493 == a0_3)) && ((t494 == a0_0 && (t495 == a0_1)) && (t496 == a0_6 && (t497 == a0_8 && (t498 == a0_7 && (t499 == a0_9))))))) = true:=c3;clear c3;replace H:=Option.bind_eq_some_iff.mp H;obtain ⟨⟨t501,t502,t503,t504,t505,t506,t507,t508,t509,t510⟩,A40,H⟩:=H;replace H : (if ((t501 == a0_0 && (t502 == a0_1)) && ((t503 == a0_2 && (t504 == a0_3)) && ((t505 == a0_4 && (t506 == a0_5)) && (t507 == a0_6 && (t508 == a0_7 && (t509 == a0_8 && (t510 == a0_9))))))) = true then ((celluloidlaw15_awake.f k).bind fun t511 => (some t511)) else (some false)) = some r:=H;have A4:=am A40;clear A40
    by_cases c5 : ((t501 == a0_0 && (t502 == a0_1)) && ((t503 == a0_2 && (t504 == a0_3)) && ((t505 == a0_4 && (t506 == a0_5)) && (t507 == a0_6 && (t508 == a0_7 && (t509 == a0_8 && (t510 == a0_9))))))) = true
    · rw [if_pos c5] at H
      have c5b0 : ((t501 == a0_0 && (t502 == a0_1)) && ((t503 == a0_2 && (t504 == a0_3)) && ((t505 == a0_4 && (t506 == a0_5)) && (t507 == a0_6 && (t508 == a0_7 && (t509 == a0_8 && (t510 == a0_9))))))) = true:=c5;clear c5;replace H:=Option.bind_eq_some_iff.mp H;obtain ⟨t511,A60,H⟩:=H;replace H : (some t511) = some r:=H;have A6:=am A60;clear A60;obtain rfl:=Option.some.inj H
      go_enter Try.func7,Try.ntmps7
      try go_wp2_with (first|((with_reducible refine gate_dst (N:=1) rfl ?_);refine box_event ?hg (N:=1) ?hd (cs:=#[.int .i64 a0_0,.int .i64 a0_1,.int .i64 a0_2,.int .i64 a0_3,.int .i64 a0_4,.int .i64 a0_5,.bool a0_6,.int .i64 a0_7,.int .i64 a0_8,.int .i64 a0_9]) (t:=51) ?hr ?_;(case hd => rfl);(case hg => rfl);(case hr => first|(go_simp;done)|(go_simp;rfl));intro gb489 hg w7 hbox hb;have BK489:=am (hbox);have GW489:=am ((by rw [hg];exact (sz (by repeat (first|(with_reducible first|exact HB.out|apply sa|apply sn|apply sd)|exact HB.out))) : w.heap.size ≤ gb489));have GE489:=am ((by rw [hg];exact (sz (by repeat (first|(with_reducible first|exact HB.out|apply sa|apply sn|apply sd)|exact HB.out))) : w.heap.size ≤ gb489));replace HB:=am (ss (by repeat (first|(with_reducible first|exact HB.out|apply sa|apply sn|apply sd)|exact HB.out)) hb);clear hb hbox hg;obtain ⟨hcz8_0,hcz8_1,hcz8_2,hcz8_3,hcz8_4,hcz8_5,hcz8_6,hcz8_7,hcz8_8,hcz8_9⟩:=cq10 BK489.out;obtain ⟨hfz8_0,hfz8_1,hfz8_2,hfz8_3,hfz8_4,hfz8_5,hfz8_6,hfz8_7,hfz8_8,hfz8_9⟩:=fq10 BK489.out)|((with_reducible refine gate_callee (f:=16) rfl ?_);refine goesL_ (some 5) rfl rfl Try.func16 (by kernel_rfl) rfl #[.agg #[.int .i64 a0_0,.int .i64 a0_1,.int .i64 a0_2,.int .i64 a0_3,.int .i64 a0_4,.int .i64 a0_5,.bool a0_6,.int .i64 a0_7,.int .i64 a0_8,.int .i64 a0_9]] rfl (by (try simp only [List.map_toArray,List.map_cons,List.map_nil]);first|done|rfl|(simp only [List.length_drop,List.length_take];rfl)) ?_;(with_reducible refine (edge_Turned.calls a0_0 a0_1 a0_2 a0_3 a0_4 a0_5 a0_6 a0_7 a0_8 a0_9 t490 t491 t492 t493 t494 t495 t496 t497 t498 t499 _ A2.out).mono ?_);rintro e w9 ⟨rfl,hb⟩;refine ⟨_,rfl,?_⟩;replace BK489:=am (bw (by exact BK489.out) hb);replace HB:=am (ss (by repeat (first|(with_reducible first|exact HB.out|apply sa|apply sn|apply sd|refine sx ?_ GE489.out)|exact HB.out)) hb);(try clear hb);(try clear hb2);(try clear hk);(try clear hi))|((with_reducible refine gate_dst (N:=3) rfl ?_);refine box_event ?hg (N:=3) ?hd (cs:=#[.int .i64 0,.int .i64 0,.int .i64 0,.int .i64 0,.int .i64 0,.int .i64 0,.bool false,.int .i64 0,.int .i64 0,.int .i64 0]) (t:=51) ?hr ?_;(case hd => rfl);(case hg => rfl);(case hr => first|(go_simp;done)|(go_simp;rfl));intro gb500 hg w10 hbox hb;have BK500:=am (hbox);obtain ⟨h1_,GW500⟩:=sg (by repeat (first|(with_reducible first|exact HB.out|apply sa|apply sn|apply sd|refine sx ?_ GE489.out)|exact HB.out)) hb hg;replace HB:=h1_;clear h1_;have GE500:=GW500;have NB489_500:=nb (by exact BK489.out) hg;have NB500_489:=ng (by exact BK489.out) hg;replace BK489:=am (bw (by exact BK489.out) hb);clear hb hbox hg;have hnb11:=NB500_489.out;have hnc11:=NB489_500.out;obtain ⟨hcz12_0,hcz12_1,hcz12_2,hcz12_3,hcz12_4,hcz12_5,hcz12_6,hcz12_7,hcz12_8,hcz12_9⟩:=cq10 BK500.out;obtain ⟨hfz12_0,hfz12_1,hfz12_2,hfz12_3,hfz12_4,hfz12_5,hfz12_6,hfz12_7,hfz12_8,hfz12_9⟩:=fq10 BK500.out))
      have n0_ : Aside0 (((((((((((w10.setCell ⟨gb500,0,none⟩ (.int .i64 t490)).setCell ⟨gb500,1,none⟩ (.int .i64 t491)).setCell ⟨gb500,2,none⟩ (.int .i64 t492)).setCell ⟨gb500,3,none⟩ (.int .i64 t493)).setCell ⟨gb500,4,none⟩ (.int .i64 t494)).setCell ⟨gb500,5,none⟩ (.int .i64 t495)).setCell ⟨gb500,6,none⟩ (.bool t496)).setCell ⟨gb500,7,none⟩ (.int .i64 t497)).setCell ⟨gb500,8,none⟩ (.int .i64 t498)).setCell ⟨gb500,9,none⟩ (.int .i64 t499)).heap[gb489]? = some (.cells #[.int .i64 a0_0,.int .i64 a0_1,.int .i64 a0_2,.int .i64 a0_3,.int .i64 a0_4,.int .i64 a0_5,.bool a0_6,.int .i64 a0_7,.int .i64 a0_8,.int .i64 a0_9] 51 (0,0))):=⟨by (with_reducible repeat (first|refine bn ?_ _|refine bd ?_|refine ba ?_ _|refine bf ?_ NB489_500.out _));exact BK489.out⟩;have n1_ : Aside0 (((((((((((w10.setCell ⟨gb500,0,none⟩ (.int .i64 t490)).setCell ⟨gb500,1,none⟩ (.int .i64 t491)).setCell ⟨gb500,2,none⟩ (.int .i64 t492)).setCell ⟨gb500,3,none⟩ (.int .i64 t493)).setCell ⟨gb500,4,none⟩ (.int .i64 t494)).setCell ⟨gb500,5,none⟩ (.int .i64 t495)).setCell ⟨gb500,6,none⟩ (.bool t496)).setCell ⟨gb500,7,none⟩ (.int .i64 t497)).setCell ⟨gb500,8,none⟩ (.int .i64 t498)).setCell ⟨gb500,9,none⟩ (.int .i64 t499)).heap[gb500]? = some (.cells #[.int .i64 t490,.int .i64 t491,.int .i64 t492,.int .i64 t493,.int .i64 t494,.int .i64 t495,.bool t496,.int .i64 t497,.int .i64 t498,.int .i64 t499] 51 (0,0))):=⟨(bp10 BK500.out)⟩;have n2_ : Aside0 (Below w.heap.size w ((((((((((w10.setCell ⟨gb500,0,none⟩ (.int .i64 t490)).setCell ⟨gb500,1,none⟩ (.int .i64 t491)).setCell ⟨gb500,2,none⟩ (.int .i64 t492)).setCell ⟨gb500,3,none⟩ (.int .i64 t493)).setCell ⟨gb500,4,none⟩ (.int .i64 t494)).setCell ⟨gb500,5,none⟩ (.int .i64 t495)).setCell ⟨gb500,6,none⟩ (.bool t496)).setCell ⟨gb500,7,none⟩ (.int .i64 t497)).setCell ⟨gb500,8,none⟩ (.int .i64 t498)).setCell ⟨gb500,9,none⟩ (.int .i64 t499))):=⟨by repeat (first|(with_reducible first|exact HB.out|apply sa|apply sn|apply sd|refine sy ?_ (by assumption))|exact HB.out)⟩;(try clear BK489);(try clear BK500);(try clear HB);generalize ((((((((((w10.setCell ⟨gb500,0,none⟩ (.int .i64 t490)).setCell ⟨gb500,1,none⟩ (.int .i64 t491)).setCell ⟨gb500,2,none⟩ (.int .i64 t492)).setCell ⟨gb500,3,none⟩ (.int .i64 t493)).setCell ⟨gb500,4,none⟩ (.int .i64 t494)).setCell ⟨gb500,5,none⟩ (.int .i64 t495)).setCell ⟨gb500,6,none⟩ (.bool t496)).setCell ⟨gb500,7,none⟩ (.int .i64 t497)).setCell ⟨gb500,8,none⟩ (.int .i64 t498)).setCell ⟨gb500,9,none⟩ (.int .i64 t499)) = w13 at n0_ n1_ n2_ ⊢;have BK489:=n0_;have BK500:=n1_;have HB:=n2_;clear n0_ n1_ n2_;replace BK489:=am (bd BK489.out);replace BK500:=am (bd BK500.out);replace HB:=am (sd HB.out);refine start_ (n:=27) (S:=fun w' => w'.cell? ⟨gb500,0,none⟩ = some (.int .i64 t490) ∧ w'.cell? ⟨gb500,1,none⟩ = some (.int .i64 t491) ∧ w'.cell? ⟨gb500,2,none⟩ = some (.int .i64 t492) ∧ w'.cell? ⟨gb500,3,none⟩ = some (.int .i64 t493) ∧ w'.cell? ⟨gb500,4,none⟩ = some (.int .i64 t494) ∧ w'.cell? ⟨gb500,5,none⟩ = some (.int .i64 t495) ∧ w'.cell? ⟨gb500,6,none⟩ = some (.bool t496) ∧ w'.cell? ⟨gb500,7,none⟩ = some (.int .i64 t497) ∧ w'.cell? ⟨gb500,8,none⟩ = some (.int .i64 t498) ∧ w'.cell? ⟨gb500,9,none⟩ = some (.int .i64 t499) ∧ w'.cell? ⟨gb489,0,none⟩ = some (.int .i64 a0_0) ∧ w'.cell? ⟨gb489,1,none⟩ = some (.int .i64 a0_1) ∧ w'.cell? ⟨gb489,2,none⟩ = some (.int .i64 a0_2) ∧ w'.cell? ⟨gb489,3,none⟩ = some (.int .i64 a0_3) ∧ w'.cell? ⟨gb489,4,none⟩ = some (.int .i64 a0_4) ∧ w'.cell? ⟨gb489,5,none⟩ = some (.int .i64 a0_5) ∧ w'.cell? ⟨gb489,6,none⟩ = some (.bool a0_6) ∧ w'.cell? ⟨gb489,7,none⟩ = some (.int .i64 a0_7) ∧ w'.cell? ⟨gb489,8,none⟩ = some (.int .i64 a0_8) ∧ w'.cell? ⟨gb489,9,none⟩ = some (.int .i64 a0_9)) (ds:=[]) #[false,false,false,false,false,false,false,false,false,false,false,false,false,false,false,false,false,false,false,false,false,false,false,false,false,false,false] (by kernel_rfl) rfl rfl ⟨(bc BK500.out 0).trans rfl,(bc BK500.out 1).trans rfl,(bc BK500.out 2).trans rfl,(bc BK500.out 3).trans rfl,(bc BK500.out 4).trans rfl,(bc BK500.out 5).trans rfl,(bc BK500.out 6).trans rfl,(bc BK500.out 7).trans rfl,(bc BK500.out 8).trans rfl,(bc BK500.out 9).trans rfl,(bc BK489.out 0).trans rfl,(bc BK489.out 1).trans rfl,(bc BK489.out 2).trans rfl,(bc BK489.out 3).trans rfl,(bc BK489.out 4).trans rfl,(bc BK489.out 5).trans rfl,(bc BK489.out 6).trans rfl,(bc BK489.out 7).trans rfl,(bc BK489.out 8).trans rfl,(bc BK489.out 9).trans rfl⟩ (fun hHeld => ?_);refine with_tabW celluloidlaw15_EdgeTurns.tab2 celluloidlaw15_EdgeTurns.bits2 (fun HT_ HW_ => ?_);generalize w13.drew = w14 at BK489 BK500 HB hHeld ⊢;refine pure_ (i:=1) (N:=some 7) (v:=?_) (a':=?_) #[false,true,false,false,false,false,false,false,false,false,false,false,false,false,false,false,false,false,false,false,false,false,false,false,false,false,false] rfl rfl (any_of HT_.out (by kernel_rfl)) (fun _ _ _ h => h) (Or.inl ⟨by rfl,?_⟩) ?_ ?_
      rotate_left
      · intro w'
        go_simp
        with_reducible rfl
      rotate_left
      · simp only [Act.put,q1,q2,q3,i64_w,i32_w]
        rfl
      refine pure_ (i:=3) (N:=some 9) (v:=?_) (a':=?_) #[false,true,false,true,false,false,false,false,false,false,false,false,false,false,false,false,false,false,false,false,false,false,false,false,false,false,false] rfl rfl (any_of HT_.out (by kernel_rfl)) (fun _ _ _ h => h) (Or.inl ⟨by rfl,?_⟩) ?_ ?_
      rotate_left
      · intro w'
        go_simp
        with_reducible rfl
      rotate_left
      · simp only [Act.put,q1,q2,q3,i64_w,i32_w]
        rfl
      refine pure_ (i:=5) (N:=some 11) (v:=?_) (a':=?_) #[false,true,false,true,false,true,false,false,false,false,false,false,false,false,false,false,false,false,false,false,false,false,false,false,false,false,false] rfl rfl (any_of HT_.out (by kernel_rfl)) (fun _ _ _ h => h) (Or.inl ⟨by rfl,?_⟩) ?_ ?_
      rotate_left
      · intro w'
        go_simp
        with_reducible rfl
      rotate_left
      · simp only [Act.put,q1,q2,q3,i64_w,i32_w]
        rfl
      refine pure_ (i:=7) (N:=some 13) (v:=?_) (a':=?_) #[false,true,false,true,false,true,false,true,false,false,false,false,false,false,false,false,false,false,false,false,false,false,false,false,false,false,false] rfl rfl (any_of HT_.out (by kernel_rfl)) (fun _ _ _ h => h) (Or.inl ⟨by rfl,?_⟩) ?_ ?_
      rotate_left
      · intro w'
        go_simp
        with_reducible rfl
      rotate_left
      · simp only [Act.put,q1,q2,q3,i64_w,i32_w]
        rfl
      refine pure_ (i:=9) (N:=some 15) (v:=?_) (a':=?_) #[false,true,false,true,false,true,false,true,false,true,false,false,false,false,false,false,false,false,false,false,false,false,false,false,false,false,false] rfl rfl (any_of HT_.out (by kernel_rfl)) (fun _ _ _ h => h) (Or.inl ⟨by rfl,?_⟩) ?_ ?_
      rotate_left
      · intro w'
        go_simp
        with_reducible rfl
      rotate_left
      · simp only [Act.put,q1,q2,q3,i64_w,i32_w]
        rfl
      refine pure_ (i:=11) (N:=some 17) (v:=?_) (a':=?_) #[false,true,false,true,false,true,false,true,false,true,false,true,false,false,false,false,false,false,false,false,false,false,false,false,false,false,false] rfl rfl (any_of HT_.out (by kernel_rfl)) (fun _ _ _ h => h) (Or.inl ⟨by rfl,?_⟩) ?_ ?_
      rotate_left
      · intro w'
        go_simp
        with_reducible rfl
      rotate_left
      · simp only [Act.put,q1,q2,q3,i64_w,i32_w]
        rfl
      refine pure_ (i:=13) (N:=some 19) (v:=?_) (a':=?_) #[false,true,false,true,false,true,false,true,false,true,false,true,false,true,false,false,false,false,false,false,false,false,false,false,false,false,false] rfl rfl (any_of HT_.out (by kernel_rfl)) (fun _ _ _ h => h) (Or.inl ⟨by rfl,?_⟩) ?_ ?_
      rotate_left
      · intro w'
        go_simp
        with_reducible rfl
      rotate_left
      · simp only [Act.put,q1,q2,q3,i64_w,i32_w]
        rfl
      refine take_ (i:=0) (N:=some 6) (v:=?_) (a':=?_) #[true,true,false,true,false,true,false,true,false,true,false,true,false,true,false,false,false,false,false,false,false,false,false,false,false,false,false] rfl rfl (take_ofW HT_.out HW_.out (by kernel_rfl)) (fun _ _ _ h => h) (Or.inl ⟨by rfl,?_⟩) hHeld ?_ ?_
      rotate_left
      · rintro w' ⟨s0,s1,s2,s3,s4,s5,s6,s7,s8,s9,s10,s11,s12,s13,s14,s15,s16,s17,s18,s19⟩
        go_simp
        with_reducible rfl
      rotate_left
      · simp only [Act.put,q1,q2,q3,i64_w,i32_w]
        rfl
      refine take_ (i:=2) (N:=some 8) (v:=?_) (a':=?_) #[true,true,true,true,false,true,false,true,false,true,false,true,false,true,false,false,false,false,false,false,false,false,false,false,false,false,false] rfl rfl (take_ofW HT_.out HW_.out (by kernel_rfl)) (fun _ _ _ h => h) (Or.inl ⟨by rfl,?_⟩) hHeld ?_ ?_
      rotate_left
      · rintro w' ⟨s0,s1,s2,s3,s4,s5,s6,s7,s8,s9,s10,s11,s12,s13,s14,s15,s16,s17,s18,s19⟩
        go_simp
        with_reducible rfl
      rotate_left
      · simp only [Act.put,q1,q2,q3,i64_w,i32_w]
        rfl
      refine take_ (i:=4) (N:=some 10) (v:=?_) (a':=?_) #[true,true,true,true,true,true,false,true,false,true,false,true,false,true,false,false,false,false,false,false,false,false,false,false,false,false,false] rfl rfl (take_ofW HT_.out HW_.out (by kernel_rfl)) (fun _ _ _ h => h) (Or.inl ⟨by rfl,?_⟩) hHeld ?_ ?_
      rotate_left
      · rintro w' ⟨s0,s1,s2,s3,s4,s5,s6,s7,s8,s9,s10,s11,s12,s13,s14,s15,s16,s17,s18,s19⟩
        go_simp
        with_reducible rfl
      rotate_left
      · simp only [Act.put,q1,q2,q3,i64_w,i32_w]
        rfl
      refine take_ (i:=6) (N:=some 12) (v:=?_) (a':=?_) #[true,true,true,true,true,true,true,true,false,true,false,true,false,true,false,false,false,false,false,false,false,false,false,false,false,false,false] rfl rfl (take_ofW HT_.out HW_.out (by kernel_rfl)) (fun _ _ _ h => h) (Or.inl ⟨by rfl,?_⟩) hHeld ?_ ?_
      rotate_left
      · rintro w' ⟨s0,s1,s2,s3,s4,s5,s6,s7,s8,s9,s10,s11,s12,s13,s14,s15,s16,s17,s18,s19⟩
        go_simp
        with_reducible rfl
      rotate_left
      · simp only [Act.put,q1,q2,q3,i64_w,i32_w]
        rfl
      refine take_ (i:=8) (N:=some 14) (v:=?_) (a':=?_) #[true,true,true,true,true,true,true,true,true,true,false,true,false,true,false,false,false,false,false,false,false,false,false,false,false,false,false] rfl rfl (take_ofW HT_.out HW_.out (by kernel_rfl)) (fun _ _ _ h => h) (Or.inl ⟨by rfl,?_⟩) hHeld ?_ ?_
      rotate_left
      · rintro w' ⟨s0,s1,s2,s3,s4,s5,s6,s7,s8,s9,s10,s11,s12,s13,s14,s15,s16,s17,s18,s19⟩
        go_simp
        with_reducible rfl
      rotate_left
      · simp only [Act.put,q1,q2,q3,i64_w,i32_w]
        rfl
      refine take_ (i:=10) (N:=some 16) (v:=?_) (a':=?_) #[true,true,true,true,true,true,true,true,true,true,true,true,false,true,false,false,false,false,false,false,false,false,false,false,false,false,false] rfl rfl (take_ofW HT_.out HW_.out (by kernel_rfl)) (fun _ _ _ h => h) (Or.inl ⟨by rfl,?_⟩) hHeld ?_ ?_
      rotate_left
      · rintro w' ⟨s0,s1,s2,s3,s4,s5,s6,s7,s8,s9,s10,s11,s12,s13,s14,s15,s16,s17,s18,s19⟩
        go_simp
        with_reducible rfl
      rotate_left
      · simp only [Act.put,q1,q2,q3,i64_w,i32_w]
        rfl
      refine take_ (i:=12) (N:=some 18) (v:=?_) (a':=?_) #[true,true,true,true,true,true,true,true,true,true,true,true,true,true,false,false,false,false,false,false,false,false,false,false,false,false,false] rfl rfl (take_ofW HT_.out HW_.out (by kernel_rfl)) (fun _ _ _ h => h) (Or.inl ⟨by rfl,?_⟩) hHeld ?_ ?_
      rotate_left
      · rintro w' ⟨s0,s1,s2,s3,s4,s5,s6,s7,s8,s9,s10,s11,s12,s13,s14,s15,s16,s17,s18,s19⟩
        go_simp
        with_reducible rfl
      rotate_left
      · simp only [Act.put,q1,q2,q3,i64_w,i32_w]
        rfl
      refine take_ (i:=14) (N:=some 20) (v:=?_) (a':=?_) #[true,true,true,true,true,true,true,true,true,true,true,true,true,true,true,false,false,false,false,false,false,false,false,false,false,false,false] rfl rfl (take_ofW HT_.out HW_.out (by kernel_rfl)) (fun _ _ _ h => h) (Or.inl ⟨by rfl,?_⟩) hHeld ?_ ?_
      rotate_left
      · rintro w' ⟨s0,s1,s2,s3,s4,s5,s6,s7,s8,s9,s10,s11,s12,s13,s14,s15,s16,s17,s18,s19⟩
        go_simp
        with_reducible rfl
      rotate_left
      · simp only [Act.put,q1,q2,q3,i64_w,i32_w]
        rfl
      refine pure_ (i:=15) (N:=some 21) (v:=?_) (a':=?_) #[true,true,true,true,true,true,true,true,true,true,true,true,true,true,true,true,false,false,false,false,false,false,false,false,false,false,false] rfl rfl (any_of HT_.out (by kernel_rfl)) (fun _ _ _ h => h) (Or.inl ⟨by rfl,?_⟩) ?_ ?_
      rotate_left
      · intro w'
        go_simp
        with_reducible rfl
      rotate_left
      · simp only [Act.put,q1,q2,q3,i64_w,i32_w]
        rfl
      refine pure_ (i:=16) (N:=some 22) (v:=?_) (a':=?_) #[true,true,true,true,true,true,true,true,true,true,true,true,true,true,true,true,true,false,false,false,false,false,false,false,false,false,false] rfl rfl (any_of HT_.out (by kernel_rfl)) (fun _ _ _ h => h) (Or.inl ⟨by rfl,?_⟩) ?_ ?_
      rotate_left
      · intro w'
        go_simp
        with_reducible rfl
      rotate_left
      · simp only [Act.put,q1,q2,q3,i64_w,i32_w]
        rfl
      refine pure_ (i:=17) (N:=some 23) (v:=?_) (a':=?_) #[true,true,true,true,true,true,true,true,true,true,true,true,true,true,true,true,true,true,false,false,false,false,false,false,false,false,false] rfl rfl (any_of HT_.out (by kernel_rfl)) (fun _ _ _ h => h) (Or.inl ⟨by rfl,?_⟩) ?_ ?_
      rotate_left
      · intro w'
        go_simp
        with_reducible rfl
      rotate_left
      · simp only [Act.put,q1,q2,q3,i64_w,i32_w]
        rfl
      refine take_ (i:=18) (N:=some 24) (v:=?_) (a':=?_) #[true,true,true,true,true,true,true,true,true,true,true,true,true,true,true,true,true,true,true,false,false,false,false,false,false,false,false] rfl rfl (take_ofW HT_.out HW_.out (by kernel_rfl)) (fun _ _ _ h => h) (Or.inl ⟨by rfl,?_⟩) hHeld ?_ ?_
      rotate_left
      · rintro w' ⟨s0,s1,s2,s3,s4,s5,s6,s7,s8,s9,s10,s11,s12,s13,s14,s15,s16,s17,s18,s19⟩
        go_simp
        with_reducible rfl
      rotate_left
      · simp only [Act.put,q1,q2,q3,i64_w,i32_w]
        rfl
      refine take_ (i:=20) (N:=some 26) (v:=?_) (a':=?_) #[true,true,true,true,true,true,true,true,true,true,true,true,true,true,true,true,true,true,true,false,true,false,false,false,false,false,false] rfl rfl (take_ofW HT_.out HW_.out (by kernel_rfl)) (fun _ _ _ h => h) (Or.inl ⟨by rfl,?_⟩) hHeld ?_ ?_
      rotate_left
      · rintro w' ⟨s0,s1,s2,s3,s4,s5,s6,s7,s8,s9,s10,s11,s12,s13,s14,s15,s16,s17,s18,s19⟩
        go_simp
        with_reducible rfl
      rotate_left
      · simp only [Act.put,q1,q2,q3,i64_w,i32_w]
        rfl
      refine one_ (i:=19) (N:=some 25) #[true,true,true,true,true,true,true,true,true,true,true,true,true,true,true,true,true,true,true,true,true,false,false,false,false,false,false] rfl rfl (one_of HT_.out (by kernel_rfl)) (by decide) (fun K hK => ?_);refine goes_ Try.func16 (by kernel_rfl) rfl #[.agg #[.int .i64 t490,.int .i64 t491,.int .i64 t492,.int .i64 t493,.int .i64 t494,.int .i64 t495,.bool t496,.int .i64 t497,.int .i64 t498,.int .i64 t499]] (by rfl) rfl rfl (by (try simp only [List.map_toArray,List.map_cons,List.map_nil]);first|done|rfl|(simp only [List.length_drop,List.length_take];rfl)) ?_
      with_reducible refine (edge_Turned.calls t490 t491 t492 t493 t494 t495 t496 t497 t498 t499 t501 t502 t503 t504 t505 t506 t507 t508 t509 t510 _ A4.out).mono ?_
      rintro e w15 ⟨rfl,hb⟩
      refine ⟨_,rfl,?_⟩;replace BK489:=am (bw (by exact BK489.out) hb);replace BK500:=am (bw (by exact BK500.out) hb);replace HB:=am (ss (by repeat (first|(with_reducible first|exact HB.out|apply sa|apply sn|apply sd|refine sy ?_ (by assumption))|exact HB.out)) hb);(try clear hb);(try clear hb2);(try clear hk);(try clear hi);refine hK.out _ _ ⟨(bc BK500.out 0).trans rfl,(bc BK500.out 1).trans rfl,(bc BK500.out 2).trans rfl,(bc BK500.out 3).trans rfl,(bc BK500.out 4).trans rfl,(bc BK500.out 5).trans rfl,(bc BK500.out 6).trans rfl,(bc BK500.out 7).trans rfl,(bc BK500.out 8).trans rfl,(bc BK500.out 9).trans rfl,(bc BK489.out 0).trans rfl,(bc BK489.out 1).trans rfl,(bc BK489.out 2).trans rfl,(bc BK489.out 3).trans rfl,(bc BK489.out 4).trans rfl,(bc BK489.out 5).trans rfl,(bc BK489.out 6).trans rfl,(bc BK489.out 7).trans rfl,(bc BK489.out 8).trans rfl,(bc BK489.out 9).trans rfl⟩ (fun hHeld => ?_);clear hK K;refine norm_ (a':=?_) ?_ ?_
      rotate_left
      · show Act.put _ (some 25) _ = _
        simp only [Act.put,q1,q2,q3,i64_w,i32_w]
        rfl
      refine pure_ (i:=21) (N:=some 27) (v:=?_) (a':=?_) #[true,true,true,true,true,true,true,true,true,true,true,true,true,true,true,true,true,true,true,true,true,true,false,false,false,false,false] rfl rfl (any_of HT_.out (by kernel_rfl)) (fun _ _ _ h => h) (Or.inl ⟨by rfl,?_⟩) ?_ ?_
      rotate_left
      · intro w'
        go_simp
        with_reducible rfl
      rotate_left
      · simp only [Act.put,q1,q2,q3,i64_w,i32_w]
        rfl
      refine pure_ (i:=22) (N:=some 28) (v:=?_) (a':=?_) #[true,true,true,true,true,true,true,true,true,true,true,true,true,true,true,true,true,true,true,true,true,true,true,false,false,false,false] rfl rfl (any_of HT_.out (by kernel_rfl)) (fun _ _ _ h => h) (Or.inl ⟨by rfl,?_⟩) ?_ ?_
      rotate_left
      · intro w'
        go_simp
        with_reducible rfl
      rotate_left
      · simp only [Act.put,q1,q2,q3,i64_w,i32_w]
        rfl
      refine pure_ (i:=23) (N:=some 29) (v:=?_) (a':=?_) #[true,true,true,true,true,true,true,true,true,true,true,true,true,true,true,true,true,true,true,true,true,true,true,true,false,false,false] rfl rfl (any_of HT_.out (by kernel_rfl)) (fun _ _ _ h => h) (Or.inl ⟨by rfl,?_⟩) ?_ ?_
      rotate_left
      · intro w'
        go_simp
        with_reducible rfl
      rotate_left
      · simp only [Act.put,q1,q2,q3,i64_w,i32_w]
        rfl
      refine one_ (i:=24) (N:=some 30) #[true,true,true,true,true,true,true,true,true,true,true,true,true,true,true,true,true,true,true,true,true,true,true,true,true,false,false] rfl rfl (one_of HT_.out (by kernel_rfl)) (by decide) (fun K hK => ?_);refine goes_ Try.func9 (by kernel_rfl) rfl #[] (by rfl) rfl rfl (by (try simp only [List.map_toArray,List.map_cons,List.map_nil]);first|done|rfl|(simp only [List.length_drop,List.length_take];rfl)) ?_
      with_reducible refine (celluloidlaw15_awake.calls k  t511 _ A6.out).mono ?_
      rintro e w16 ⟨rfl,hb⟩
      refine ⟨_,rfl,?_⟩;replace BK489:=am (bw (by exact BK489.out) hb);replace BK500:=am (bw (by exact BK500.out) hb);replace HB:=am (ss (by repeat (first|(with_reducible first|exact HB.out|apply sa|apply sn|apply sd|refine sy ?_ (by assumption))|exact HB.out)) hb);(try clear hb);(try clear hb2);(try clear hk);(try clear hi);refine hK.out _ _ ⟨(bc BK500.out 0).trans rfl,(bc BK500.out 1).trans rfl,(bc BK500.out 2).trans rfl,(bc BK500.out 3).trans rfl,(bc BK500.out 4).trans rfl,(bc BK500.out 5).trans rfl,(bc BK500.out 6).trans rfl,(bc BK500.out 7).trans rfl,(bc BK500.out 8).trans rfl,(bc BK500.out 9).trans rfl,(bc BK489.out 0).trans rfl,(bc BK489.out 1).trans rfl,(bc BK489.out 2).trans rfl,(bc BK489.out 3).trans rfl,(bc BK489.out 4).trans rfl,(bc BK489.out 5).trans rfl,(bc BK489.out 6).trans rfl,(bc BK489.out 7).trans rfl,(bc BK489.out 8).trans rfl,(bc BK489.out 9).trans rfl⟩ (fun hHeld => ?_);clear hK K;refine norm_ (a':=?_) ?_ ?_
      rotate_left
      · show Act.put _ (some 30) _ = _
        simp only [Act.put,q1,q2,q3,i64_w,i32_w]
        rfl
      refine pure_ (i:=25) (N:=some 31) (v:=?_) (a':=?_) #[true,true,true,true,true,true,true,true,true,true,true,true,true,true,true,true,true,true,true,true,true,true,true,true,true,true,false] rfl rfl (any_of HT_.out (by kernel_rfl)) (fun _ _ _ h => h) (Or.inl ⟨by rfl,?_⟩) ?_ ?_
      rotate_left
      · intro w'
        go_simp
        with_reducible rfl
      rotate_left
      · simp only [Act.put,q1,q2,q3,i64_w,i32_w]
        rfl
      refine pure_ (i:=26) (N:=some 2) (v:=?_) (a':=?_) #[true,true,true,true,true,true,true,true,true,true,true,true,true,true,true,true,true,true,true,true,true,true,true,true,true,true,true] rfl rfl (any_of HT_.out (by kernel_rfl)) (fun _ _ _ h => h) (Or.inl ⟨by rfl,?_⟩) ?_ ?_
      rotate_left
      · intro w'
        go_simp
        with_reducible rfl
      rotate_left
      · simp only [Act.put,q1,q2,q3,i64_w,i32_w]
        rfl
      refine done_ (done_of HT_.out (by kernel_rfl)) ?_
      try go_wp2
      go_ret
      exact ⟨by first|rfl|(simp [errW_none,errW_some] <;> rfl)|(simp [*,errW_none,errW_some] <;> rfl),by repeat (first|(with_reducible first|exact HB.out|apply sa|apply sn|apply sd|refine sy ?_ (by assumption))|exact HB.out)⟩
    · rw [if_neg c5] at H
      have c5b0 : ((t501 == a0_0 && (t502 == a0_1)) && ((t503 == a0_2 && (t504 == a0_3)) && ((t505 == a0_4 && (t506 == a0_5)) && (t507 == a0_6 && (t508 == a0_7 && (t509 == a0_8 && (t510 == a0_9))))))) = false:=by simpa using c5
      clear c5;obtain rfl:=Option.some.inj H
      go_enter Try.func7,Try.ntmps7
      try go_wp2_with (first|((with_reducible refine gate_dst (N:=1) rfl ?_);refine box_event ?hg (N:=1) ?hd (cs:=#[.int .i64 a0_0,.int .i64 a0_1,.int .i64 a0_2,.int .i64 a0_3,.int .i64 a0_4,.int .i64 a0_5,.bool a0_6,.int .i64 a0_7,.int .i64 a0_8,.int .i64 a0_9]) (t:=51) ?hr ?_;(case hd => rfl);(case hg => rfl);(case hr => first|(go_simp;done)|(go_simp;rfl));intro gb489 hg w17 hbox hb;have BK489:=am (hbox);have GW489:=am ((by rw [hg];exact (sz (by repeat (first|(with_reducible first|exact HB.out|apply sa|apply sn|apply sd)|exact HB.out))) : w.heap.size ≤ gb489));have GE489:=am ((by rw [hg];exact (sz (by repeat (first|(with_reducible first|exact HB.out|apply sa|apply sn|apply sd)|exact HB.out))) : w.heap.size ≤ gb489));replace HB:=am (ss (by repeat (first|(with_reducible first|exact HB.out|apply sa|apply sn|apply sd)|exact HB.out)) hb);clear hb hbox hg;obtain ⟨hcz18_0,hcz18_1,hcz18_2,hcz18_3,hcz18_4,hcz18_5,hcz18_6,hcz18_7,hcz18_8,hcz18_9⟩:=cq10 BK489.out;obtain ⟨hfz18_0,hfz18_1,hfz18_2,hfz18_3,hfz18_4,hfz18_5,hfz18_6,hfz18_7,hfz18_8,hfz18_9⟩:=fq10 BK489.out)|((with_reducible refine gate_callee (f:=16) rfl ?_);refine goesL_ (some 5) rfl rfl Try.func16 (by kernel_rfl) rfl #[.agg #[.int .i64 a0_0,.int .i64 a0_1,.int .i64 a0_2,.int .i64 a0_3,.int .i64 a0_4,.int .i64 a0_5,.bool a0_6,.int .i64 a0_7,.int .i64 a0_8,.int .i64 a0_9]] rfl (by (try simp only [List.map_toArray,List.map_cons,List.map_nil]);first|done|rfl|(simp only [List.length_drop,List.length_take];rfl)) ?_;(with_reducible refine (edge_Turned.calls a0_0 a0_1 a0_2 a0_3 a0_4 a0_5 a0_6 a0_7 a0_8 a0_9 t490 t491 t492 t493 t494 t495 t496 t497 t498 t499 _ A2.out).mono ?_);rintro e w19 ⟨rfl,hb⟩;refine ⟨_,rfl,?_⟩;replace BK489:=am (bw (by exact BK489.out) hb);replace HB:=am (ss (by repeat (first|(with_reducible first|exact HB.out|apply sa|apply sn|apply sd|refine sx ?_ GE489.out)|exact HB.out)) hb);(try clear hb);(try clear hb2);(try clear hk);(try clear hi))|((with_reducible refine gate_dst (N:=3) rfl ?_);refine box_event ?hg (N:=3) ?hd (cs:=#[.int .i64 0,.int .i64 0,.int .i64 0,.int .i64 0,.int .i64 0,.int .i64 0,.bool false,.int .i64 0,.int .i64 0,.int .i64 0]) (t:=51) ?hr ?_;(case hd => rfl);(case hg => rfl);(case hr => first|(go_simp;done)|(go_simp;rfl));intro gb500 hg w20 hbox hb;have BK500:=am (hbox);obtain ⟨h1_,GW500⟩:=sg (by repeat (first|(with_reducible first|exact HB.out|apply sa|apply sn|apply sd|refine sx ?_ GE489.out)|exact HB.out)) hb hg;replace HB:=h1_;clear h1_;have GE500:=GW500;have NB489_500:=nb (by exact BK489.out) hg;have NB500_489:=ng (by exact BK489.out) hg;replace BK489:=am (bw (by exact BK489.out) hb);clear hb hbox hg;have hnb21:=NB500_489.out;have hnc21:=NB489_500.out;obtain ⟨hcz22_0,hcz22_1,hcz22_2,hcz22_3,hcz22_4,hcz22_5,hcz22_6,hcz22_7,hcz22_8,hcz22_9⟩:=cq10 BK500.out;obtain ⟨hfz22_0,hfz22_1,hfz22_2,hfz22_3,hfz22_4,hfz22_5,hfz22_6,hfz22_7,hfz22_8,hfz22_9⟩:=fq10 BK500.out))
      have n0_ : Aside0 (((((((((((w20.setCell ⟨gb500,0,none⟩ (.int .i64 t490)).setCell ⟨gb500,1,none⟩ (.int .i64 t491)).setCell ⟨gb500,2,none⟩ (.int .i64 t492)).setCell ⟨gb500,3,none⟩ (.int .i64 t493)).setCell ⟨gb500,4,none⟩ (.int .i64 t494)).setCell ⟨gb500,5,none⟩ (.int .i64 t495)).setCell ⟨gb500,6,none⟩ (.bool t496)).setCell ⟨gb500,7,none⟩ (.int .i64 t497)).setCell ⟨gb500,8,none⟩ (.int .i64 t498)).setCell ⟨gb500,9,none⟩ (.int .i64 t499)).heap[gb489]? = some (.cells #[.int .i64 a0_0,.int .i64 a0_1,.int .i64 a0_2,.int .i64 a0_3,.int .i64 a0_4,.int .i64 a0_5,.bool a0_6,.int .i64 a0_7,.int .i64 a0_8,.int .i64 a0_9] 51 (0,0))):=⟨by (with_reducible repeat (first|refine bn ?_ _|refine bd ?_|refine ba ?_ _|refine bf ?_ NB489_500.out _));exact BK489.out⟩;have n1_ : Aside0 (((((((((((w20.setCell ⟨gb500,0,none⟩ (.int .i64 t490)).setCell ⟨gb500,1,none⟩ (.int .i64 t491)).setCell ⟨gb500,2,none⟩ (.int .i64 t492)).setCell ⟨gb500,3,none⟩ (.int .i64 t493)).setCell ⟨gb500,4,none⟩ (.int .i64 t494)).setCell ⟨gb500,5,none⟩ (.int .i64 t495)).setCell ⟨gb500,6,none⟩ (.bool t496)).setCell ⟨gb500,7,none⟩ (.int .i64 t497)).setCell ⟨gb500,8,none⟩ (.int .i64 t498)).setCell ⟨gb500,9,none⟩ (.int .i64 t499)).heap[gb500]? = some (.cells #[.int .i64 t490,.int .i64 t491,.int .i64 t492,.int .i64 t493,.int .i64 t494,.int .i64 t495,.bool t496,.int .i64 t497,.int .i64 t498,.int .i64 t499] 51 (0,0))):=⟨(bp10 BK500.out)⟩;have n2_ : Aside0 (Below w.heap.size w ((((((((((w20.setCell ⟨gb500,0,none⟩ (.int .i64 t490)).setCell ⟨gb500,1,none⟩ (.int .i64 t491)).setCell ⟨gb500,2,none⟩ (.int .i64 t492)).setCell ⟨gb500,3,none⟩ (.int .i64 t493)).setCell ⟨gb500,4,none⟩ (.int .i64 t494)).setCell ⟨gb500,5,none⟩ (.int .i64 t495)).setCell ⟨gb500,6,none⟩ (.bool t496)).setCell ⟨gb500,7,none⟩ (.int .i64 t497)).setCell ⟨gb500,8,none⟩ (.int .i64 t498)).setCell ⟨gb500,9,none⟩ (.int .i64 t499))):=⟨by repeat (first|(with_reducible first|exact HB.out|apply sa|apply sn|apply sd|refine sy ?_ (by assumption))|exact HB.out)⟩;(try clear BK489);(try clear BK500);(try clear HB);generalize ((((((((((w20.setCell ⟨gb500,0,none⟩ (.int .i64 t490)).setCell ⟨gb500,1,none⟩ (.int .i64 t491)).setCell ⟨gb500,2,none⟩ (.int .i64 t492)).setCell ⟨gb500,3,none⟩ (.int .i64 t493)).setCell ⟨gb500,4,none⟩ (.int .i64 t494)).setCell ⟨gb500,5,none⟩ (.int .i64 t495)).setCell ⟨gb500,6,none⟩ (.bool t496)).setCell ⟨gb500,7,none⟩ (.int .i64 t497)).setCell ⟨gb500,8,none⟩ (.int .i64 t498)).setCell ⟨gb500,9,none⟩ (.int .i64 t499)) = w23 at n0_ n1_ n2_ ⊢;have BK489:=n0_;have BK500:=n1_;have HB:=n2_;clear n0_ n1_ n2_;replace BK489:=am (bd BK489.out);replace BK500:=am (bd BK500.out);replace HB:=am (sd HB.out);refine start_ (n:=27) (S:=fun w' => w'.cell? ⟨gb500,0,none⟩ = some (.int .i64 t490) ∧ w'.cell? ⟨gb500,1,none⟩ = some (.int .i64 t491) ∧ w'.cell? ⟨gb500,2,none⟩ = some (.int .i64 t492) ∧ w'.cell? ⟨gb500,3,none⟩ = some (.int .i64 t493) ∧ w'.cell? ⟨gb500,4,none⟩ = some (.int .i64 t494) ∧ w'.cell? ⟨gb500,5,none⟩ = some (.int .i64 t495) ∧ w'.cell? ⟨gb500,6,none⟩ = some (.bool t496) ∧ w'.cell? ⟨gb500,7,none⟩ = some (.int .i64 t497) ∧ w'.cell? ⟨gb500,8,none⟩ = some (.int .i64 t498) ∧ w'.cell? ⟨gb500,9,none⟩ = some (.int .i64 t499) ∧ w'.cell? ⟨gb489,0,none⟩ = some (.int .i64 a0_0) ∧ w'.cell? ⟨gb489,1,none⟩ = some (.int .i64 a0_1) ∧ w'.cell? ⟨gb489,2,none⟩ = some (.int .i64 a0_2) ∧ w'.cell? ⟨gb489,3,none⟩ = some (.int .i64 a0_3) ∧ w'.cell? ⟨gb489,4,none⟩ = some (.int .i64 a0_4) ∧ w'.cell? ⟨gb489,5,none⟩ = some (.int .i64 a0_5) ∧ w'.cell? ⟨gb489,6,none⟩ = some (.bool a0_6) ∧ w'.cell? ⟨gb489,7,none⟩ = some (.int .i64 a0_7) ∧ w'.cell? ⟨gb489,8,none⟩ = some (.int .i64 a0_8) ∧ w'.cell? ⟨gb489,9,none⟩ = some (.int .i64 a0_9)) (ds:=[]) #[false,false,false,false,false,false,false,false,false,false,false,false,false,false,false,false,false,false,false,false,false,false,false,false,false,false,false] (by kernel_rfl) rfl rfl ⟨(bc BK500.out 0).trans rfl,(bc BK500.out 1).trans rfl,(bc BK500.out 2).trans rfl,(bc BK500.out 3).trans rfl,(bc BK500.out 4).trans rfl,(bc BK500.out 5).trans rfl,(bc BK500.out 6).trans rfl,(bc BK500.out 7).trans rfl,(bc BK500.out 8).trans rfl,(bc BK500.out 9).trans rfl,(bc BK489.out 0).trans rfl,(bc BK489.out 1).trans rfl,(bc BK489.out 2).trans rfl,(bc BK489.out 3).trans rfl,(bc BK489.out 4).trans rfl,(bc BK489.out 5).trans rfl,(bc BK489.out 6).trans rfl,(bc BK489.out 7).trans rfl,(bc BK489.out 8).trans rfl,(bc BK489.out 9).trans rfl⟩ (fun hHeld => ?_);refine with_tabW celluloidlaw15_EdgeTurns.tab2 celluloidlaw15_EdgeTurns.bits2 (fun HT_ HW_ => ?_);generalize w23.drew = w24 at BK489 BK500 HB hHeld ⊢;refine pure_ (i:=1) (N:=some 7) (v:=?_) (a':=?_) #[false,true,false,false,false,false,false,false,false,false,false,false,false,false,false,false,false,false,false,false,false,false,false,false,false,false,false] rfl rfl (any_of HT_.out (by kernel_rfl)) (fun _ _ _ h => h) (Or.inl ⟨by rfl,?_⟩) ?_ ?_
      rotate_left
      · intro w'
        go_simp
        with_reducible rfl
      rotate_left
      · simp only [Act.put,q1,q2,q3,i64_w,i32_w]
        rfl
      refine pure_ (i:=3) (N:=some 9) (v:=?_) (a':=?_) #[false,true,false,true,false,false,false,false,false,false,false,false,false,false,false,false,false,false,false,false,false,false,false,false,false,false,false] rfl rfl (any_of HT_.out (by kernel_rfl)) (fun _ _ _ h => h) (Or.inl ⟨by rfl,?_⟩) ?_ ?_
      rotate_left
      · intro w'
        go_simp
        with_reducible rfl
      rotate_left
      · simp only [Act.put,q1,q2,q3,i64_w,i32_w]
        rfl
      refine pure_ (i:=5) (N:=some 11) (v:=?_) (a':=?_) #[false,true,false,true,false,true,false,false,false,false,false,false,false,false,false,false,false,false,false,false,false,false,false,false,false,false,false] rfl rfl (any_of HT_.out (by kernel_rfl)) (fun _ _ _ h => h) (Or.inl ⟨by rfl,?_⟩) ?_ ?_
      rotate_left
      · intro w'
        go_simp
        with_reducible rfl
      rotate_left
      · simp only [Act.put,q1,q2,q3,i64_w,i32_w]
        rfl
      refine pure_ (i:=7) (N:=some 13) (v:=?_) (a':=?_) #[false,true,false,true,false,true,false,true,false,false,false,false,false,false,false,false,false,false,false,false,false,false,false,false,false,false,false] rfl rfl (any_of HT_.out (by kernel_rfl)) (fun _ _ _ h => h) (Or.inl ⟨by rfl,?_⟩) ?_ ?_
      rotate_left
      · intro w'
        go_simp
        with_reducible rfl
      rotate_left
      · simp only [Act.put,q1,q2,q3,i64_w,i32_w]
        rfl
      refine pure_ (i:=9) (N:=some 15) (v:=?_) (a':=?_) #[false,true,false,true,false,true,false,true,false,true,false,false,false,false,false,false,false,false,false,false,false,false,false,false,false,false,false] rfl rfl (any_of HT_.out (by kernel_rfl)) (fun _ _ _ h => h) (Or.inl ⟨by rfl,?_⟩) ?_ ?_
      rotate_left
      · intro w'
        go_simp
        with_reducible rfl
      rotate_left
      · simp only [Act.put,q1,q2,q3,i64_w,i32_w]
        rfl
      refine pure_ (i:=11) (N:=some 17) (v:=?_) (a':=?_) #[false,true,false,true,false,true,false,true,false,true,false,true,false,false,false,false,false,false,false,false,false,false,false,false,false,false,false] rfl rfl (any_of HT_.out (by kernel_rfl)) (fun _ _ _ h => h) (Or.inl ⟨by rfl,?_⟩) ?_ ?_
      rotate_left
      · intro w'
        go_simp
        with_reducible rfl
      rotate_left
      · simp only [Act.put,q1,q2,q3,i64_w,i32_w]
        rfl
      refine pure_ (i:=13) (N:=some 19) (v:=?_) (a':=?_) #[false,true,false,true,false,true,false,true,false,true,false,true,false,true,false,false,false,false,false,false,false,false,false,false,false,false,false] rfl rfl (any_of HT_.out (by kernel_rfl)) (fun _ _ _ h => h) (Or.inl ⟨by rfl,?_⟩) ?_ ?_
      rotate_left
      · intro w'
        go_simp
        with_reducible rfl
      rotate_left
      · simp only [Act.put,q1,q2,q3,i64_w,i32_w]
        rfl
      refine take_ (i:=0) (N:=some 6) (v:=?_) (a':=?_) #[true,true,false,true,false,true,false,true,false,true,false,true,false,true,false,false,false,false,false,false,false,false,false,false,false,false,false] rfl rfl (take_ofW HT_.out HW_.out (by kernel_rfl)) (fun _ _ _ h => h) (Or.inl ⟨by rfl,?_⟩) hHeld ?_ ?_
      rotate_left
      · rintro w' ⟨s0,s1,s2,s3,s4,s5,s6,s7,s8,s9,s10,s11,s12,s13,s14,s15,s16,s17,s18,s19⟩
        go_simp
        with_reducible rfl
      rotate_left
      · simp only [Act.put,q1,q2,q3,i64_w,i32_w]
        rfl
      refine take_ (i:=2) (N:=some 8) (v:=?_) (a':=?_) #[true,true,true,true,false,true,false,true,false,true,false,true,false,true,false,false,false,false,false,false,false,false,false,false,false,false,false] rfl rfl (take_ofW HT_.out HW_.out (by kernel_rfl)) (fun _ _ _ h => h) (Or.inl ⟨by rfl,?_⟩) hHeld ?_ ?_
      rotate_left
      · rintro w' ⟨s0,s1,s2,s3,s4,s5,s6,s7,s8,s9,s10,s11,s12,s13,s14,s15,s16,s17,s18,s19⟩
        go_simp
        with_reducible rfl
      rotate_left
      · simp only [Act.put,q1,q2,q3,i64_w,i32_w]
        rfl
      refine take_ (i:=4) (N:=some 10) (v:=?_) (a':=?_) #[true,true,true,true,true,true,false,true,false,true,false,true,false,true,false,false,false,false,false,false,false,false,false,false,false,false,false] rfl rfl (take_ofW HT_.out HW_.out (by kernel_rfl)) (fun _ _ _ h => h) (Or.inl ⟨by rfl,?_⟩) hHeld ?_ ?_
      rotate_left
      · rintro w' ⟨s0,s1,s2,s3,s4,s5,s6,s7,s8,s9,s10,s11,s12,s13,s14,s15,s16,s17,s18,s19⟩
        go_simp
        with_reducible rfl
      rotate_left
      · simp only [Act.put,q1,q2,q3,i64_w,i32_w]
        rfl
      refine take_ (i:=6) (N:=some 12) (v:=?_) (a':=?_) #[true,true,true,true,true,true,true,true,false,true,false,true,false,true,false,false,false,false,false,false,false,false,false,false,false,false,false] rfl rfl (take_ofW HT_.out HW_.out (by kernel_rfl)) (fun _ _ _ h => h) (Or.inl ⟨by rfl,?_⟩) hHeld ?_ ?_
      rotate_left
      · rintro w' ⟨s0,s1,s2,s3,s4,s5,s6,s7,s8,s9,s10,s11,s12,s13,s14,s15,s16,s17,s18,s19⟩
        go_simp
        with_reducible rfl
      rotate_left
      · simp only [Act.put,q1,q2,q3,i64_w,i32_w]
        rfl
      refine take_ (i:=8) (N:=some 14) (v:=?_) (a':=?_) #[true,true,true,true,true,true,true,true,true,true,false,true,false,true,false,false,false,false,false,false,false,false,false,false,false,false,false] rfl rfl (take_ofW HT_.out HW_.out (by kernel_rfl)) (fun _ _ _ h => h) (Or.inl ⟨by rfl,?_⟩) hHeld ?_ ?_
      rotate_left
      · rintro w' ⟨s0,s1,s2,s3,s4,s5,s6,s7,s8,s9,s10,s11,s12,s13,s14,s15,s16,s17,s18,s19⟩
        go_simp
        with_reducible rfl
      rotate_left
      · simp only [Act.put,q1,q2,q3,i64_w,i32_w]
        rfl
      refine take_ (i:=10) (N:=some 16) (v:=?_) (a':=?_) #[true,true,true,true,true,true,true,true,true,true,true,true,false,true,false,false,false,false,false,false,false,false,false,false,false,false,false] rfl rfl (take_ofW HT_.out HW_.out (by kernel_rfl)) (fun _ _ _ h => h) (Or.inl ⟨by rfl,?_⟩) hHeld ?_ ?_
      rotate_left
      · rintro w' ⟨s0,s1,s2,s3,s4,s5,s6,s7,s8,s9,s10,s11,s12,s13,s14,s15,s16,s17,s18,s19⟩
        go_simp
        with_reducible rfl
      rotate_left
      · simp only [Act.put,q1,q2,q3,i64_w,i32_w]
        rfl
      refine take_ (i:=12) (N:=some 18) (v:=?_) (a':=?_) #[true,true,true,true,true,true,true,true,true,true,true,true,true,true,false,false,false,false,false,false,false,false,false,false,false,false,false] rfl rfl (take_ofW HT_.out HW_.out (by kernel_rfl)) (fun _ _ _ h => h) (Or.inl ⟨by rfl,?_⟩) hHeld ?_ ?_
      rotate_left
      · rintro w' ⟨s0,s1,s2,s3,s4,s5,s6,s7,s8,s9,s10,s11,s12,s13,s14,s15,s16,s17,s18,s19⟩
        go_simp
        with_reducible rfl
      rotate_left
      · simp only [Act.put,q1,q2,q3,i64_w,i32_w]
        rfl
      refine take_ (i:=14) (N:=some 20) (v:=?_) (a':=?_) #[true,true,true,true,true,true,true,true,true,true,true,true,true,true,true,false,false,false,false,false,false,false,false,false,false,false,false] rfl rfl (take_ofW HT_.out HW_.out (by kernel_rfl)) (fun _ _ _ h => h) (Or.inl ⟨by rfl,?_⟩) hHeld ?_ ?_
      rotate_left
      · rintro w' ⟨s0,s1,s2,s3,s4,s5,s6,s7,s8,s9,s10,s11,s12,s13,s14,s15,s16,s17,s18,s19⟩
        go_simp
        with_reducible rfl
      rotate_left
      · simp only [Act.put,q1,q2,q3,i64_w,i32_w]
        rfl
      refine pure_ (i:=15) (N:=some 21) (v:=?_) (a':=?_) #[true,true,true,true,true,true,true,true,true,true,true,true,true,true,true,true,false,false,false,false,false,false,false,false,false,false,false] rfl rfl (any_of HT_.out (by kernel_rfl)) (fun _ _ _ h => h) (Or.inl ⟨by rfl,?_⟩) ?_ ?_
      rotate_left
      · intro w'
        go_simp
        with_reducible rfl
      rotate_left
      · simp only [Act.put,q1,q2,q3,i64_w,i32_w]
        rfl
      refine pure_ (i:=16) (N:=some 22) (v:=?_) (a':=?_) #[true,true,true,true,true,true,true,true,true,true,true,true,true,true,true,true,true,false,false,false,false,false,false,false,false,false,false] rfl rfl (any_of HT_.out (by kernel_rfl)) (fun _ _ _ h => h) (Or.inl ⟨by rfl,?_⟩) ?_ ?_
      rotate_left
      · intro w'
        go_simp
        with_reducible rfl
      rotate_left
      · simp only [Act.put,q1,q2,q3,i64_w,i32_w]
        rfl
      refine pure_ (i:=17) (N:=some 23) (v:=?_) (a':=?_) #[true,true,true,true,true,true,true,true,true,true,true,true,true,true,true,true,true,true,false,false,false,false,false,false,false,false,false] rfl rfl (any_of HT_.out (by kernel_rfl)) (fun _ _ _ h => h) (Or.inl ⟨by rfl,?_⟩) ?_ ?_
      rotate_left
      · intro w'
        go_simp
        with_reducible rfl
      rotate_left
      · simp only [Act.put,q1,q2,q3,i64_w,i32_w]
        rfl
      refine take_ (i:=18) (N:=some 24) (v:=?_) (a':=?_) #[true,true,true,true,true,true,true,true,true,true,true,true,true,true,true,true,true,true,true,false,false,false,false,false,false,false,false] rfl rfl (take_ofW HT_.out HW_.out (by kernel_rfl)) (fun _ _ _ h => h) (Or.inl ⟨by rfl,?_⟩) hHeld ?_ ?_
      rotate_left
      · rintro w' ⟨s0,s1,s2,s3,s4,s5,s6,s7,s8,s9,s10,s11,s12,s13,s14,s15,s16,s17,s18,s19⟩
        go_simp
        with_reducible rfl
      rotate_left
      · simp only [Act.put,q1,q2,q3,i64_w,i32_w]
        rfl
      refine take_ (i:=20) (N:=some 26) (v:=?_) (a':=?_) #[true,true,true,true,true,true,true,true,true,true,true,true,true,true,true,true,true,true,true,false,true,false,false,false,false,false,false] rfl rfl (take_ofW HT_.out HW_.out (by kernel_rfl)) (fun _ _ _ h => h) (Or.inl ⟨by rfl,?_⟩) hHeld ?_ ?_
      rotate_left
      · rintro w' ⟨s0,s1,s2,s3,s4,s5,s6,s7,s8,s9,s10,s11,s12,s13,s14,s15,s16,s17,s18,s19⟩
        go_simp
        with_reducible rfl
      rotate_left
      · simp only [Act.put,q1,q2,q3,i64_w,i32_w]
        rfl
      refine one_ (i:=19) (N:=some 25) #[true,true,true,true,true,true,true,true,true,true,true,true,true,true,true,true,true,true,true,true,true,false,false,false,false,false,false] rfl rfl (one_of HT_.out (by kernel_rfl)) (by decide) (fun K hK => ?_);refine goes_ Try.func16 (by kernel_rfl) rfl #[.agg #[.int .i64 t490,.int .i64 t491,.int .i64 t492,.int .i64 t493,.int .i64 t494,.int .i64 t495,.bool t496,.int .i64 t497,.int .i64 t498,.int .i64 t499]] (by rfl) rfl rfl (by (try simp only [List.map_toArray,List.map_cons,List.map_nil]);first|done|rfl|(simp only [List.length_drop,List.length_take];rfl)) ?_
      with_reducible refine (edge_Turned.calls t490 t491 t492 t493 t494 t495 t496 t497 t498 t499 t501 t502 t503 t504 t505 t506 t507 t508 t509 t510 _ A4.out).mono ?_
      rintro e w25 ⟨rfl,hb⟩
      refine ⟨_,rfl,?_⟩;replace BK489:=am (bw (by exact BK489.out) hb);replace BK500:=am (bw (by exact BK500.out) hb);replace HB:=am (ss (by repeat (first|(with_reducible first|exact HB.out|apply sa|apply sn|apply sd|refine sy ?_ (by assumption))|exact HB.out)) hb);(try clear hb);(try clear hb2);(try clear hk);(try clear hi);refine hK.out _ _ ⟨(bc BK500.out 0).trans rfl,(bc BK500.out 1).trans rfl,(bc BK500.out 2).trans rfl,(bc BK500.out 3).trans rfl,(bc BK500.out 4).trans rfl,(bc BK500.out 5).trans rfl,(bc BK500.out 6).trans rfl,(bc BK500.out 7).trans rfl,(bc BK500.out 8).trans rfl,(bc BK500.out 9).trans rfl,(bc BK489.out 0).trans rfl,(bc BK489.out 1).trans rfl,(bc BK489.out 2).trans rfl,(bc BK489.out 3).trans rfl,(bc BK489.out 4).trans rfl,(bc BK489.out 5).trans rfl,(bc BK489.out 6).trans rfl,(bc BK489.out 7).trans rfl,(bc BK489.out 8).trans rfl,(bc BK489.out 9).trans rfl⟩ (fun hHeld => ?_);clear hK K;refine norm_ (a':=?_) ?_ ?_
      rotate_left
      · show Act.put _ (some 25) _ = _
        simp only [Act.put,q1,q2,q3,i64_w,i32_w]
        rfl
      refine pure_ (i:=21) (N:=some 27) (v:=?_) (a':=?_) #[true,true,true,true,true,true,true,true,true,true,true,true,true,true,true,true,true,true,true,true,true,true,false,false,false,false,false] rfl rfl (any_of HT_.out (by kernel_rfl)) (fun _ _ _ h => h) (Or.inl ⟨by rfl,?_⟩) ?_ ?_
      rotate_left
      · intro w'
        go_simp
        with_reducible rfl
      rotate_left
      · simp only [Act.put,q1,q2,q3,i64_w,i32_w]
        rfl
      refine pure_ (i:=22) (N:=some 28) (v:=?_) (a':=?_) #[true,true,true,true,true,true,true,true,true,true,true,true,true,true,true,true,true,true,true,true,true,true,true,false,false,false,false] rfl rfl (any_of HT_.out (by kernel_rfl)) (fun _ _ _ h => h) (Or.inl ⟨by rfl,?_⟩) ?_ ?_
      rotate_left
      · intro w'
        go_simp
        with_reducible rfl
      rotate_left
      · simp only [Act.put,q1,q2,q3,i64_w,i32_w]
        rfl
      refine pure_ (i:=23) (N:=some 29) (v:=?_) (a':=?_) #[true,true,true,true,true,true,true,true,true,true,true,true,true,true,true,true,true,true,true,true,true,true,true,true,false,false,false] rfl rfl (any_of HT_.out (by kernel_rfl)) (fun _ _ _ h => h) (Or.inl ⟨by rfl,?_⟩) ?_ ?_
      rotate_left
      · intro w'
        go_simp
        with_reducible rfl
      rotate_left
      · simp only [Act.put,q1,q2,q3,i64_w,i32_w]
        rfl
      refine pure_ (i:=24) (N:=some 30) (v:=undef) (a':=?_) #[true,true,true,true,true,true,true,true,true,true,true,true,true,true,true,true,true,true,true,true,true,true,true,true,true,false,false] rfl rfl (any_of HT_.out (by kernel_rfl)) (fun _ _ _ h => h) (Or.inr ⟨by rfl,rfl⟩) ?_ ?_
      rotate_left
      · simp only [Act.put,q1,q2,q3,i64_w,i32_w]
        rfl
      refine pure_ (i:=25) (N:=some 31) (v:=?_) (a':=?_) #[true,true,true,true,true,true,true,true,true,true,true,true,true,true,true,true,true,true,true,true,true,true,true,true,true,true,false] rfl rfl (any_of HT_.out (by kernel_rfl)) (fun _ _ _ h => h) (Or.inl ⟨by rfl,?_⟩) ?_ ?_
      rotate_left
      · intro w'
        go_simp
        with_reducible rfl
      rotate_left
      · simp only [Act.put,q1,q2,q3,i64_w,i32_w]
        rfl
      refine pure_ (i:=26) (N:=some 2) (v:=?_) (a':=?_) #[true,true,true,true,true,true,true,true,true,true,true,true,true,true,true,true,true,true,true,true,true,true,true,true,true,true,true] rfl rfl (any_of HT_.out (by kernel_rfl)) (fun _ _ _ h => h) (Or.inl ⟨by rfl,?_⟩) ?_ ?_
      rotate_left
      · intro w'
        go_simp
        with_reducible rfl
      rotate_left
      · simp only [Act.put,q1,q2,q3,i64_w,i32_w]
        rfl
      refine done_ (done_of HT_.out (by kernel_rfl)) ?_
      try go_wp2
      go_ret
      exact ⟨by first|rfl|(simp [errW_none,errW_some] <;> rfl)|(simp [*,errW_none,errW_some] <;> rfl),by repeat (first|(with_reducible first|exact HB.out|apply sa|apply sn|apply sd|refine sy ?_ (by assumption))|exact HB.out)⟩
  · rw [if_neg c3] at H
    have c3b0 : ((t490 == a0_4 && (t491 == a0_5)) && ((t492 == a0_2 && (t493 == a0_3)) && ((t494 == a0_0 && (t495 == a0_1)) && (t496 == a0_6 && (t497 == a0_8 && (t498 == a0_7 && (t499 == a0_9))))))) = false:=by simpa using c3
    clear c3;obtain rfl:=Option.some.inj H
    go_enter Try.func7,Try.ntmps7
    try go_wp2_with (first|((with_reducible refine gate_dst (N:=1) rfl ?_);refine box_event ?hg (N:=1) ?hd (cs:=#[.int .i64 a0_0,.int .i64 a0_1,.int .i64 a0_2,.int .i64 a0_3,.int .i64 a0_4,.int .i64 a0_5,.bool a0_6,.int .i64 a0_7,.int .i64 a0_8,.int .i64 a0_9]) (t:=51) ?hr ?_;(case hd => rfl);(case hg => rfl);(case hr => first|(go_simp;done)|(go_simp;rfl));intro gb489 hg w26 hbox hb;have BK489:=am (hbox);have GW489:=am ((by rw [hg];exact (sz (by repeat (first|(with_reducible first|exact HB.out|apply sa|apply sn|apply sd)|exact HB.out))) : w.heap.size ≤ gb489));have GE489:=am ((by rw [hg];exact (sz (by repeat (first|(with_reducible first|exact HB.out|apply sa|apply sn|apply sd)|exact HB.out))) : w.heap.size ≤ gb489));replace HB:=am (ss (by repeat (first|(with_reducible first|exact HB.out|apply sa|apply sn|apply sd)|exact HB.out)) hb);clear hb hbox hg;obtain ⟨hcz27_0,hcz27_1,hcz27_2,hcz27_3,hcz27_4,hcz27_5,hcz27_6,hcz27_7,hcz27_8,hcz27_9⟩:=cq10 BK489.out;obtain ⟨hfz27_0,hfz27_1,hfz27_2,hfz27_3,hfz27_4,hfz27_5,hfz27_6,hfz27_7,hfz27_8,hfz27_9⟩:=fq10 BK489.out)|((with_reducible refine gate_callee (f:=16) rfl ?_);refine goesL_ (some 5) rfl rfl Try.func16 (by kernel_rfl) rfl #[.agg #[.int .i64 a0_0,.int .i64 a0_1,.int .i64 a0_2,.int .i64 a0_3,.int .i64 a0_4,.int .i64 a0_5,.bool a0_6,.int .i64 a0_7,.int .i64 a0_8,.int .i64 a0_9]] rfl (by (try simp only [List.map_toArray,List.map_cons,List.map_nil]);first|done|rfl|(simp only [List.length_drop,List.length_take];rfl)) ?_;(with_reducible refine (edge_Turned.calls a0_0 a0_1 a0_2 a0_3 a0_4 a0_5 a0_6 a0_7 a0_8 a0_9 t490 t491 t492 t493 t494 t495 t496 t497 t498 t499 _ A2.out).mono ?_);rintro e w28 ⟨rfl,hb⟩;refine ⟨_,rfl,?_⟩;replace BK489:=am (bw (by exact BK489.out) hb);replace HB:=am (ss (by repeat (first|(with_reducible first|exact HB.out|apply sa|apply sn|apply sd|refine sx ?_ GE489.out)|exact HB.out)) hb);(try clear hb);(try clear hb2);(try clear hk);(try clear hi))|((with_reducible refine gate_dst (N:=3) rfl ?_);refine box_event ?hg (N:=3) ?hd (cs:=#[.int .i64 0,.int .i64 0,.int .i64 0,.int .i64 0,.int .i64 0,.int .i64 0,.bool false,.int .i64 0,.int .i64 0,.int .i64 0]) (t:=51) ?hr ?_;(case hd => rfl);(case hg => rfl);(case hr => first|(go_simp;done)|(go_simp;rfl));intro gb500 hg w29 hbox hb;have BK500:=am (hbox);obtain ⟨h1_,GW500⟩:=sg (by repeat (first|(with_reducible first|exact HB.out|apply sa|apply sn|apply sd|refine sx ?_ GE489.out)|exact HB.out)) hb hg;replace HB:=h1_;clear h1_;have GE500:=GW500;have NB489_500:=nb (by exact BK489.out) hg;have NB500_489:=ng (by exact BK489.out) hg;replace BK489:=am (bw (by exact BK489.out) hb);clear hb hbox hg;have hnb30:=NB500_489.out;have hnc30:=NB489_500.out;obtain ⟨hcz31_0,hcz31_1,hcz31_2,hcz31_3,hcz31_4,hcz31_5,hcz31_6,hcz31_7,hcz31_8,hcz31_9⟩:=cq10 BK500.out;obtain ⟨hfz31_0,hfz31_1,hfz31_2,hfz31_3,hfz31_4,hfz31_5,hfz31_6,hfz31_7,hfz31_8,hfz31_9⟩:=fq10 BK500.out))
    have n0_ : Aside0 (((((((((((w29.setCell ⟨gb500,0,none⟩ (.int .i64 t490)).setCell ⟨gb500,1,none⟩ (.int .i64 t491)).setCell ⟨gb500,2,none⟩ (.int .i64 t492)).setCell ⟨gb500,3,none⟩ (.int .i64 t493)).setCell ⟨gb500,4,none⟩ (.int .i64 t494)).setCell ⟨gb500,5,none⟩ (.int .i64 t495)).setCell ⟨gb500,6,none⟩ (.bool t496)).setCell ⟨gb500,7,none⟩ (.int .i64 t497)).setCell ⟨gb500,8,none⟩ (.int .i64 t498)).setCell ⟨gb500,9,none⟩ (.int .i64 t499)).heap[gb489]? = some (.cells #[.int .i64 a0_0,.int .i64 a0_1,.int .i64 a0_2,.int .i64 a0_3,.int .i64 a0_4,.int .i64 a0_5,.bool a0_6,.int .i64 a0_7,.int .i64 a0_8,.int .i64 a0_9] 51 (0,0))):=⟨by (with_reducible repeat (first|refine bn ?_ _|refine bd ?_|refine ba ?_ _|refine bf ?_ NB489_500.out _));exact BK489.out⟩;have n1_ : Aside0 (((((((((((w29.setCell ⟨gb500,0,none⟩ (.int .i64 t490)).setCell ⟨gb500,1,none⟩ (.int .i64 t491)).setCell ⟨gb500,2,none⟩ (.int .i64 t492)).setCell ⟨gb500,3,none⟩ (.int .i64 t493)).setCell ⟨gb500,4,none⟩ (.int .i64 t494)).setCell ⟨gb500,5,none⟩ (.int .i64 t495)).setCell ⟨gb500,6,none⟩ (.bool t496)).setCell ⟨gb500,7,none⟩ (.int .i64 t497)).setCell ⟨gb500,8,none⟩ (.int .i64 t498)).setCell ⟨gb500,9,none⟩ (.int .i64 t499)).heap[gb500]? = some (.cells #[.int .i64 t490,.int .i64 t491,.int .i64 t492,.int .i64 t493,.int .i64 t494,.int .i64 t495,.bool t496,.int .i64 t497,.int .i64 t498,.int .i64 t499] 51 (0,0))):=⟨(bp10 BK500.out)⟩;have n2_ : Aside0 (Below w.heap.size w ((((((((((w29.setCell ⟨gb500,0,none⟩ (.int .i64 t490)).setCell ⟨gb500,1,none⟩ (.int .i64 t491)).setCell ⟨gb500,2,none⟩ (.int .i64 t492)).setCell ⟨gb500,3,none⟩ (.int .i64 t493)).setCell ⟨gb500,4,none⟩ (.int .i64 t494)).setCell ⟨gb500,5,none⟩ (.int .i64 t495)).setCell ⟨gb500,6,none⟩ (.bool t496)).setCell ⟨gb500,7,none⟩ (.int .i64 t497)).setCell ⟨gb500,8,none⟩ (.int .i64 t498)).setCell ⟨gb500,9,none⟩ (.int .i64 t499))):=⟨by repeat (first|(with_reducible first|exact HB.out|apply sa|apply sn|apply sd|refine sy ?_ (by assumption))|exact HB.out)⟩;(try clear BK489);(try clear BK500);(try clear HB);generalize ((((((((((w29.setCell ⟨gb500,0,none⟩ (.int .i64 t490)).setCell ⟨gb500,1,none⟩ (.int .i64 t491)).setCell ⟨gb500,2,none⟩ (.int .i64 t492)).setCell ⟨gb500,3,none⟩ (.int .i64 t493)).setCell ⟨gb500,4,none⟩ (.int .i64 t494)).setCell ⟨gb500,5,none⟩ (.int .i64 t495)).setCell ⟨gb500,6,none⟩ (.bool t496)).setCell ⟨gb500,7,none⟩ (.int .i64 t497)).setCell ⟨gb500,8,none⟩ (.int .i64 t498)).setCell ⟨gb500,9,none⟩ (.int .i64 t499)) = w32 at n0_ n1_ n2_ ⊢;have BK489:=n0_;have BK500:=n1_;have HB:=n2_;clear n0_ n1_ n2_;replace BK489:=am (bd BK489.out);replace BK500:=am (bd BK500.out);replace HB:=am (sd HB.out);refine start_ (n:=27) (S:=fun w' => w'.cell? ⟨gb500,0,none⟩ = some (.int .i64 t490) ∧ w'.cell? ⟨gb500,1,none⟩ = some (.int .i64 t491) ∧ w'.cell? ⟨gb500,2,none⟩ = some (.int .i64 t492) ∧ w'.cell? ⟨gb500,3,none⟩ = some (.int .i64 t493) ∧ w'.cell? ⟨gb500,4,none⟩ = some (.int .i64 t494) ∧ w'.cell? ⟨gb500,5,none⟩ = some (.int .i64 t495) ∧ w'.cell? ⟨gb500,6,none⟩ = some (.bool t496) ∧ w'.cell? ⟨gb500,7,none⟩ = some (.int .i64 t497) ∧ w'.cell? ⟨gb500,8,none⟩ = some (.int .i64 t498) ∧ w'.cell? ⟨gb500,9,none⟩ = some (.int .i64 t499) ∧ w'.cell? ⟨gb489,0,none⟩ = some (.int .i64 a0_0) ∧ w'.cell? ⟨gb489,1,none⟩ = some (.int .i64 a0_1) ∧ w'.cell? ⟨gb489,2,none⟩ = some (.int .i64 a0_2) ∧ w'.cell? ⟨gb489,3,none⟩ = some (.int .i64 a0_3) ∧ w'.cell? ⟨gb489,4,none⟩ = some (.int .i64 a0_4) ∧ w'.cell? ⟨gb489,5,none⟩ = some (.int .i64 a0_5) ∧ w'.cell? ⟨gb489,6,none⟩ = some (.bool a0_6) ∧ w'.cell? ⟨gb489,7,none⟩ = some (.int .i64 a0_7) ∧ w'.cell? ⟨gb489,8,none⟩ = some (.int .i64 a0_8) ∧ w'.cell? ⟨gb489,9,none⟩ = some (.int .i64 a0_9)) (ds:=[]) #[false,false,false,false,false,false,false,false,false,false,false,false,false,false,false,false,false,false,false,false,false,false,false,false,false,false,false] (by kernel_rfl) rfl rfl ⟨(bc BK500.out 0).trans rfl,(bc BK500.out 1).trans rfl,(bc BK500.out 2).trans rfl,(bc BK500.out 3).trans rfl,(bc BK500.out 4).trans rfl,(bc BK500.out 5).trans rfl,(bc BK500.out 6).trans rfl,(bc BK500.out 7).trans rfl,(bc BK500.out 8).trans rfl,(bc BK500.out 9).trans rfl,(bc BK489.out 0).trans rfl,(bc BK489.out 1).trans rfl,(bc BK489.out 2).trans rfl,(bc BK489.out 3).trans rfl,(bc BK489.out 4).trans rfl,(bc BK489.out 5).trans rfl,(bc BK489.out 6).trans rfl,(bc BK489.out 7).trans rfl,(bc BK489.out 8).trans rfl,(bc BK489.out 9).trans rfl⟩ (fun hHeld => ?_);refine with_tabW celluloidlaw15_EdgeTurns.tab2 celluloidlaw15_EdgeTurns.bits2 (fun HT_ HW_ => ?_);generalize w32.drew = w33 at BK489 BK500 HB hHeld ⊢;refine pure_ (i:=1) (N:=some 7) (v:=?_) (a':=?_) #[false,true,false,false,false,false,false,false,false,false,false,false,false,false,false,false,false,false,false,false,false,false,false,false,false,false,false] rfl rfl (any_of HT_.out (by kernel_rfl)) (fun _ _ _ h => h) (Or.inl ⟨by rfl,?_⟩) ?_ ?_
    rotate_left
    · intro w'
      go_simp
      with_reducible rfl
    rotate_left
    · simp only [Act.put,q1,q2,q3,i64_w,i32_w]
      rfl
    refine pure_ (i:=3) (N:=some 9) (v:=?_) (a':=?_) #[false,true,false,true,false,false,false,false,false,false,false,false,false,false,false,false,false,false,false,false,false,false,false,false,false,false,false] rfl rfl (any_of HT_.out (by kernel_rfl)) (fun _ _ _ h => h) (Or.inl ⟨by rfl,?_⟩) ?_ ?_
    rotate_left
    · intro w'
      go_simp
      with_reducible rfl
    rotate_left
    · simp only [Act.put,q1,q2,q3,i64_w,i32_w]
      rfl
    refine pure_ (i:=5) (N:=some 11) (v:=?_) (a':=?_) #[false,true,false,true,false,true,false,false,false,false,false,false,false,false,false,false,false,false,false,false,false,false,false,false,false,false,false] rfl rfl (any_of HT_.out (by kernel_rfl)) (fun _ _ _ h => h) (Or.inl ⟨by rfl,?_⟩) ?_ ?_
    rotate_left
    · intro w'
      go_simp
      with_reducible rfl
    rotate_left
    · simp only [Act.put,q1,q2,q3,i64_w,i32_w]
      rfl
    refine pure_ (i:=7) (N:=some 13) (v:=?_) (a':=?_) #[false,true,false,true,false,true,false,true,false,false,false,false,false,false,false,false,false,false,false,false,false,false,false,false,false,false,false] rfl rfl (any_of HT_.out (by kernel_rfl)) (fun _ _ _ h => h) (Or.inl ⟨by rfl,?_⟩) ?_ ?_
    rotate_left
    · intro w'
      go_simp
      with_reducible rfl
    rotate_left
    · simp only [Act.put,q1,q2,q3,i64_w,i32_w]
      rfl
    refine pure_ (i:=9) (N:=some 15) (v:=?_) (a':=?_) #[false,true,false,true,false,true,false,true,false,true,false,false,false,false,false,false,false,false,false,false,false,false,false,false,false,false,false] rfl rfl (any_of HT_.out (by kernel_rfl)) (fun _ _ _ h => h) (Or.inl ⟨by rfl,?_⟩) ?_ ?_
    rotate_left
    · intro w'
      go_simp
      with_reducible rfl
    rotate_left
    · simp only [Act.put,q1,q2,q3,i64_w,i32_w]
      rfl
    refine pure_ (i:=11) (N:=some 17) (v:=?_) (a':=?_) #[false,true,false,true,false,true,false,true,false,true,false,true,false,false,false,false,false,false,false,false,false,false,false,false,false,false,false] rfl rfl (any_of HT_.out (by kernel_rfl)) (fun _ _ _ h => h) (Or.inl ⟨by rfl,?_⟩) ?_ ?_
    rotate_left
    · intro w'
      go_simp
      with_reducible rfl
    rotate_left
    · simp only [Act.put,q1,q2,q3,i64_w,i32_w]
      rfl
    refine pure_ (i:=13) (N:=some 19) (v:=?_) (a':=?_) #[false,true,false,true,false,true,false,true,false,true,false,true,false,true,false,false,false,false,false,false,false,false,false,false,false,false,false] rfl rfl (any_of HT_.out (by kernel_rfl)) (fun _ _ _ h => h) (Or.inl ⟨by rfl,?_⟩) ?_ ?_
    rotate_left
    · intro w'
      go_simp
      with_reducible rfl
    rotate_left
    · simp only [Act.put,q1,q2,q3,i64_w,i32_w]
      rfl
    refine take_ (i:=0) (N:=some 6) (v:=?_) (a':=?_) #[true,true,false,true,false,true,false,true,false,true,false,true,false,true,false,false,false,false,false,false,false,false,false,false,false,false,false] rfl rfl (take_ofW HT_.out HW_.out (by kernel_rfl)) (fun _ _ _ h => h) (Or.inl ⟨by rfl,?_⟩) hHeld ?_ ?_
    rotate_left
    · rintro w' ⟨s0,s1,s2,s3,s4,s5,s6,s7,s8,s9,s10,s11,s12,s13,s14,s15,s16,s17,s18,s19⟩
      go_simp
      with_reducible rfl
    rotate_left
    · simp only [Act.put,q1,q2,q3,i64_w,i32_w]
      rfl
    refine take_ (i:=2) (N:=some 8) (v:=?_) (a':=?_) #[true,true,true,true,false,true,false,true,false,true,false,true,false,true,false,false,false,false,false,false,false,false,false,false,false,false,false] rfl rfl (take_ofW HT_.out HW_.out (by kernel_rfl)) (fun _ _ _ h => h) (Or.inl ⟨by rfl,?_⟩) hHeld ?_ ?_
    rotate_left
    · rintro w' ⟨s0,s1,s2,s3,s4,s5,s6,s7,s8,s9,s10,s11,s12,s13,s14,s15,s16,s17,s18,s19⟩
      go_simp
      with_reducible rfl
    rotate_left
    · simp only [Act.put,q1,q2,q3,i64_w,i32_w]
      rfl
    refine take_ (i:=4) (N:=some 10) (v:=?_) (a':=?_) #[true,true,true,true,true,true,false,true,false,true,false,true,false,true,false,false,false,false,false,false,false,false,false,false,false,false,false] rfl rfl (take_ofW HT_.out HW_.out (by kernel_rfl)) (fun _ _ _ h => h) (Or.inl ⟨by rfl,?_⟩) hHeld ?_ ?_
    rotate_left
    · rintro w' ⟨s0,s1,s2,s3,s4,s5,s6,s7,s8,s9,s10,s11,s12,s13,s14,s15,s16,s17,s18,s19⟩
      go_simp
      with_reducible rfl
    rotate_left
    · simp only [Act.put,q1,q2,q3,i64_w,i32_w]
      rfl
    refine take_ (i:=6) (N:=some 12) (v:=?_) (a':=?_) #[true,true,true,true,true,true,true,true,false,true,false,true,false,true,false,false,false,false,false,false,false,false,false,false,false,false,false] rfl rfl (take_ofW HT_.out HW_.out (by kernel_rfl)) (fun _ _ _ h => h) (Or.inl ⟨by rfl,?_⟩) hHeld ?_ ?_
    rotate_left
    · rintro w' ⟨s0,s1,s2,s3,s4,s5,s6,s7,s8,s9,s10,s11,s12,s13,s14,s15,s16,s17,s18,s19⟩
      go_simp
      with_reducible rfl
    rotate_left
    · simp only [Act.put,q1,q2,q3,i64_w,i32_w]
      rfl
    refine take_ (i:=8) (N:=some 14) (v:=?_) (a':=?_) #[true,true,true,true,true,true,true,true,true,true,false,true,false,true,false,false,false,false,false,false,false,false,false,false,false,false,false] rfl rfl (take_ofW HT_.out HW_.out (by kernel_rfl)) (fun _ _ _ h => h) (Or.inl ⟨by rfl,?_⟩) hHeld ?_ ?_
    rotate_left
    · rintro w' ⟨s0,s1,s2,s3,s4,s5,s6,s7,s8,s9,s10,s11,s12,s13,s14,s15,s16,s17,s18,s19⟩
      go_simp
      with_reducible rfl
    rotate_left
    · simp only [Act.put,q1,q2,q3,i64_w,i32_w]
      rfl
    refine take_ (i:=10) (N:=some 16) (v:=?_) (a':=?_) #[true,true,true,true,true,true,true,true,true,true,true,true,false,true,false,false,false,false,false,false,false,false,false,false,false,false,false] rfl rfl (take_ofW HT_.out HW_.out (by kernel_rfl)) (fun _ _ _ h => h) (Or.inl ⟨by rfl,?_⟩) hHeld ?_ ?_
    rotate_left
    · rintro w' ⟨s0,s1,s2,s3,s4,s5,s6,s7,s8,s9,s10,s11,s12,s13,s14,s15,s16,s17,s18,s19⟩
      go_simp
      with_reducible rfl
    rotate_left
    · simp only [Act.put,q1,q2,q3,i64_w,i32_w]
      rfl
    refine take_ (i:=12) (N:=some 18) (v:=?_) (a':=?_) #[true,true,true,true,true,true,true,true,true,true,true,true,true,true,false,false,false,false,false,false,false,false,false,false,false,false,false] rfl rfl (take_ofW HT_.out HW_.out (by kernel_rfl)) (fun _ _ _ h => h) (Or.inl ⟨by rfl,?_⟩) hHeld ?_ ?_
    rotate_left
    · rintro w' ⟨s0,s1,s2,s3,s4,s5,s6,s7,s8,s9,s10,s11,s12,s13,s14,s15,s16,s17,s18,s19⟩
      go_simp
      with_reducible rfl
    rotate_left
    · simp only [Act.put,q1,q2,q3,i64_w,i32_w]
      rfl
    refine take_ (i:=14) (N:=some 20) (v:=?_) (a':=?_) #[true,true,true,true,true,true,true,true,true,true,true,true,true,true,true,false,false,false,false,false,false,false,false,false,false,false,false] rfl rfl (take_ofW HT_.out HW_.out (by kernel_rfl)) (fun _ _ _ h => h) (Or.inl ⟨by rfl,?_⟩) hHeld ?_ ?_
    rotate_left
    · rintro w' ⟨s0,s1,s2,s3,s4,s5,s6,s7,s8,s9,s10,s11,s12,s13,s14,s15,s16,s17,s18,s19⟩
      go_simp
      with_reducible rfl
    rotate_left
    · simp only [Act.put,q1,q2,q3,i64_w,i32_w]
      rfl
    refine pure_ (i:=15) (N:=some 21) (v:=?_) (a':=?_) #[true,true,true,true,true,true,true,true,true,true,true,true,true,true,true,true,false,false,false,false,false,false,false,false,false,false,false] rfl rfl (any_of HT_.out (by kernel_rfl)) (fun _ _ _ h => h) (Or.inl ⟨by rfl,?_⟩) ?_ ?_
    rotate_left
    · intro w'
      go_simp
      with_reducible rfl
    rotate_left
    · simp only [Act.put,q1,q2,q3,i64_w,i32_w]
      rfl
    refine pure_ (i:=16) (N:=some 22) (v:=?_) (a':=?_) #[true,true,true,true,true,true,true,true,true,true,true,true,true,true,true,true,true,false,false,false,false,false,false,false,false,false,false] rfl rfl (any_of HT_.out (by kernel_rfl)) (fun _ _ _ h => h) (Or.inl ⟨by rfl,?_⟩) ?_ ?_
    rotate_left
    · intro w'
      go_simp
      with_reducible rfl
    rotate_left
    · simp only [Act.put,q1,q2,q3,i64_w,i32_w]
      rfl
    refine pure_ (i:=17) (N:=some 23) (v:=?_) (a':=?_) #[true,true,true,true,true,true,true,true,true,true,true,true,true,true,true,true,true,true,false,false,false,false,false,false,false,false,false] rfl rfl (any_of HT_.out (by kernel_rfl)) (fun _ _ _ h => h) (Or.inl ⟨by rfl,?_⟩) ?_ ?_
    rotate_left
    · intro w'
      go_simp
      with_reducible rfl
    rotate_left
    · simp only [Act.put,q1,q2,q3,i64_w,i32_w]
      rfl
    refine pure_ (i:=18) (N:=some 24) (v:=undef) (a':=?_) #[true,true,true,true,true,true,true,true,true,true,true,true,true,true,true,true,true,true,true,false,false,false,false,false,false,false,false] rfl rfl (any_of HT_.out (by kernel_rfl)) (fun _ _ _ h => h) (Or.inr ⟨by rfl,rfl⟩) ?_ ?_
    rotate_left
    · simp only [Act.put,q1,q2,q3,i64_w,i32_w]
      rfl
    refine pure_ (i:=19) (N:=some 25) (v:=undef) (a':=?_) #[true,true,true,true,true,true,true,true,true,true,true,true,true,true,true,true,true,true,true,true,false,false,false,false,false,false,false] rfl rfl (any_of HT_.out (by kernel_rfl)) (fun _ _ _ h => h) (Or.inr ⟨by rfl,rfl⟩) ?_ ?_
    rotate_left
    · simp only [Act.put,q1,q2,q3,i64_w,i32_w]
      rfl
    refine pure_ (i:=20) (N:=some 26) (v:=undef) (a':=?_) #[true,true,true,true,true,true,true,true,true,true,true,true,true,true,true,true,true,true,true,true,true,false,false,false,false,false,false] rfl rfl (any_of HT_.out (by kernel_rfl)) (fun _ _ _ h => h) (Or.inr ⟨by rfl,rfl⟩) ?_ ?_
    rotate_left
    · simp only [Act.put,q1,q2,q3,i64_w,i32_w]
      rfl
    refine pure_ (i:=21) (N:=some 27) (v:=undef) (a':=?_) #[true,true,true,true,true,true,true,true,true,true,true,true,true,true,true,true,true,true,true,true,true,true,false,false,false,false,false] rfl rfl (any_of HT_.out (by kernel_rfl)) (fun _ _ _ h => h) (Or.inr ⟨by rfl,rfl⟩) ?_ ?_
    rotate_left
    · simp only [Act.put,q1,q2,q3,i64_w,i32_w]
      rfl
    refine pure_ (i:=22) (N:=some 28) (v:=?_) (a':=?_) #[true,true,true,true,true,true,true,true,true,true,true,true,true,true,true,true,true,true,true,true,true,true,true,false,false,false,false] rfl rfl (any_of HT_.out (by kernel_rfl)) (fun _ _ _ h => h) (Or.inl ⟨by rfl,?_⟩) ?_ ?_
    rotate_left
    · intro w'
      go_simp
      with_reducible rfl
    rotate_left
    · simp only [Act.put,q1,q2,q3,i64_w,i32_w]
      rfl
    refine pure_ (i:=23) (N:=some 29) (v:=?_) (a':=?_) #[true,true,true,true,true,true,true,true,true,true,true,true,true,true,true,true,true,true,true,true,true,true,true,true,false,false,false] rfl rfl (any_of HT_.out (by kernel_rfl)) (fun _ _ _ h => h) (Or.inl ⟨by rfl,?_⟩) ?_ ?_
    rotate_left
    · intro w'
      go_simp
      with_reducible rfl
    rotate_left
    · simp only [Act.put,q1,q2,q3,i64_w,i32_w]
      rfl
    refine pure_ (i:=24) (N:=some 30) (v:=undef) (a':=?_) #[true,true,true,true,true,true,true,true,true,true,true,true,true,true,true,true,true,true,true,true,true,true,true,true,true,false,false] rfl rfl (any_of HT_.out (by kernel_rfl)) (fun _ _ _ h => h) (Or.inr ⟨by rfl,rfl⟩) ?_ ?_
    rotate_left
    · simp only [Act.put,q1,q2,q3,i64_w,i32_w]
      rfl
    refine pure_ (i:=25) (N:=some 31) (v:=?_) (a':=?_) #[true,true,true,true,true,true,true,true,true,true,true,true,true,true,true,true,true,true,true,true,true,true,true,true,true,true,false] rfl rfl (any_of HT_.out (by kernel_rfl)) (fun _ _ _ h => h) (Or.inl ⟨by rfl,?_⟩) ?_ ?_
    rotate_left
    · intro w'
      go_simp
      with_reducible rfl
    rotate_left
    · simp only [Act.put,q1,q2,q3,i64_w,i32_w]
      rfl
    refine pure_ (i:=26) (N:=some 2) (v:=?_) (a':=?_) #[true,true,true,true,true,true,true,true,true,true,true,true,true,true,true,true,true,true,true,true,true,true,true,true,true,true,true] rfl rfl (any_of HT_.out (by kernel_rfl)) (fun _ _ _ h => h) (Or.inl ⟨by rfl,?_⟩) ?_ ?_
    rotate_left
    · intro w'
      go_simp
      with_reducible rfl
    rotate_left
    · simp only [Act.put,q1,q2,q3,i64_w,i32_w]
      rfl
    refine done_ (done_of HT_.out (by kernel_rfl)) ?_
    try go_wp2
    go_ret
    exact ⟨by first|rfl|(simp [errW_none,errW_some] <;> rfl)|(simp [*,errW_none,errW_some] <;> rfl),by repeat (first|(with_reducible first|exact HB.out|apply sa|apply sn|apply sd|refine sy ?_ (by assumption))|exact HB.out)⟩

end Go.Proofs.Ytlldbmodidhidaa.P
