/- Printed by printx.py (wip/tool) out of the translation: plain functions that tell what the program answers,and the proofs that the program comes to these answers,for all arguments of their kinds. Lean checks it. -/
import Derived.Test.YtaognlikgbcejaaShort
import Derived.Test.YtaognlikgbcejaaPx0
import Derived.Test.YtaognlikgbcejaaPx8
namespace Go.Proofs.Ytaognlikgbcejaa.P
open Go.RowKit Go.Proofs.YtaognlikgbcejaaW.PrintWords Go.Proofs.YtaognlikgbcejaaW.PrintLast Go.Proofs.YtaognlikgbcejaaW.PrintMore
attribute [local go_sem] max2_int min2_int max_two min_two max_three min_three max_four min_four max_five min_five max_six min_six   -- for this text's walks alone
set_option linter.unusedVariables false
set_option linter.unusedSimpArgs false

/-! ### celluloidref14_Compose: function 27 -/
def celluloidref14_Compose.j0 : Nat → Bool → Int → Int → Int → Int → Int → Int → Int → Int → Int → Int → Int → Int → Option (Int × Int × Int × Int × Int × Int × Int)
  | 0,_,_,_,_,_,_,_,_,_,_,_,_,_ => none
  | k + 1,x14,x414000,x414001,x414002,x414003,x414004,x414005,x415000,x415001,x415002,x415003,x415004,x415005 => if x14 = true then (some (0,0,0,0,0,0,1)) else ((celluloidref14_floor.f (wrap64 ((wrap64 (x414000 * x415000)) + (wrap64 (x414002 * x415001)))) 65536).bind fun t419 => ((celluloidref14_floor.f (wrap64 ((wrap64 (x414001 * x415000)) + (wrap64 (x414003 * x415001)))) 65536).bind fun t420 => ((celluloidref14_floor.f (wrap64 ((wrap64 (x414000 * x415002)) + (wrap64 (x414002 * x415003)))) 65536).bind fun t421 => ((celluloidref14_floor.f (wrap64 ((wrap64 (x414001 * x415002)) + (wrap64 (x414003 * x415003)))) 65536).bind fun t422 => ((celluloidref14_floor.f (wrap64 ((wrap64 (x414000 * x415004)) + (wrap64 (x414002 * x415005)))) 65536).bind fun t423 => ((celluloidref14_floor.f (wrap64 ((wrap64 (x414001 * x415004)) + (wrap64 (x414003 * x415005)))) 65536).bind fun t424 => ((celluloidref07_Matrix.f t419 t420 t421 t422 (wrap64 (x414004 + t423)) (wrap64 (x414005 + t424))).bind fun t425 => (if t425 = true then (some (t419,t420,t421,t422,wrap64 (x414004 + t423),wrap64 (x414005 + t424),0)) else (some (0,0,0,0,0,0,8))))))))))
def celluloidref14_Compose.f (k : Nat) (a0_0 : Int) (a0_1 : Int) (a0_2 : Int) (a0_3 : Int) (a0_4 : Int) (a0_5 : Int) (a1_0 : Int) (a1_1 : Int) (a1_2 : Int) (a1_3 : Int) (a1_4 : Int) (a1_5 : Int) : Option (Int × Int × Int × Int × Int × Int × Int):=(celluloidref07_Matrix.f a0_0 a0_1 a0_2 a0_3 a0_4 a0_5).bind fun t416 => (if t416 = true then ((celluloidref07_Matrix.f a1_0 a1_1 a1_2 a1_3 a1_4 a1_5).bind fun t417 => (celluloidref14_Compose.j0 k (!t417) a0_0 a0_1 a0_2 a0_3 a0_4 a0_5 a1_0 a1_1 a1_2 a1_3 a1_4 a1_5)) else (celluloidref14_Compose.j0 k true a0_0 a0_1 a0_2 a0_3 a0_4 a0_5 a1_0 a1_1 a1_2 a1_3 a1_4 a1_5))
theorem celluloidref14_Compose.mono_l : ∀ k,(∀ y0 y1 y2 y3 y4 y5 y6 y7 y8 y9 y10 y11 y12,LeO (celluloidref14_Compose.j0 k y0 y1 y2 y3 y4 y5 y6 y7 y8 y9 y10 y11 y12) (celluloidref14_Compose.j0 (k + 1) y0 y1 y2 y3 y4 y5 y6 y7 y8 y9 y10 y11 y12))
  | 0 => fun _ _ _ _ _ _ _ _ _ _ _ _ _ r h => by simp [celluloidref14_Compose.j0] at h
  | k + 1 => by
    have ih0:=celluloidref14_Compose.mono_l k
    · intro y0 y1 y2 y3 y4 y5 y6 y7 y8 y9 y10 y11 y12
      unfold celluloidref14_Compose.j0
      repeat' first
      | (with_reducible exact ih0 _ _ _ _ _ _ _ _ _ _ _ _ _)
      | (with_reducible exact LeO.refl _)
      | (with_reducible exact LeO.none _)
      | (with_reducible refine LeO.ite ?_ ?_)
      | (with_reducible refine LeO.bind ?_ (fun _ => ?_))
      | exact ih0 _ _ _ _ _ _ _ _ _ _ _ _ _
      | exact LeO.none _
      | refine LeO.ite ?_ ?_
      | refine LeO.bind ?_ (fun _ => ?_)
theorem celluloidref14_Compose.mono : ∀ a0 a1 a2 a3 a4 a5 a6 a7 a8 a9 a10 a11 k,LeO (celluloidref14_Compose.f k a0 a1 a2 a3 a4 a5 a6 a7 a8 a9 a10 a11) (celluloidref14_Compose.f (k + 1) a0 a1 a2 a3 a4 a5 a6 a7 a8 a9 a10 a11):=by
  intro a0 a1 a2 a3 a4 a5 a6 a7 a8 a9 a10 a11 k
  have ih0:=celluloidref14_Compose.mono_l k
  unfold celluloidref14_Compose.f
  repeat' first
      | (with_reducible exact ih0 _ _ _ _ _ _ _ _ _ _ _ _ _)
      | (with_reducible exact LeO.refl _)
      | (with_reducible exact LeO.none _)
      | (with_reducible refine LeO.ite ?_ ?_)
      | (with_reducible refine LeO.bind ?_ (fun _ => ?_))
      | exact ih0 _ _ _ _ _ _ _ _ _ _ _ _ _
      | exact LeO.none _
      | refine LeO.ite ?_ ?_
      | refine LeO.bind ?_ (fun _ => ?_)
def celluloidref14_Compose.T8 : Bool × List (List Nat × List Nat):=(true,[([],[]),([0],[0]),([],[]),([2],[2]),([],[]),([4],[4]),([3,5],[3,5]),([],[]),([7],[7]),([],[]),([9],[9]),([8,10],[8,10]),([6,11],[6,11]),([12],[12]),([1,13],[1,13]),([0,1,2,3,4,5,6,7,8,9,10,11,12,13,14],[]),([15,14,13,0,1,2,3,4,5,6,7,8,9,10,11,12,13,14],[14,15])])
def celluloidref14_Compose.B8 : List Nat:=[0,1,0,4,0,16,60,0,128,0,512,1920,4092,8188,16383,32767,65535]
theorem celluloidref14_Compose.tab8 : rtab .any (opsOf Try.f27 8) = celluloidref14_Compose.T8:=by kernel_rfl
theorem celluloidref14_Compose.bits8 : waitsOk celluloidref14_Compose.T8.2 celluloidref14_Compose.B8 = true:=by kernel_rfl
def celluloidref14_Compose.T9 : Bool × List (List Nat × List Nat):=(true,[([],[]),([0],[0]),([],[]),([2],[2]),([],[]),([4],[4]),([3,5],[3,5]),([],[]),([7],[7]),([],[]),([9],[9]),([8,10],[8,10]),([6,11],[6,11]),([12],[12]),([1,13],[1,13]),([0,1,2,3,4,5,6,7,8,9,10,11,12,13,14],[]),([15,14,13,0,1,2,3,4,5,6,7,8,9,10,11,12,13,14],[14,15])])
def celluloidref14_Compose.B9 : List Nat:=[0,1,0,4,0,16,60,0,128,0,512,1920,4092,8188,16383,32767,65535]
theorem celluloidref14_Compose.tab9 : rtab .any (opsOf Try.f27 9) = celluloidref14_Compose.T9:=by kernel_rfl
theorem celluloidref14_Compose.bits9 : waitsOk celluloidref14_Compose.T9.2 celluloidref14_Compose.B9 = true:=by kernel_rfl
set_option maxHeartbeats 8000000 in
set_option maxRecDepth 100000 in
theorem celluloidref14_Compose.calls (k : Nat) (a0_0 : Int) (a0_1 : Int) (a0_2 : Int) (a0_3 : Int) (a0_4 : Int) (a0_5 : Int) (a1_0 : Int) (a1_1 : Int) (a1_2 : Int) (a1_3 : Int) (a1_4 : Int) (a1_5 : Int) (r1 : Int) (r2 : Int) (r3 : Int) (r4 : Int) (r5 : Int) (r6 : Int) (r7 : Int) (w : World) (h : celluloidref14_Compose.f k a0_0 a0_1 a0_2 a0_3 a0_4 a0_5 a1_0 a1_1 a1_2 a1_3 a1_4 a1_5 = some (r1,r2,r3,r4,r5,r6,r7)) :
    Calls Try.prog 27 #[.agg #[.int .i64 a0_0,.int .i64 a0_1,.int .i64 a0_2,.int .i64 a0_3,.int .i64 a0_4,.int .i64 a0_5],.agg #[.int .i64 a1_0,.int .i64 a1_1,.int .i64 a1_2,.int .i64 a1_3,.int .i64 a1_4,.int .i64 a1_5]] w fun e w' => e = .returned (.tuple #[.agg #[.int .i64 r1,.int .i64 r2,.int .i64 r3,.int .i64 r4,.int .i64 r5,.int .i64 r6],.int .i64 r7]) ∧ Below w.heap.size w w':=by
  have hu23:=Try.underlying23;have HB:=am (Below.refl w.heap.size w);have H : ((celluloidref07_Matrix.f a0_0 a0_1 a0_2 a0_3 a0_4 a0_5).bind fun t416 => (if t416 = true then ((celluloidref07_Matrix.f a1_0 a1_1 a1_2 a1_3 a1_4 a1_5).bind fun t417 => (celluloidref14_Compose.j0 k (!t417) a0_0 a0_1 a0_2 a0_3 a0_4 a0_5 a1_0 a1_1 a1_2 a1_3 a1_4 a1_5)) else (celluloidref14_Compose.j0 k true a0_0 a0_1 a0_2 a0_3 a0_4 a0_5 a1_0 a1_1 a1_2 a1_3 a1_4 a1_5))) = some (r1,r2,r3,r4,r5,r6,r7):=h;clear h;have HC3:=am H;clear H
  go_enter Try.func27,Try.ntmps27
  go_upto_region 1 with (first|((with_reducible refine gate_dst (N:=2) rfl ?_);refine box_event ?hg (N:=2) ?hd (cs:=#[.int .i64 a0_0,.int .i64 a0_1,.int .i64 a0_2,.int .i64 a0_3,.int .i64 a0_4,.int .i64 a0_5]) (t:=23) ?hr ?_;(case hd => rfl);(case hg => rfl);(case hr => first|(go_simp;done)|(go_simp;rfl));intro gb413 hg w4 hbox hb;have n0_:=am (ss (by repeat (first|(with_reducible first|exact HB.out|apply sa|apply sn|apply sd)|exact HB.out)) hb);have n1_:=am (hbox);have n2_:=am ((by rw [hg];exact (sz (by repeat (first|(with_reducible first|exact HB.out|apply sa|apply sn|apply sd)|exact HB.out))) : w.heap.size ≤ gb413));have n3_:=am ((by rw [hg];exact (sz (by repeat (first|(with_reducible first|exact HB.out|apply sa|apply sn|apply sd)|exact HB.out))) : w.heap.size ≤ gb413));clear HB;have HB:=n0_;have BK413:=n1_;have GW413:=n2_;have GE413:=n3_;clear n0_ n1_ n2_ n3_;clear hb hbox hg)|((with_reducible refine gate_dst (N:=3) rfl ?_);refine box_event ?hg (N:=3) ?hd (cs:=#[.int .i64 a1_0,.int .i64 a1_1,.int .i64 a1_2,.int .i64 a1_3,.int .i64 a1_4,.int .i64 a1_5]) (t:=23) ?hr ?_;(case hd => rfl);(case hg => rfl);(case hr => first|(go_simp;done)|(go_simp;rfl));intro gb414 hg w5 hbox hb;have n0_:=am (bw (by exact BK413.out) hb);have n1_:=am (ss (by repeat (first|(with_reducible first|exact HB.out|apply sa|apply sn|apply sd|refine sx ?_ GE413.out)|exact HB.out)) hb);have n2_:=am (hbox);have n3_:=am ((by rw [hg];exact (sz (by repeat (first|(with_reducible first|exact HB.out|apply sa|apply sn|apply sd|refine sx ?_ GE413.out)|exact HB.out))) : w.heap.size ≤ gb414));have n4_:=n3_;have n5_:=nb (by exact BK413.out) hg;have n6_:=ng (by exact BK413.out) hg;clear BK413;clear HB;have BK413:=n0_;have HB:=n1_;have BK414:=n2_;have GW414:=n3_;have GE414:=n4_;have NB413_414:=n5_;have NB414_413:=n6_;clear n0_ n1_ n2_ n3_ n4_ n5_ n6_;clear hb hbox hg)|((with_reducible refine gate_dst (N:=4) rfl ?_);refine box_event ?hg (N:=4) ?hd (cs:=#[.int .i64 0,.int .i64 0,.int .i64 0,.int .i64 0,.int .i64 0,.int .i64 0]) (t:=23) ?hr ?_;(case hd => rfl);(case hg => rfl);(case hr => first|(go_simp;done)|(go_simp;rfl));intro gb415 hg w6 hbox hb;have n0_:=am (bw (by exact BK413.out) hb);have n1_:=am (bw (by exact BK414.out) hb);have n2_:=am (ss (by repeat (first|(with_reducible first|exact HB.out|apply sa|apply sn|apply sd|refine sy ?_ (by assumption))|exact HB.out)) hb);have n3_:=am (hbox);have n4_:=am ((by rw [hg];exact (sz (by repeat (first|(with_reducible first|exact HB.out|apply sa|apply sn|apply sd|refine sy ?_ (by assumption))|exact HB.out))) : w.heap.size ≤ gb415));have n5_:=n4_;have n6_:=nb (by exact BK413.out) hg;have n7_:=am (Ne.symm n6_.out);have n8_:=nb (by exact BK414.out) hg;have n9_:=ng (by exact BK414.out) hg;clear BK413;clear BK414;clear HB;have BK413:=n0_;have BK414:=n1_;have HB:=n2_;have BK415:=n3_;have GW415:=n4_;have GE415:=n5_;have NB413_415:=n6_;have NB415_413:=n7_;have NB414_415:=n8_;have NB415_414:=n9_;clear n0_ n1_ n2_ n3_ n4_ n5_ n6_ n7_ n8_ n9_;clear hb hbox hg))
  (try simp only [Act.put,q1,q2,q3])
  go_cut [14] (fun v14 wc => ∃ (kq : Nat) (x14_2 : Bool),v14 = .bool x14_2 ∧ Aside0 (celluloidref14_Compose.j0 kq x14_2 a0_0 a0_1 a0_2 a0_3 a0_4 a0_5 a1_0 a1_1 a1_2 a1_3 a1_4 a1_5 = some (r1,r2,r3,r4,r5,r6,r7)) ∧ Aside0 (kq ≤ k) ∧ Aside0 (wc.heap[gb413]? = some (.cells #[.int .i64 a0_0,.int .i64 a0_1,.int .i64 a0_2,.int .i64 a0_3,.int .i64 a0_4,.int .i64 a0_5] 23 (0,0))) ∧ Aside0 (wc.heap[gb414]? = some (.cells #[.int .i64 a1_0,.int .i64 a1_1,.int .i64 a1_2,.int .i64 a1_3,.int .i64 a1_4,.int .i64 a1_5] 23 (0,0))) ∧ Aside0 (wc.heap[gb415]? = some (.cells #[.int .i64 0,.int .i64 0,.int .i64 0,.int .i64 0,.int .i64 0,.int .i64 0] 23 (0,0))) ∧ Aside0 (Below w.heap.size w wc))
  case first =>
    have H:=HC3.out;clear HC3;replace H:=Option.bind_eq_some_iff.mp H;obtain ⟨t416,A70,H⟩:=H;replace H : (if t416 = true then ((celluloidref07_Matrix.f a1_0 a1_1 a1_2 a1_3 a1_4 a1_5).bind fun t417 => (celluloidref14_Compose.j0 k (!t417) a0_0 a0_1 a0_2 a0_3 a0_4 a0_5 a1_0 a1_1 a1_2 a1_3 a1_4 a1_5)) else (celluloidref14_Compose.j0 k true a0_0 a0_1 a0_2 a0_3 a0_4 a0_5 a1_0 a1_1 a1_2 a1_3 a1_4 a1_5)) = some (r1,r2,r3,r4,r5,r6,r7):=H;have A7:=am A70;clear A70
    by_cases c8 : t416 = true
    · subst c8
      have H1 : ((celluloidref07_Matrix.f a1_0 a1_1 a1_2 a1_3 a1_4 a1_5).bind fun t417 => (celluloidref14_Compose.j0 k (!t417) a0_0 a0_1 a0_2 a0_3 a0_4 a0_5 a1_0 a1_1 a1_2 a1_3 a1_4 a1_5)) = some (r1,r2,r3,r4,r5,r6,r7):=by rw [if_pos rfl] at H;exact H
      clear H;have H:=H1;clear H1;replace H:=Option.bind_eq_some_iff.mp H;obtain ⟨t417,A90,H⟩:=H;replace H : (celluloidref14_Compose.j0 k (!t417) a0_0 a0_1 a0_2 a0_3 a0_4 a0_5 a1_0 a1_1 a1_2 a1_3 a1_4 a1_5) = some (r1,r2,r3,r4,r5,r6,r7):=H;have A9:=am A90;clear A90;have H':=am H;clear H;have hnb10:=NB413_414.out;have hnc10:=NB414_413.out;have hnb11:=NB413_415.out;have hnc11:=NB415_413.out;have hcz12_0 : w6.cell? ⟨gb413,0,none⟩ = some (.int .i64 a0_0):=(bc BK413.out 0).trans rfl;have hcz12_1 : w6.cell? ⟨gb413,1,none⟩ = some (.int .i64 a0_1):=(bc BK413.out 1).trans rfl;have hcz12_2 : w6.cell? ⟨gb413,2,none⟩ = some (.int .i64 a0_2):=(bc BK413.out 2).trans rfl;have hcz12_3 : w6.cell? ⟨gb413,3,none⟩ = some (.int .i64 a0_3):=(bc BK413.out 3).trans rfl;have hcz12_4 : w6.cell? ⟨gb413,4,none⟩ = some (.int .i64 a0_4):=(bc BK413.out 4).trans rfl;have hcz12_5 : w6.cell? ⟨gb413,5,none⟩ = some (.int .i64 a0_5):=(bc BK413.out 5).trans rfl;have hfz12_0:=bz BK413.out 0;have hfz12_1:=bz BK413.out 1;have hfz12_2:=bz BK413.out 2;have hfz12_3:=bz BK413.out 3;have hfz12_4:=bz BK413.out 4;have hfz12_5:=bz BK413.out 5
      go_wp2_with (first|((with_reducible refine gate_callee (f:=17) rfl ?_);refine goesL_ (some 8) rfl rfl Try.func17 (by kernel_rfl) rfl #[.agg #[.int .i64 a0_0,.int .i64 a0_1,.int .i64 a0_2,.int .i64 a0_3,.int .i64 a0_4,.int .i64 a0_5]] rfl (by (try simp only [List.map_toArray,List.map_cons,List.map_nil]);first|done|rfl|(simp only [List.length_drop,List.length_take];rfl)) ?_;(with_reducible refine (celluloidref07_Matrix.calls a0_0 a0_1 a0_2 a0_3 a0_4 a0_5 true _ A7.out).mono ?_);rintro e w13 ⟨rfl,hb⟩;refine ⟨_,rfl,?_⟩;replace BK413:=am (bw (by exact BK413.out) hb);replace BK414:=am (bw (by exact BK414.out) hb);replace BK415:=am (bw (by exact BK415.out) hb);replace HB:=am (ss (by repeat (first|(with_reducible first|exact HB.out|apply sa|apply sn|apply sd|refine sy ?_ (by assumption))|exact HB.out)) hb);(try clear hb);(try clear hb2);(try clear hk);(try clear hi);have hnb14:=NB414_415.out;have hnc14:=NB415_414.out;obtain ⟨hcz15_0,hcz15_1,hcz15_2,hcz15_3,hcz15_4,hcz15_5⟩:=cq6 BK414.out;obtain ⟨hfz15_0,hfz15_1,hfz15_2,hfz15_3,hfz15_4,hfz15_5⟩:=fq6 BK414.out)|(go_at_call 17;(with_reducible refine (celluloidref07_Matrix.calls a1_0 a1_1 a1_2 a1_3 a1_4 a1_5 t417 _ A9.out).mono ?_);rintro e w16 ⟨rfl,hb⟩;replace BK413:=am (bw (by exact BK413.out) hb);replace BK414:=am (bw (by exact BK414.out) hb);replace BK415:=am (bw (by exact BK415.out) hb);replace HB:=am (ss (by repeat (first|(with_reducible first|exact HB.out|apply sa|apply sn|apply sd|refine sy ?_ (by assumption))|exact HB.out)) hb);(try clear hb);(try clear hb2);(try clear hk);(try clear hi)))
      go_meet
      case rel => exact ⟨_,(!t417),(by first|rfl|(simp;done)|(simp [*];done)),H',⟨by first|omega|exact Nat.le_refl _⟩,⟨by exact BK413.out⟩,⟨by exact BK414.out⟩,⟨by exact BK415.out⟩,⟨by repeat (first|(with_reducible first|exact HB.out|apply sa|apply sn|apply sd|refine sy ?_ (by assumption))|exact HB.out)⟩⟩
    · replace c8:=Bool.eq_false_iff.mpr c8
      subst c8
      have H1 : (celluloidref14_Compose.j0 k true a0_0 a0_1 a0_2 a0_3 a0_4 a0_5 a1_0 a1_1 a1_2 a1_3 a1_4 a1_5) = some (r1,r2,r3,r4,r5,r6,r7):=by rw [if_neg (show ¬ (false = true) by decide)] at H;exact H
      clear H;have H:=H1;clear H1;have H':=am H;clear H;have hnb17:=NB413_414.out;have hnc17:=NB414_413.out;have hnb18:=NB413_415.out;have hnc18:=NB415_413.out;have hcz19_0 : w6.cell? ⟨gb413,0,none⟩ = some (.int .i64 a0_0):=(bc BK413.out 0).trans rfl;have hcz19_1 : w6.cell? ⟨gb413,1,none⟩ = some (.int .i64 a0_1):=(bc BK413.out 1).trans rfl;have hcz19_2 : w6.cell? ⟨gb413,2,none⟩ = some (.int .i64 a0_2):=(bc BK413.out 2).trans rfl;have hcz19_3 : w6.cell? ⟨gb413,3,none⟩ = some (.int .i64 a0_3):=(bc BK413.out 3).trans rfl;have hcz19_4 : w6.cell? ⟨gb413,4,none⟩ = some (.int .i64 a0_4):=(bc BK413.out 4).trans rfl;have hcz19_5 : w6.cell? ⟨gb413,5,none⟩ = some (.int .i64 a0_5):=(bc BK413.out 5).trans rfl;have hfz19_0:=bz BK413.out 0;have hfz19_1:=bz BK413.out 1;have hfz19_2:=bz BK413.out 2;have hfz19_3:=bz BK413.out 3;have hfz19_4:=bz BK413.out 4;have hfz19_5:=bz BK413.out 5
      go_wp2_with (first|((with_reducible refine gate_callee (f:=17) rfl ?_);refine goesL_ (some 8) rfl rfl Try.func17 (by kernel_rfl) rfl #[.agg #[.int .i64 a0_0,.int .i64 a0_1,.int .i64 a0_2,.int .i64 a0_3,.int .i64 a0_4,.int .i64 a0_5]] rfl (by (try simp only [List.map_toArray,List.map_cons,List.map_nil]);first|done|rfl|(simp only [List.length_drop,List.length_take];rfl)) ?_;(with_reducible refine (celluloidref07_Matrix.calls a0_0 a0_1 a0_2 a0_3 a0_4 a0_5 false _ A7.out).mono ?_);rintro e w20 ⟨rfl,hb⟩;refine ⟨_,rfl,?_⟩;replace BK413:=am (bw (by exact BK413.out) hb);replace BK414:=am (bw (by exact BK414.out) hb);replace BK415:=am (bw (by exact BK415.out) hb);replace HB:=am (ss (by repeat (first|(with_reducible first|exact HB.out|apply sa|apply sn|apply sd|refine sy ?_ (by assumption))|exact HB.out)) hb);(try clear hb);(try clear hb2);(try clear hk);(try clear hi)))
      go_meet
      case rel => exact ⟨_,(true),(by first|rfl|(simp;done)|(simp [*];done)),H',⟨by first|omega|exact Nat.le_refl _⟩,⟨by exact BK413.out⟩,⟨by exact BK414.out⟩,⟨by exact BK415.out⟩,⟨by repeat (first|(with_reducible first|exact HB.out|apply sa|apply sn|apply sd|refine sy ?_ (by assumption))|exact HB.out)⟩⟩
  case rest =>
    clear HC3
    try clear c1
    try clear c2
    try clear p2
    try clear c8
    try clear c10
    try clear c11
    try clear c14
    try clear c17
    try clear c18
    try clear hcz12_0
    try clear hcz12_1
    try clear hcz12_2
    try clear hcz12_3
    try clear hcz12_4
    try clear hcz12_5
    try clear hcz15_0
    try clear hcz15_1
    try clear hcz15_2
    try clear hcz15_3
    try clear hcz15_4
    try clear hcz15_5
    try clear hcz19_0
    try clear hcz19_1
    try clear hcz19_2
    try clear hcz19_3
    try clear hcz19_4
    try clear hcz19_5
    try clear hfz12_0
    try clear hfz12_1
    try clear hfz12_2
    try clear hfz12_3
    try clear hfz12_4
    try clear hfz12_5
    try clear hfz15_0
    try clear hfz15_1
    try clear hfz15_2
    try clear hfz15_3
    try clear hfz15_4
    try clear hfz15_5
    try clear hfz19_0
    try clear hfz19_1
    try clear hfz19_2
    try clear hfz19_3
    try clear hfz19_4
    try clear hfz19_5
    obtain ⟨kq,x14_2,rfl,HA,HJ2,BK413,BK414,BK415,HB⟩:=hcut
    cases kq with
    | zero => exact absurd HA.out (by simp [celluloidref14_Compose.j0])
    | succ kj2 =>
      have H:=HA.out;clear HA;simp only [celluloidref14_Compose.j0] at H
      by_cases c21 : x14_2 = true
      · subst c21
        have H1 : (some (0,0,0,0,0,0,1)) = some (r1,r2,r3,r4,r5,r6,r7):=by rw [if_pos rfl] at H;exact H
        clear H;have H:=H1;clear H1;simp only [Option.some.injEq,Prod.mk.injEq] at H;obtain ⟨rfl,rfl,rfl,rfl,rfl,rfl,rfl⟩:=H;have hnb22:=NB415_413.out;have hnc22:=NB413_415.out;have hnb23:=NB415_414.out;have hnc23:=NB414_415.out;have hcz24_0 : wc.cell? ⟨gb415,0,none⟩ = some (.int .i64 0):=(bc BK415.out 0).trans rfl;have hcz24_1 : wc.cell? ⟨gb415,1,none⟩ = some (.int .i64 0):=(bc BK415.out 1).trans rfl;have hcz24_2 : wc.cell? ⟨gb415,2,none⟩ = some (.int .i64 0):=(bc BK415.out 2).trans rfl;have hcz24_3 : wc.cell? ⟨gb415,3,none⟩ = some (.int .i64 0):=(bc BK415.out 3).trans rfl;have hcz24_4 : wc.cell? ⟨gb415,4,none⟩ = some (.int .i64 0):=(bc BK415.out 4).trans rfl;have hcz24_5 : wc.cell? ⟨gb415,5,none⟩ = some (.int .i64 0):=(bc BK415.out 5).trans rfl;have hfz24_0:=bz BK415.out 0;have hfz24_1:=bz BK415.out 1;have hfz24_2:=bz BK415.out 2;have hfz24_3:=bz BK415.out 3;have hfz24_4:=bz BK415.out 4;have hfz24_5:=bz BK415.out 5
        go_wp2
        refine bodyPost_ret (results_ct rfl _ _ gb415 23 #[.int .i64 0,.int .i64 0,.int .i64 0,.int .i64 0,.int .i64 0,.int .i64 0] (0,0) _ rfl (by (with_reducible repeat (first|refine bn ?_ _|refine bd ?_|refine ba ?_ _));refine bp (cs:=#[.int .i64 0,.int .i64 0,.int .i64 0,.int .i64 0,.int .i64 0,.int .i64 0]) ?_ 5 _ rfl;(with_reducible repeat (first|refine bn ?_ _|refine bd ?_|refine ba ?_ _));refine bp (cs:=#[.int .i64 0,.int .i64 0,.int .i64 0,.int .i64 0,.int .i64 0,.int .i64 0]) ?_ 4 _ rfl;(with_reducible repeat (first|refine bn ?_ _|refine bd ?_|refine ba ?_ _));refine bp (cs:=#[.int .i64 0,.int .i64 0,.int .i64 0,.int .i64 0,.int .i64 0,.int .i64 0]) ?_ 3 _ rfl;(with_reducible repeat (first|refine bn ?_ _|refine bd ?_|refine ba ?_ _));refine bp (cs:=#[.int .i64 0,.int .i64 0,.int .i64 0,.int .i64 0,.int .i64 0,.int .i64 0]) ?_ 2 _ rfl;(with_reducible repeat (first|refine bn ?_ _|refine bd ?_|refine ba ?_ _));refine bp (cs:=#[.int .i64 0,.int .i64 0,.int .i64 0,.int .i64 0,.int .i64 0,.int .i64 0]) ?_ 1 _ rfl;(with_reducible repeat (first|refine bn ?_ _|refine bd ?_|refine ba ?_ _));refine bp (cs:=#[.int .i64 0,.int .i64 0,.int .i64 0,.int .i64 0,.int .i64 0,.int .i64 0]) ?_ 0 _ rfl;(with_reducible repeat (first|refine bn ?_ _|refine bd ?_|refine ba ?_ _));exact BK415.out) Try.underlying23 rfl (by kernel_rfl)) rfl ?_
        exact ⟨by first|rfl|(simp [errW_none,errW_some] <;> rfl)|(simp [*,errW_none,errW_some] <;> rfl),by repeat (first|(with_reducible first|exact HB.out|apply sa|apply sn|apply sd|refine sy ?_ (by assumption))|exact HB.out)⟩
      · replace c21:=Bool.eq_false_iff.mpr c21
        subst c21
        have H1 : ((celluloidref14_floor.f (wrap64 ((wrap64 (a0_0 * a1_0)) + (wrap64 (a0_2 * a1_1)))) 65536).bind fun t419 => ((celluloidref14_floor.f (wrap64 ((wrap64 (a0_1 * a1_0)) + (wrap64 (a0_3 * a1_1)))) 65536).bind fun t420 => ((celluloidref14_floor.f (wrap64 ((wrap64 (a0_0 * a1_2)) + (wrap64 (a0_2 * a1_3)))) 65536).bind fun t421 => ((celluloidref14_floor.f (wrap64 ((wrap64 (a0_1 * a1_2)) + (wrap64 (a0_3 * a1_3)))) 65536).bind fun t422 => ((celluloidref14_floor.f (wrap64 ((wrap64 (a0_0 * a1_4)) + (wrap64 (a0_2 * a1_5)))) 65536).bind fun t423 => ((celluloidref14_floor.f (wrap64 ((wrap64 (a0_1 * a1_4)) + (wrap64 (a0_3 * a1_5)))) 65536).bind fun t424 => ((celluloidref07_Matrix.f t419 t420 t421 t422 (wrap64 (a0_4 + t423)) (wrap64 (a0_5 + t424))).bind fun t425 => (if t425 = true then (some (t419,t420,t421,t422,wrap64 (a0_4 + t423),wrap64 (a0_5 + t424),0)) else (some (0,0,0,0,0,0,8)))))))))) = some (r1,r2,r3,r4,r5,r6,r7):=by rw [if_neg (show ¬ (false = true) by decide)] at H;exact H
        clear H;have H:=H1;clear H1;replace H:=Option.bind_eq_some_iff.mp H;obtain ⟨t419,A250,H⟩:=H;replace H : ((celluloidref14_floor.f (wrap64 ((wrap64 (a0_1 * a1_0)) + (wrap64 (a0_3 * a1_1)))) 65536).bind fun t420 => ((celluloidref14_floor.f (wrap64 ((wrap64 (a0_0 * a1_2)) + (wrap64 (a0_2 * a1_3)))) 65536).bind fun t421 => ((celluloidref14_floor.f (wrap64 ((wrap64 (a0_1 * a1_2)) + (wrap64 (a0_3 * a1_3)))) 65536).bind fun t422 => ((celluloidref14_floor.f (wrap64 ((wrap64 (a0_0 * a1_4)) + (wrap64 (a0_2 * a1_5)))) 65536).bind fun t423 => ((celluloidref14_floor.f (wrap64 ((wrap64 (a0_1 * a1_4)) + (wrap64 (a0_3 * a1_5)))) 65536).bind fun t424 => ((celluloidref07_Matrix.f t419 t420 t421 t422 (wrap64 (a0_4 + t423)) (wrap64 (a0_5 + t424))).bind fun t425 => (if t425 = true then (some (t419,t420,t421,t422,wrap64 (a0_4 + t423),wrap64 (a0_5 + t424),0)) else (some (0,0,0,0,0,0,8))))))))) = some (r1,r2,r3,r4,r5,r6,r7):=H;have A25:=am A250;clear A250;replace H:=Option.bind_eq_some_iff.mp H;obtain ⟨t420,A260,H⟩:=H;replace H : ((celluloidref14_floor.f (wrap64 ((wrap64 (a0_0 * a1_2)) + (wrap64 (a0_2 * a1_3)))) 65536).bind fun t421 => ((celluloidref14_floor.f (wrap64 ((wrap64 (a0_1 * a1_2)) + (wrap64 (a0_3 * a1_3)))) 65536).bind fun t422 => ((celluloidref14_floor.f (wrap64 ((wrap64 (a0_0 * a1_4)) + (wrap64 (a0_2 * a1_5)))) 65536).bind fun t423 => ((celluloidref14_floor.f (wrap64 ((wrap64 (a0_1 * a1_4)) + (wrap64 (a0_3 * a1_5)))) 65536).bind fun t424 => ((celluloidref07_Matrix.f t419 t420 t421 t422 (wrap64 (a0_4 + t423)) (wrap64 (a0_5 + t424))).bind fun t425 => (if t425 = true then (some (t419,t420,t421,t422,wrap64 (a0_4 + t423),wrap64 (a0_5 + t424),0)) else (some (0,0,0,0,0,0,8)))))))) = some (r1,r2,r3,r4,r5,r6,r7):=H;have A26:=am A260;clear A260;replace H:=Option.bind_eq_some_iff.mp H;obtain ⟨t421,A270,H⟩:=H;replace H : ((celluloidref14_floor.f (wrap64 ((wrap64 (a0_1 * a1_2)) + (wrap64 (a0_3 * a1_3)))) 65536).bind fun t422 => ((celluloidref14_floor.f (wrap64 ((wrap64 (a0_0 * a1_4)) + (wrap64 (a0_2 * a1_5)))) 65536).bind fun t423 => ((celluloidref14_floor.f (wrap64 ((wrap64 (a0_1 * a1_4)) + (wrap64 (a0_3 * a1_5)))) 65536).bind fun t424 => ((celluloidref07_Matrix.f t419 t420 t421 t422 (wrap64 (a0_4 + t423)) (wrap64 (a0_5 + t424))).bind fun t425 => (if t425 = true then (some (t419,t420,t421,t422,wrap64 (a0_4 + t423),wrap64 (a0_5 + t424),0)) else (some (0,0,0,0,0,0,8))))))) = some (r1,r2,r3,r4,r5,r6,r7):=H;have A27:=am A270;clear A270;replace H:=Option.bind_eq_some_iff.mp H;obtain ⟨t422,A280,H⟩:=H;replace H : ((celluloidref14_floor.f (wrap64 ((wrap64 (a0_0 * a1_4)) + (wrap64 (a0_2 * a1_5)))) 65536).bind fun t423 => ((celluloidref14_floor.f (wrap64 ((wrap64 (a0_1 * a1_4)) + (wrap64 (a0_3 * a1_5)))) 65536).bind fun t424 => ((celluloidref07_Matrix.f t419 t420 t421 t422 (wrap64 (a0_4 + t423)) (wrap64 (a0_5 + t424))).bind fun t425 => (if t425 = true then (some (t419,t420,t421,t422,wrap64 (a0_4 + t423),wrap64 (a0_5 + t424),0)) else (some (0,0,0,0,0,0,8)))))) = some (r1,r2,r3,r4,r5,r6,r7):=H;have A28:=am A280;clear A280;replace H:=Option.bind_eq_some_iff.mp H;obtain ⟨t423,A290,H⟩:=H;replace H : ((celluloidref14_floor.f (wrap64 ((wrap64 (a0_1 * a1_4)) + (wrap64 (a0_3 * a1_5)))) 65536).bind fun t424 => ((celluloidref07_Matrix.f t419 t420 t421 t422 (wrap64 (a0_4 + t423)) (wrap64 (a0_5 + t424))).bind fun t425 => (if t425 = true then (some (t419,t420,t421,t422,wrap64 (a0_4 + t423),wrap64 (a0_5 + t424),0)) else (some (0,0,0,0,0,0,8))))) = some (r1,r2,r3,r4,r5,r6,r7):=H;have A29:=am A290;clear A290;replace H:=Option.bind_eq_some_iff.mp H;obtain ⟨t424,A300,H⟩:=H;replace H : ((celluloidref07_Matrix.f t419 t420 t421 t422 (wrap64 (a0_4 + t423)) (wrap64 (a0_5 + t424))).bind fun t425 => (if t425 = true then (some (t419,t420,t421,t422,wrap64 (a0_4 + t423),wrap64 (a0_5 + t424),0)) else (some (0,0,0,0,0,0,8)))) = some (r1,r2,r3,r4,r5,r6,r7):=H;have A30:=am A300;clear A300;replace H:=Option.bind_eq_some_iff.mp H;obtain ⟨t425,A310,H⟩:=H;replace H : (if t425 = true then (some (t419,t420,t421,t422,wrap64 (a0_4 + t423),wrap64 (a0_5 + t424),0)) else (some (0,0,0,0,0,0,8))) = some (r1,r2,r3,r4,r5,r6,r7):=H;have A31:=am A310;clear A310
        by_cases c32 : t425 = true
        · subst c32
          have H1 : (some (t419,t420,t421,t422,wrap64 (a0_4 + t423),wrap64 (a0_5 + t424),0)) = some (r1,r2,r3,r4,r5,r6,r7):=by rw [if_pos rfl] at H;exact H
          clear H;have H:=H1;clear H1;simp only [Option.some.injEq,Prod.mk.injEq] at H;obtain ⟨rfl,rfl,rfl,rfl,rfl,rfl,rfl⟩:=H
          try go_wp2_with (first|((with_reducible refine gate_dst (N:=6) rfl ?_);refine box_event ?hg (N:=6) ?hd (cs:=#[.int .i64 0,.int .i64 0,.int .i64 0,.int .i64 0,.int .i64 0,.int .i64 0]) (t:=23) ?hr ?_;(case hd => rfl);(case hg => rfl);(case hr => first|(go_simp;done)|(go_simp;rfl));intro gb418 hg w33 hbox hb;have BK418:=am (hbox);obtain ⟨h1_,GW418⟩:=sg (by repeat (first|(with_reducible first|exact HB.out|apply sa|apply sn|apply sd|refine sy ?_ (by assumption))|exact HB.out)) hb hg;replace HB:=h1_;clear h1_;have GE418:=GW418;have NB413_418:=nb (by exact BK413.out) hg;replace BK413:=am (bw (by exact BK413.out) hb);have NB418_413:=am (Ne.symm NB413_418.out);have NB414_418:=nb (by exact BK414.out) hg;replace BK414:=am (bw (by exact BK414.out) hb);have NB418_414:=am (Ne.symm NB414_418.out);have NB415_418:=nb (by exact BK415.out) hg;have NB418_415:=ng (by exact BK415.out) hg;replace BK415:=am (bw (by exact BK415.out) hb);clear hb hbox hg;have hnb34:=NB413_414.out;have hnc34:=NB414_413.out;have hnb35:=NB413_415.out;have hnc35:=NB415_413.out;have hnb36:=NB413_418.out;have hnc36:=NB418_413.out;obtain ⟨hcz37_0,hcz37_1,hcz37_2,hcz37_3,hcz37_4,hcz37_5⟩:=cq6 BK413.out;obtain ⟨hfz37_0,hfz37_1,hfz37_2,hfz37_3,hfz37_4,hfz37_5⟩:=fq6 BK413.out;have hnb38:=NB414_415.out;have hnc38:=NB415_414.out;have hnb39:=NB414_418.out;have hnc39:=NB418_414.out;obtain ⟨hcz40_0,hcz40_1,hcz40_2,hcz40_3,hcz40_4,hcz40_5⟩:=cq6 BK414.out;obtain ⟨hfz40_0,hfz40_1,hfz40_2,hfz40_3,hfz40_4,hfz40_5⟩:=fq6 BK414.out)|((with_reducible refine gate_callee (f:=36) rfl ?_);refine goesL_ (some 27) rfl rfl Try.func36 (by kernel_rfl) rfl #[.int .i64 (wrap64 ((wrap64 (a0_0 * a1_0)) + (wrap64 (a0_2 * a1_1)))),.int .i64 65536] rfl (by (try simp only [List.map_toArray,List.map_cons,List.map_nil]);first|done|rfl|(simp only [List.length_drop,List.length_take];rfl)) ?_;(with_reducible refine (celluloidref14_floor.calls (wrap64 ((wrap64 (a0_0 * a1_0)) + (wrap64 (a0_2 * a1_1)))) 65536 t419 _ A25.out).mono ?_);rintro e w' ⟨rfl,⟨nd,rfl⟩⟩;refine ⟨_,rfl,?_⟩;(repeat (rw [drewN_self w33];generalize hq_ : World.drewN w33 _ = w33;have n0_ : Aside0 (w33.heap[gb413]? = some (.cells #[.int .i64 a0_0,.int .i64 a0_1,.int .i64 a0_2,.int .i64 a0_3,.int .i64 a0_4,.int .i64 a0_5] 23 (0,0))):=⟨by rw [← hq_];exact (by exact BK413.out)⟩;have n1_ : Aside0 (w33.heap[gb414]? = some (.cells #[.int .i64 a1_0,.int .i64 a1_1,.int .i64 a1_2,.int .i64 a1_3,.int .i64 a1_4,.int .i64 a1_5] 23 (0,0))):=⟨by rw [← hq_];exact (by exact BK414.out)⟩;have n2_ : Aside0 (w33.heap[gb415]? = some (.cells #[.int .i64 0,.int .i64 0,.int .i64 0,.int .i64 0,.int .i64 0,.int .i64 0] 23 (0,0))):=⟨by rw [← hq_];exact (by exact BK415.out)⟩;have n3_ : Aside0 (w33.heap[gb418]? = some (.cells #[.int .i64 0,.int .i64 0,.int .i64 0,.int .i64 0,.int .i64 0,.int .i64 0] 23 (0,0))):=⟨by rw [← hq_];exact (by exact BK418.out)⟩;have n4_ : Aside0 (Below w.heap.size w w33):=⟨by rw [← hq_];exact (by repeat (first|(with_reducible first|exact HB.out|apply sa|apply sn|apply sd|refine sy ?_ (by assumption))|exact HB.out))⟩;clear BK413 BK414 BK415 BK418 HB hq_;have BK413:=n0_;have BK414:=n1_;have BK415:=n2_;have BK418:=n3_;have HB:=n4_;clear n0_ n1_ n2_ n3_ n4_));have hnb41:=NB418_415.out;have hnc41:=NB415_418.out;obtain ⟨hcz42_0,hcz42_1,hcz42_2,hcz42_3,hcz42_4,hcz42_5⟩:=cq6 BK418.out;obtain ⟨hfz42_0,hfz42_1,hfz42_2,hfz42_3,hfz42_4,hfz42_5⟩:=fq6 BK418.out;obtain ⟨hcz43_0,hcz43_1,hcz43_2,hcz43_3,hcz43_4,hcz43_5⟩:=cq6 BK413.out;obtain ⟨hfz43_0,hfz43_1,hfz43_2,hfz43_3,hfz43_4,hfz43_5⟩:=fq6 BK413.out;obtain ⟨hcz44_0,hcz44_1,hcz44_2,hcz44_3,hcz44_4,hcz44_5⟩:=cq6 BK414.out;obtain ⟨hfz44_0,hfz44_1,hfz44_2,hfz44_3,hfz44_4,hfz44_5⟩:=fq6 BK414.out)|((with_reducible refine gate_callee (f:=36) rfl ?_);refine goesL_ (some 40) rfl rfl Try.func36 (by kernel_rfl) rfl #[.int .i64 (wrap64 ((wrap64 (a0_1 * a1_0)) + (wrap64 (a0_3 * a1_1)))),.int .i64 65536] rfl (by (try simp only [List.map_toArray,List.map_cons,List.map_nil]);first|done|rfl|(simp only [List.length_drop,List.length_take];rfl)) ?_;(with_reducible refine (celluloidref14_floor.calls (wrap64 ((wrap64 (a0_1 * a1_0)) + (wrap64 (a0_3 * a1_1)))) 65536 t420 _ A26.out).mono ?_);rintro e w' ⟨rfl,⟨nd,rfl⟩⟩;refine ⟨_,rfl,?_⟩)|((with_reducible refine gate_callee (f:=36) rfl ?_);refine goesL_ (some 53) rfl rfl Try.func36 (by kernel_rfl) rfl #[.int .i64 (wrap64 ((wrap64 (a0_0 * a1_2)) + (wrap64 (a0_2 * a1_3)))),.int .i64 65536] rfl (by (try simp only [List.map_toArray,List.map_cons,List.map_nil]);first|done|rfl|(simp only [List.length_drop,List.length_take];rfl)) ?_;(with_reducible refine (celluloidref14_floor.calls (wrap64 ((wrap64 (a0_0 * a1_2)) + (wrap64 (a0_2 * a1_3)))) 65536 t421 _ A27.out).mono ?_);rintro e w' ⟨rfl,⟨nd,rfl⟩⟩;refine ⟨_,rfl,?_⟩)|((with_reducible refine gate_callee (f:=36) rfl ?_);refine goesL_ (some 66) rfl rfl Try.func36 (by kernel_rfl) rfl #[.int .i64 (wrap64 ((wrap64 (a0_1 * a1_2)) + (wrap64 (a0_3 * a1_3)))),.int .i64 65536] rfl (by (try simp only [List.map_toArray,List.map_cons,List.map_nil]);first|done|rfl|(simp only [List.length_drop,List.length_take];rfl)) ?_;(with_reducible refine (celluloidref14_floor.calls (wrap64 ((wrap64 (a0_1 * a1_2)) + (wrap64 (a0_3 * a1_3)))) 65536 t422 _ A28.out).mono ?_);rintro e w' ⟨rfl,⟨nd,rfl⟩⟩;refine ⟨_,rfl,?_⟩))
          repeat rw [drewN_set]
          repeat rw [drewN_two]
          first|(rw [drewN_self w33];generalize hq_ : World.drewN w33 _ = wq_)|(generalize hq_ : w33 = wq_)
          have n0_ : Aside0 (((((wq_.setCell ⟨gb418,0,none⟩ (.int .i64 t419)).setCell ⟨gb418,1,none⟩ (.int .i64 t420)).setCell ⟨gb418,2,none⟩ (.int .i64 t421)).setCell ⟨gb418,3,none⟩ (.int .i64 t422)).heap[gb413]? = some (.cells #[.int .i64 a0_0,.int .i64 a0_1,.int .i64 a0_2,.int .i64 a0_3,.int .i64 a0_4,.int .i64 a0_5] 23 (0,0))):=⟨by rw [← hq_];exact by (with_reducible repeat (first|refine bn ?_ _|refine bd ?_|refine ba ?_ _|refine bf ?_ NB413_418.out _));exact BK413.out⟩;have n1_ : Aside0 (((((wq_.setCell ⟨gb418,0,none⟩ (.int .i64 t419)).setCell ⟨gb418,1,none⟩ (.int .i64 t420)).setCell ⟨gb418,2,none⟩ (.int .i64 t421)).setCell ⟨gb418,3,none⟩ (.int .i64 t422)).heap[gb414]? = some (.cells #[.int .i64 a1_0,.int .i64 a1_1,.int .i64 a1_2,.int .i64 a1_3,.int .i64 a1_4,.int .i64 a1_5] 23 (0,0))):=⟨by rw [← hq_];exact by (with_reducible repeat (first|refine bn ?_ _|refine bd ?_|refine ba ?_ _|refine bf ?_ NB414_418.out _));exact BK414.out⟩;have n2_ : Aside0 (((((wq_.setCell ⟨gb418,0,none⟩ (.int .i64 t419)).setCell ⟨gb418,1,none⟩ (.int .i64 t420)).setCell ⟨gb418,2,none⟩ (.int .i64 t421)).setCell ⟨gb418,3,none⟩ (.int .i64 t422)).heap[gb415]? = some (.cells #[.int .i64 0,.int .i64 0,.int .i64 0,.int .i64 0,.int .i64 0,.int .i64 0] 23 (0,0))):=⟨by rw [← hq_];exact by (with_reducible repeat (first|refine bn ?_ _|refine bd ?_|refine ba ?_ _|refine bf ?_ NB415_418.out _));exact BK415.out⟩;have n3_ : Aside0 (((((wq_.setCell ⟨gb418,0,none⟩ (.int .i64 t419)).setCell ⟨gb418,1,none⟩ (.int .i64 t420)).setCell ⟨gb418,2,none⟩ (.int .i64 t421)).setCell ⟨gb418,3,none⟩ (.int .i64 t422)).heap[gb418]? = some (.cells #[.int .i64 t419,.int .i64 t420,.int .i64 t421,.int .i64 t422,.int .i64 0,.int .i64 0] 23 (0,0))):=⟨by rw [← hq_];exact by (with_reducible repeat (first|refine bn ?_ _|refine bd ?_|refine ba ?_ _));refine bp (cs:=#[.int .i64 t419,.int .i64 t420,.int .i64 t421,.int .i64 0,.int .i64 0,.int .i64 0]) ?_ 3 _ rfl;(with_reducible repeat (first|refine bn ?_ _|refine bd ?_|refine ba ?_ _));refine bp (cs:=#[.int .i64 t419,.int .i64 t420,.int .i64 0,.int .i64 0,.int .i64 0,.int .i64 0]) ?_ 2 _ rfl;(with_reducible repeat (first|refine bn ?_ _|refine bd ?_|refine ba ?_ _));refine bp (cs:=#[.int .i64 t419,.int .i64 0,.int .i64 0,.int .i64 0,.int .i64 0,.int .i64 0]) ?_ 1 _ rfl;(with_reducible repeat (first|refine bn ?_ _|refine bd ?_|refine ba ?_ _));refine bp (cs:=#[.int .i64 0,.int .i64 0,.int .i64 0,.int .i64 0,.int .i64 0,.int .i64 0]) ?_ 0 _ rfl;(with_reducible repeat (first|refine bn ?_ _|refine bd ?_|refine ba ?_ _));exact BK418.out⟩;have n4_ : Aside0 (Below w.heap.size w ((((wq_.setCell ⟨gb418,0,none⟩ (.int .i64 t419)).setCell ⟨gb418,1,none⟩ (.int .i64 t420)).setCell ⟨gb418,2,none⟩ (.int .i64 t421)).setCell ⟨gb418,3,none⟩ (.int .i64 t422))):=⟨by rw [← hq_];exact by repeat (first|(with_reducible first|exact HB.out|apply sa|apply sn|apply sd|refine sy ?_ (by assumption))|exact HB.out)⟩;(try clear BK413);(try clear BK414);(try clear BK415);(try clear BK418);(try clear HB);generalize ((((wq_.setCell ⟨gb418,0,none⟩ (.int .i64 t419)).setCell ⟨gb418,1,none⟩ (.int .i64 t420)).setCell ⟨gb418,2,none⟩ (.int .i64 t421)).setCell ⟨gb418,3,none⟩ (.int .i64 t422)) = w45 at n0_ n1_ n2_ n3_ n4_ ⊢;have BK413:=n0_;have BK414:=n1_;have BK415:=n2_;have BK418:=n3_;have HB:=n4_;clear n0_ n1_ n2_ n3_ n4_
          (repeat (rw [drewN_self w45];generalize hq_ : World.drewN w45 _ = w45;have n0_ : Aside0 (w45.heap[gb413]? = some (.cells #[.int .i64 a0_0,.int .i64 a0_1,.int .i64 a0_2,.int .i64 a0_3,.int .i64 a0_4,.int .i64 a0_5] 23 (0,0))):=⟨by rw [← hq_];exact (by exact BK413.out)⟩;have n1_ : Aside0 (w45.heap[gb414]? = some (.cells #[.int .i64 a1_0,.int .i64 a1_1,.int .i64 a1_2,.int .i64 a1_3,.int .i64 a1_4,.int .i64 a1_5] 23 (0,0))):=⟨by rw [← hq_];exact (by exact BK414.out)⟩;have n2_ : Aside0 (w45.heap[gb415]? = some (.cells #[.int .i64 0,.int .i64 0,.int .i64 0,.int .i64 0,.int .i64 0,.int .i64 0] 23 (0,0))):=⟨by rw [← hq_];exact (by exact BK415.out)⟩;have n3_ : Aside0 (w45.heap[gb418]? = some (.cells #[.int .i64 t419,.int .i64 t420,.int .i64 t421,.int .i64 t422,.int .i64 0,.int .i64 0] 23 (0,0))):=⟨by rw [← hq_];exact (by exact BK418.out)⟩;have n4_ : Aside0 (Below w.heap.size w w45):=⟨by rw [← hq_];exact (by repeat (first|(with_reducible first|exact HB.out|apply sa|apply sn|apply sd|refine sy ?_ (by assumption))|exact HB.out))⟩;clear BK413 BK414 BK415 BK418 HB hq_;have BK413:=n0_;have BK414:=n1_;have BK415:=n2_;have BK418:=n3_;have HB:=n4_;clear n0_ n1_ n2_ n3_ n4_))
          replace BK413:=am (bd BK413.out);replace BK414:=am (bd BK414.out);replace BK415:=am (bd BK415.out);replace BK418:=am (bd BK418.out);replace HB:=am (sd HB.out);refine start_ (n:=17) (S:=fun w' => w'.cell? ⟨gb413,0,none⟩ = some (.int .i64 a0_0) ∧ w'.cell? ⟨gb413,1,none⟩ = some (.int .i64 a0_1) ∧ w'.cell? ⟨gb413,2,none⟩ = some (.int .i64 a0_2) ∧ w'.cell? ⟨gb413,3,none⟩ = some (.int .i64 a0_3) ∧ w'.cell? ⟨gb413,4,none⟩ = some (.int .i64 a0_4) ∧ w'.cell? ⟨gb413,5,none⟩ = some (.int .i64 a0_5) ∧ w'.cell? ⟨gb414,0,none⟩ = some (.int .i64 a1_0) ∧ w'.cell? ⟨gb414,1,none⟩ = some (.int .i64 a1_1) ∧ w'.cell? ⟨gb414,2,none⟩ = some (.int .i64 a1_2) ∧ w'.cell? ⟨gb414,3,none⟩ = some (.int .i64 a1_3) ∧ w'.cell? ⟨gb414,4,none⟩ = some (.int .i64 a1_4) ∧ w'.cell? ⟨gb414,5,none⟩ = some (.int .i64 a1_5)) (ds:=[]) #[false,false,false,false,false,false,false,false,false,false,false,false,false,false,false,false,false] (by kernel_rfl) rfl rfl ⟨(bc BK413.out 0).trans rfl,(bc BK413.out 1).trans rfl,(bc BK413.out 2).trans rfl,(bc BK413.out 3).trans rfl,(bc BK413.out 4).trans rfl,(bc BK413.out 5).trans rfl,(bc BK414.out 0).trans rfl,(bc BK414.out 1).trans rfl,(bc BK414.out 2).trans rfl,(bc BK414.out 3).trans rfl,(bc BK414.out 4).trans rfl,(bc BK414.out 5).trans rfl⟩ (fun hHeld => ?_);refine with_tabW celluloidref14_Compose.tab8 celluloidref14_Compose.bits8 (fun HT_ HW_ => ?_);generalize w45.drew = w46 at BK413 BK414 BK415 BK418 HB hHeld ⊢;refine pure_ (i:=0) (N:=some 68) (v:=?_) (a':=?_) #[true,false,false,false,false,false,false,false,false,false,false,false,false,false,false,false,false] rfl rfl (any_of HT_.out (by kernel_rfl)) (fun _ _ _ h => h) (Or.inl ⟨by rfl,?_⟩) ?_ ?_
          rotate_left
          · intro w'
            go_simp
            with_reducible rfl
          rotate_left
          · simp only [Act.put,q1,q2,q3,i64_w,i32_w]
            rfl
          refine pure_ (i:=2) (N:=some 70) (v:=?_) (a':=?_) #[true,false,true,false,false,false,false,false,false,false,false,false,false,false,false,false,false] rfl rfl (any_of HT_.out (by kernel_rfl)) (fun _ _ _ h => h) (Or.inl ⟨by rfl,?_⟩) ?_ ?_
          rotate_left
          · intro w'
            go_simp
            with_reducible rfl
          rotate_left
          · simp only [Act.put,q1,q2,q3,i64_w,i32_w]
            rfl
          refine pure_ (i:=4) (N:=some 72) (v:=?_) (a':=?_) #[true,false,true,false,true,false,false,false,false,false,false,false,false,false,false,false,false] rfl rfl (any_of HT_.out (by kernel_rfl)) (fun _ _ _ h => h) (Or.inl ⟨by rfl,?_⟩) ?_ ?_
          rotate_left
          · intro w'
            go_simp
            with_reducible rfl
          rotate_left
          · simp only [Act.put,q1,q2,q3,i64_w,i32_w]
            rfl
          refine pure_ (i:=7) (N:=some 75) (v:=?_) (a':=?_) #[true,false,true,false,true,false,false,true,false,false,false,false,false,false,false,false,false] rfl rfl (any_of HT_.out (by kernel_rfl)) (fun _ _ _ h => h) (Or.inl ⟨by rfl,?_⟩) ?_ ?_
          rotate_left
          · intro w'
            go_simp
            with_reducible rfl
          rotate_left
          · simp only [Act.put,q1,q2,q3,i64_w,i32_w]
            rfl
          refine pure_ (i:=9) (N:=some 77) (v:=?_) (a':=?_) #[true,false,true,false,true,false,false,true,false,true,false,false,false,false,false,false,false] rfl rfl (any_of HT_.out (by kernel_rfl)) (fun _ _ _ h => h) (Or.inl ⟨by rfl,?_⟩) ?_ ?_
          rotate_left
          · intro w'
            go_simp
            with_reducible rfl
          rotate_left
          · simp only [Act.put,q1,q2,q3,i64_w,i32_w]
            rfl
          refine take_ (i:=1) (N:=some 69) (v:=?_) (a':=?_) #[true,true,true,false,true,false,false,true,false,true,false,false,false,false,false,false,false] rfl rfl (take_ofW HT_.out HW_.out (by kernel_rfl)) (fun _ _ _ h => h) (Or.inl ⟨by rfl,?_⟩) hHeld ?_ ?_
          rotate_left
          · rintro w' ⟨s0,s1,s2,s3,s4,s5,s6,s7,s8,s9,s10,s11⟩
            go_simp
            with_reducible rfl
          rotate_left
          · simp only [Act.put,q1,q2,q3,i64_w,i32_w]
            rfl
          refine take_ (i:=3) (N:=some 71) (v:=?_) (a':=?_) #[true,true,true,true,true,false,false,true,false,true,false,false,false,false,false,false,false] rfl rfl (take_ofW HT_.out HW_.out (by kernel_rfl)) (fun _ _ _ h => h) (Or.inl ⟨by rfl,?_⟩) hHeld ?_ ?_
          rotate_left
          · rintro w' ⟨s0,s1,s2,s3,s4,s5,s6,s7,s8,s9,s10,s11⟩
            go_simp
            with_reducible rfl
          rotate_left
          · simp only [Act.put,q1,q2,q3,i64_w,i32_w]
            rfl
          refine take_ (i:=5) (N:=some 73) (v:=?_) (a':=?_) #[true,true,true,true,true,true,false,true,false,true,false,false,false,false,false,false,false] rfl rfl (take_ofW HT_.out HW_.out (by kernel_rfl)) (fun _ _ _ h => h) (Or.inl ⟨by rfl,?_⟩) hHeld ?_ ?_
          rotate_left
          · rintro w' ⟨s0,s1,s2,s3,s4,s5,s6,s7,s8,s9,s10,s11⟩
            go_simp
            with_reducible rfl
          rotate_left
          · simp only [Act.put,q1,q2,q3,i64_w,i32_w]
            rfl
          refine pure_ (i:=6) (N:=some 74) (v:=?_) (a':=?_) #[true,true,true,true,true,true,true,true,false,true,false,false,false,false,false,false,false] rfl rfl (any_of HT_.out (by kernel_rfl)) (fun _ _ _ h => h) (Or.inl ⟨by rfl,?_⟩) ?_ ?_
          rotate_left
          · intro w'
            go_simp
            with_reducible rfl
          rotate_left
          · simp only [Act.put,q1,q2,q3,i64_w,i32_w]
            rfl
          refine take_ (i:=8) (N:=some 76) (v:=?_) (a':=?_) #[true,true,true,true,true,true,true,true,true,true,false,false,false,false,false,false,false] rfl rfl (take_ofW HT_.out HW_.out (by kernel_rfl)) (fun _ _ _ h => h) (Or.inl ⟨by rfl,?_⟩) hHeld ?_ ?_
          rotate_left
          · rintro w' ⟨s0,s1,s2,s3,s4,s5,s6,s7,s8,s9,s10,s11⟩
            go_simp
            with_reducible rfl
          rotate_left
          · simp only [Act.put,q1,q2,q3,i64_w,i32_w]
            rfl
          refine take_ (i:=10) (N:=some 78) (v:=?_) (a':=?_) #[true,true,true,true,true,true,true,true,true,true,true,false,false,false,false,false,false] rfl rfl (take_ofW HT_.out HW_.out (by kernel_rfl)) (fun _ _ _ h => h) (Or.inl ⟨by rfl,?_⟩) hHeld ?_ ?_
          rotate_left
          · rintro w' ⟨s0,s1,s2,s3,s4,s5,s6,s7,s8,s9,s10,s11⟩
            go_simp
            with_reducible rfl
          rotate_left
          · simp only [Act.put,q1,q2,q3,i64_w,i32_w]
            rfl
          refine pure_ (i:=11) (N:=some 79) (v:=?_) (a':=?_) #[true,true,true,true,true,true,true,true,true,true,true,true,false,false,false,false,false] rfl rfl (any_of HT_.out (by kernel_rfl)) (fun _ _ _ h => h) (Or.inl ⟨by rfl,?_⟩) ?_ ?_
          rotate_left
          · intro w'
            go_simp
            with_reducible rfl
          rotate_left
          · simp only [Act.put,q1,q2,q3,i64_w,i32_w]
            rfl
          refine pure_ (i:=12) (N:=some 80) (v:=?_) (a':=?_) #[true,true,true,true,true,true,true,true,true,true,true,true,true,false,false,false,false] rfl rfl (any_of HT_.out (by kernel_rfl)) (fun _ _ _ h => h) (Or.inl ⟨by rfl,?_⟩) ?_ ?_
          rotate_left
          · intro w'
            go_simp
            with_reducible rfl
          rotate_left
          · simp only [Act.put,q1,q2,q3,i64_w,i32_w]
            rfl
          refine one_ (i:=13) (N:=some 81) #[true,true,true,true,true,true,true,true,true,true,true,true,true,true,false,false,false] rfl rfl (one_of HT_.out (by kernel_rfl)) (by decide) (fun K hK => ?_);refine goes_ Try.func36 (by kernel_rfl) rfl #[.int .i64 (wrap64 ((wrap64 (a0_0 * a1_4)) + (wrap64 (a0_2 * a1_5)))),.int .i64 65536] (by rfl) rfl rfl (by (try simp only [List.map_toArray,List.map_cons,List.map_nil]);first|done|rfl|(simp only [List.length_drop,List.length_take];rfl)) ?_
          with_reducible refine (celluloidref14_floor.calls (wrap64 ((wrap64 (a0_0 * a1_4)) + (wrap64 (a0_2 * a1_5)))) 65536 t423 _ A29.out).mono ?_
          rintro e w' ⟨rfl,⟨nd,rfl⟩⟩
          refine ⟨_,rfl,?_⟩;refine hK.out _ _ ⟨(bc BK413.out 0).trans rfl,(bc BK413.out 1).trans rfl,(bc BK413.out 2).trans rfl,(bc BK413.out 3).trans rfl,(bc BK413.out 4).trans rfl,(bc BK413.out 5).trans rfl,(bc BK414.out 0).trans rfl,(bc BK414.out 1).trans rfl,(bc BK414.out 2).trans rfl,(bc BK414.out 3).trans rfl,(bc BK414.out 4).trans rfl,(bc BK414.out 5).trans rfl⟩ (fun hHeld => ?_);clear hK K;refine norm_ (a':=?_) ?_ ?_
          rotate_left
          · show Act.put _ (some 81) _ = _
            simp only [Act.put,q1,q2,q3,i64_w,i32_w]
            rfl
          refine pure_ (i:=14) (N:=some 82) (v:=?_) (a':=?_) #[true,true,true,true,true,true,true,true,true,true,true,true,true,true,true,false,false] rfl rfl (any_of HT_.out (by kernel_rfl)) (fun _ _ _ h => h) (Or.inl ⟨by rfl,?_⟩) ?_ ?_
          rotate_left
          · intro w'
            go_simp
            with_reducible rfl
          rotate_left
          · simp only [Act.put,q1,q2,q3,i64_w,i32_w]
            rfl
          refine pure_ (i:=15) (N:=some 83) (v:=?_) (a':=?_) #[true,true,true,true,true,true,true,true,true,true,true,true,true,true,true,true,false] rfl rfl (any_of HT_.out (by kernel_rfl)) (fun _ _ _ h => h) (Or.inl ⟨by rfl,?_⟩) ?_ ?_
          rotate_left
          · intro w'
            go_simp
            with_reducible rfl
          rotate_left
          · simp only [Act.put,q1,q2,q3,i64_w,i32_w]
            rfl
          refine one_ (i:=16) (N:=none) #[true,true,true,true,true,true,true,true,true,true,true,true,true,true,true,true,true] rfl rfl (one_of HT_.out (by kernel_rfl)) (by decide) (fun K hK => ?_);have hs47 : w46.cell? ⟨gb418,4,none⟩ = some (.int .i64 0):=(bc BK418.out 4).trans rfl;have hfs47:=bz BK418.out 4;have hns47_0:=NB413_418.out;have hns47_1:=NB414_418.out;have hns47_2:=NB415_418.out;have hms47_0:=NB418_413.out;have hms47_1:=NB418_414.out;have hms47_2:=NB418_415.out;refine skip_ (w1:=?_) (by rfl) rfl ?_ ?_
          rotate_left
          · go_simp
            rfl
          refine hK.out _ _ ⟨((cell_far (p:=⟨gb418,_,none⟩) NB413_418.out _).trans (hHeld.1)),((cell_far (p:=⟨gb418,_,none⟩) NB413_418.out _).trans (hHeld.2.1)),((cell_far (p:=⟨gb418,_,none⟩) NB413_418.out _).trans (hHeld.2.2.1)),((cell_far (p:=⟨gb418,_,none⟩) NB413_418.out _).trans (hHeld.2.2.2.1)),((cell_far (p:=⟨gb418,_,none⟩) NB413_418.out _).trans (hHeld.2.2.2.2.1)),((cell_far (p:=⟨gb418,_,none⟩) NB413_418.out _).trans (hHeld.2.2.2.2.2.1)),((cell_far (p:=⟨gb418,_,none⟩) NB414_418.out _).trans (hHeld.2.2.2.2.2.2.1)),((cell_far (p:=⟨gb418,_,none⟩) NB414_418.out _).trans (hHeld.2.2.2.2.2.2.2.1)),((cell_far (p:=⟨gb418,_,none⟩) NB414_418.out _).trans (hHeld.2.2.2.2.2.2.2.2.1)),((cell_far (p:=⟨gb418,_,none⟩) NB414_418.out _).trans (hHeld.2.2.2.2.2.2.2.2.2.1)),((cell_far (p:=⟨gb418,_,none⟩) NB414_418.out _).trans (hHeld.2.2.2.2.2.2.2.2.2.2.1)),((cell_far (p:=⟨gb418,_,none⟩) NB414_418.out _).trans (hHeld.2.2.2.2.2.2.2.2.2.2.2))⟩ (fun hHeld => ?_);clear hK K;refine done_ (done_of HT_.out (by kernel_rfl)) ?_
          try go_wp2
          repeat rw [drewN_set]
          repeat rw [drewN_two]
          first|(rw [drewN_self w46];generalize hq_ : World.drewN w46 _ = wq_)|(generalize hq_ : w46 = wq_)
          have n0_ : Aside0 ((wq_.setCell ⟨gb418,4,none⟩ (.int .i64 (wrap64 (a0_4 + t423)))).heap[gb413]? = some (.cells #[.int .i64 a0_0,.int .i64 a0_1,.int .i64 a0_2,.int .i64 a0_3,.int .i64 a0_4,.int .i64 a0_5] 23 (0,0))):=⟨by rw [← hq_];exact by (with_reducible repeat (first|refine bn ?_ _|refine bd ?_|refine ba ?_ _|refine bf ?_ NB413_418.out _));exact BK413.out⟩;have n1_ : Aside0 ((wq_.setCell ⟨gb418,4,none⟩ (.int .i64 (wrap64 (a0_4 + t423)))).heap[gb414]? = some (.cells #[.int .i64 a1_0,.int .i64 a1_1,.int .i64 a1_2,.int .i64 a1_3,.int .i64 a1_4,.int .i64 a1_5] 23 (0,0))):=⟨by rw [← hq_];exact by (with_reducible repeat (first|refine bn ?_ _|refine bd ?_|refine ba ?_ _|refine bf ?_ NB414_418.out _));exact BK414.out⟩;have n2_ : Aside0 ((wq_.setCell ⟨gb418,4,none⟩ (.int .i64 (wrap64 (a0_4 + t423)))).heap[gb415]? = some (.cells #[.int .i64 0,.int .i64 0,.int .i64 0,.int .i64 0,.int .i64 0,.int .i64 0] 23 (0,0))):=⟨by rw [← hq_];exact by (with_reducible repeat (first|refine bn ?_ _|refine bd ?_|refine ba ?_ _|refine bf ?_ NB415_418.out _));exact BK415.out⟩;have n3_ : Aside0 ((wq_.setCell ⟨gb418,4,none⟩ (.int .i64 (wrap64 (a0_4 + t423)))).heap[gb418]? = some (.cells #[.int .i64 t419,.int .i64 t420,.int .i64 t421,.int .i64 t422,.int .i64 (wrap64 (a0_4 + t423)),.int .i64 0] 23 (0,0))):=⟨by rw [← hq_];exact by (with_reducible repeat (first|refine bn ?_ _|refine bd ?_|refine ba ?_ _));refine bp (cs:=#[.int .i64 t419,.int .i64 t420,.int .i64 t421,.int .i64 t422,.int .i64 0,.int .i64 0]) ?_ 4 _ rfl;(with_reducible repeat (first|refine bn ?_ _|refine bd ?_|refine ba ?_ _));exact BK418.out⟩;have n4_ : Aside0 (Below w.heap.size w (wq_.setCell ⟨gb418,4,none⟩ (.int .i64 (wrap64 (a0_4 + t423))))):=⟨by rw [← hq_];exact by repeat (first|(with_reducible first|exact HB.out|apply sa|apply sn|apply sd|refine sy ?_ (by assumption))|exact HB.out)⟩;(try clear BK413);(try clear BK414);(try clear BK415);(try clear BK418);(try clear HB);generalize (wq_.setCell ⟨gb418,4,none⟩ (.int .i64 (wrap64 (a0_4 + t423)))) = w48 at n0_ n1_ n2_ n3_ n4_ ⊢;have BK413:=n0_;have BK414:=n1_;have BK415:=n2_;have BK418:=n3_;have HB:=n4_;clear n0_ n1_ n2_ n3_ n4_
          (repeat (rw [drewN_self w48];generalize hq_ : World.drewN w48 _ = w48;have n0_ : Aside0 (w48.heap[gb413]? = some (.cells #[.int .i64 a0_0,.int .i64 a0_1,.int .i64 a0_2,.int .i64 a0_3,.int .i64 a0_4,.int .i64 a0_5] 23 (0,0))):=⟨by rw [← hq_];exact (by exact BK413.out)⟩;have n1_ : Aside0 (w48.heap[gb414]? = some (.cells #[.int .i64 a1_0,.int .i64 a1_1,.int .i64 a1_2,.int .i64 a1_3,.int .i64 a1_4,.int .i64 a1_5] 23 (0,0))):=⟨by rw [← hq_];exact (by exact BK414.out)⟩;have n2_ : Aside0 (w48.heap[gb415]? = some (.cells #[.int .i64 0,.int .i64 0,.int .i64 0,.int .i64 0,.int .i64 0,.int .i64 0] 23 (0,0))):=⟨by rw [← hq_];exact (by exact BK415.out)⟩;have n3_ : Aside0 (w48.heap[gb418]? = some (.cells #[.int .i64 t419,.int .i64 t420,.int .i64 t421,.int .i64 t422,.int .i64 (wrap64 (a0_4 + t423)),.int .i64 0] 23 (0,0))):=⟨by rw [← hq_];exact (by exact BK418.out)⟩;have n4_ : Aside0 (Below w.heap.size w w48):=⟨by rw [← hq_];exact (by repeat (first|(with_reducible first|exact HB.out|apply sa|apply sn|apply sd|refine sy ?_ (by assumption))|exact HB.out))⟩;clear BK413 BK414 BK415 BK418 HB hq_;have BK413:=n0_;have BK414:=n1_;have BK415:=n2_;have BK418:=n3_;have HB:=n4_;clear n0_ n1_ n2_ n3_ n4_))
          replace BK413:=am (bd BK413.out);replace BK414:=am (bd BK414.out);replace BK415:=am (bd BK415.out);replace BK418:=am (bd BK418.out);replace HB:=am (sd HB.out);refine start_ (n:=17) (S:=fun w' => w'.cell? ⟨gb413,0,none⟩ = some (.int .i64 a0_0) ∧ w'.cell? ⟨gb413,1,none⟩ = some (.int .i64 a0_1) ∧ w'.cell? ⟨gb413,2,none⟩ = some (.int .i64 a0_2) ∧ w'.cell? ⟨gb413,3,none⟩ = some (.int .i64 a0_3) ∧ w'.cell? ⟨gb413,4,none⟩ = some (.int .i64 a0_4) ∧ w'.cell? ⟨gb413,5,none⟩ = some (.int .i64 a0_5) ∧ w'.cell? ⟨gb414,0,none⟩ = some (.int .i64 a1_0) ∧ w'.cell? ⟨gb414,1,none⟩ = some (.int .i64 a1_1) ∧ w'.cell? ⟨gb414,2,none⟩ = some (.int .i64 a1_2) ∧ w'.cell? ⟨gb414,3,none⟩ = some (.int .i64 a1_3) ∧ w'.cell? ⟨gb414,4,none⟩ = some (.int .i64 a1_4) ∧ w'.cell? ⟨gb414,5,none⟩ = some (.int .i64 a1_5)) (ds:=[]) #[false,false,false,false,false,false,false,false,false,false,false,false,false,false,false,false,false] (by kernel_rfl) rfl rfl ⟨(bc BK413.out 0).trans rfl,(bc BK413.out 1).trans rfl,(bc BK413.out 2).trans rfl,(bc BK413.out 3).trans rfl,(bc BK413.out 4).trans rfl,(bc BK413.out 5).trans rfl,(bc BK414.out 0).trans rfl,(bc BK414.out 1).trans rfl,(bc BK414.out 2).trans rfl,(bc BK414.out 3).trans rfl,(bc BK414.out 4).trans rfl,(bc BK414.out 5).trans rfl⟩ (fun hHeld => ?_);refine with_tabW celluloidref14_Compose.tab9 celluloidref14_Compose.bits9 (fun HT_ HW_ => ?_);generalize w48.drew = w49 at BK413 BK414 BK415 BK418 HB hHeld ⊢;refine pure_ (i:=0) (N:=some 84) (v:=?_) (a':=?_) #[true,false,false,false,false,false,false,false,false,false,false,false,false,false,false,false,false] rfl rfl (any_of HT_.out (by kernel_rfl)) (fun _ _ _ h => h) (Or.inl ⟨by rfl,?_⟩) ?_ ?_
          rotate_left
          · intro w'
            go_simp
            with_reducible rfl
          rotate_left
          · simp only [Act.put,q1,q2,q3,i64_w,i32_w]
            rfl
          refine pure_ (i:=2) (N:=some 86) (v:=?_) (a':=?_) #[true,false,true,false,false,false,false,false,false,false,false,false,false,false,false,false,false] rfl rfl (any_of HT_.out (by kernel_rfl)) (fun _ _ _ h => h) (Or.inl ⟨by rfl,?_⟩) ?_ ?_
          rotate_left
          · intro w'
            go_simp
            with_reducible rfl
          rotate_left
          · simp only [Act.put,q1,q2,q3,i64_w,i32_w]
            rfl
          refine pure_ (i:=4) (N:=some 88) (v:=?_) (a':=?_) #[true,false,true,false,true,false,false,false,false,false,false,false,false,false,false,false,false] rfl rfl (any_of HT_.out (by kernel_rfl)) (fun _ _ _ h => h) (Or.inl ⟨by rfl,?_⟩) ?_ ?_
          rotate_left
          · intro w'
            go_simp
            with_reducible rfl
          rotate_left
          · simp only [Act.put,q1,q2,q3,i64_w,i32_w]
            rfl
          refine pure_ (i:=7) (N:=some 91) (v:=?_) (a':=?_) #[true,false,true,false,true,false,false,true,false,false,false,false,false,false,false,false,false] rfl rfl (any_of HT_.out (by kernel_rfl)) (fun _ _ _ h => h) (Or.inl ⟨by rfl,?_⟩) ?_ ?_
          rotate_left
          · intro w'
            go_simp
            with_reducible rfl
          rotate_left
          · simp only [Act.put,q1,q2,q3,i64_w,i32_w]
            rfl
          refine pure_ (i:=9) (N:=some 93) (v:=?_) (a':=?_) #[true,false,true,false,true,false,false,true,false,true,false,false,false,false,false,false,false] rfl rfl (any_of HT_.out (by kernel_rfl)) (fun _ _ _ h => h) (Or.inl ⟨by rfl,?_⟩) ?_ ?_
          rotate_left
          · intro w'
            go_simp
            with_reducible rfl
          rotate_left
          · simp only [Act.put,q1,q2,q3,i64_w,i32_w]
            rfl
          refine take_ (i:=1) (N:=some 85) (v:=?_) (a':=?_) #[true,true,true,false,true,false,false,true,false,true,false,false,false,false,false,false,false] rfl rfl (take_ofW HT_.out HW_.out (by kernel_rfl)) (fun _ _ _ h => h) (Or.inl ⟨by rfl,?_⟩) hHeld ?_ ?_
          rotate_left
          · rintro w' ⟨s0,s1,s2,s3,s4,s5,s6,s7,s8,s9,s10,s11⟩
            go_simp
            with_reducible rfl
          rotate_left
          · simp only [Act.put,q1,q2,q3,i64_w,i32_w]
            rfl
          refine take_ (i:=3) (N:=some 87) (v:=?_) (a':=?_) #[true,true,true,true,true,false,false,true,false,true,false,false,false,false,false,false,false] rfl rfl (take_ofW HT_.out HW_.out (by kernel_rfl)) (fun _ _ _ h => h) (Or.inl ⟨by rfl,?_⟩) hHeld ?_ ?_
          rotate_left
          · rintro w' ⟨s0,s1,s2,s3,s4,s5,s6,s7,s8,s9,s10,s11⟩
            go_simp
            with_reducible rfl
          rotate_left
          · simp only [Act.put,q1,q2,q3,i64_w,i32_w]
            rfl
          refine take_ (i:=5) (N:=some 89) (v:=?_) (a':=?_) #[true,true,true,true,true,true,false,true,false,true,false,false,false,false,false,false,false] rfl rfl (take_ofW HT_.out HW_.out (by kernel_rfl)) (fun _ _ _ h => h) (Or.inl ⟨by rfl,?_⟩) hHeld ?_ ?_
          rotate_left
          · rintro w' ⟨s0,s1,s2,s3,s4,s5,s6,s7,s8,s9,s10,s11⟩
            go_simp
            with_reducible rfl
          rotate_left
          · simp only [Act.put,q1,q2,q3,i64_w,i32_w]
            rfl
          refine pure_ (i:=6) (N:=some 90) (v:=?_) (a':=?_) #[true,true,true,true,true,true,true,true,false,true,false,false,false,false,false,false,false] rfl rfl (any_of HT_.out (by kernel_rfl)) (fun _ _ _ h => h) (Or.inl ⟨by rfl,?_⟩) ?_ ?_
          rotate_left
          · intro w'
            go_simp
            with_reducible rfl
          rotate_left
          · simp only [Act.put,q1,q2,q3,i64_w,i32_w]
            rfl
          refine take_ (i:=8) (N:=some 92) (v:=?_) (a':=?_) #[true,true,true,true,true,true,true,true,true,true,false,false,false,false,false,false,false] rfl rfl (take_ofW HT_.out HW_.out (by kernel_rfl)) (fun _ _ _ h => h) (Or.inl ⟨by rfl,?_⟩) hHeld ?_ ?_
          rotate_left
          · rintro w' ⟨s0,s1,s2,s3,s4,s5,s6,s7,s8,s9,s10,s11⟩
            go_simp
            with_reducible rfl
          rotate_left
          · simp only [Act.put,q1,q2,q3,i64_w,i32_w]
            rfl
          refine take_ (i:=10) (N:=some 94) (v:=?_) (a':=?_) #[true,true,true,true,true,true,true,true,true,true,true,false,false,false,false,false,false] rfl rfl (take_ofW HT_.out HW_.out (by kernel_rfl)) (fun _ _ _ h => h) (Or.inl ⟨by rfl,?_⟩) hHeld ?_ ?_
          rotate_left
          · rintro w' ⟨s0,s1,s2,s3,s4,s5,s6,s7,s8,s9,s10,s11⟩
            go_simp
            with_reducible rfl
          rotate_left
          · simp only [Act.put,q1,q2,q3,i64_w,i32_w]
            rfl
          refine pure_ (i:=11) (N:=some 95) (v:=?_) (a':=?_) #[true,true,true,true,true,true,true,true,true,true,true,true,false,false,false,false,false] rfl rfl (any_of HT_.out (by kernel_rfl)) (fun _ _ _ h => h) (Or.inl ⟨by rfl,?_⟩) ?_ ?_
          rotate_left
          · intro w'
            go_simp
            with_reducible rfl
          rotate_left
          · simp only [Act.put,q1,q2,q3,i64_w,i32_w]
            rfl
          refine pure_ (i:=12) (N:=some 96) (v:=?_) (a':=?_) #[true,true,true,true,true,true,true,true,true,true,true,true,true,false,false,false,false] rfl rfl (any_of HT_.out (by kernel_rfl)) (fun _ _ _ h => h) (Or.inl ⟨by rfl,?_⟩) ?_ ?_
          rotate_left
          · intro w'
            go_simp
            with_reducible rfl
          rotate_left
          · simp only [Act.put,q1,q2,q3,i64_w,i32_w]
            rfl
          refine one_ (i:=13) (N:=some 97) #[true,true,true,true,true,true,true,true,true,true,true,true,true,true,false,false,false] rfl rfl (one_of HT_.out (by kernel_rfl)) (by decide) (fun K hK => ?_);refine goes_ Try.func36 (by kernel_rfl) rfl #[.int .i64 (wrap64 ((wrap64 (a0_1 * a1_4)) + (wrap64 (a0_3 * a1_5)))),.int .i64 65536] (by rfl) rfl rfl (by (try simp only [List.map_toArray,List.map_cons,List.map_nil]);first|done|rfl|(simp only [List.length_drop,List.length_take];rfl)) ?_
          with_reducible refine (celluloidref14_floor.calls (wrap64 ((wrap64 (a0_1 * a1_4)) + (wrap64 (a0_3 * a1_5)))) 65536 t424 _ A30.out).mono ?_
          rintro e w' ⟨rfl,⟨nd,rfl⟩⟩
          refine ⟨_,rfl,?_⟩;refine hK.out _ _ ⟨(bc BK413.out 0).trans rfl,(bc BK413.out 1).trans rfl,(bc BK413.out 2).trans rfl,(bc BK413.out 3).trans rfl,(bc BK413.out 4).trans rfl,(bc BK413.out 5).trans rfl,(bc BK414.out 0).trans rfl,(bc BK414.out 1).trans rfl,(bc BK414.out 2).trans rfl,(bc BK414.out 3).trans rfl,(bc BK414.out 4).trans rfl,(bc BK414.out 5).trans rfl⟩ (fun hHeld => ?_);clear hK K;refine norm_ (a':=?_) ?_ ?_
          rotate_left
          · show Act.put _ (some 97) _ = _
            simp only [Act.put,q1,q2,q3,i64_w,i32_w]
            rfl
          refine pure_ (i:=14) (N:=some 98) (v:=?_) (a':=?_) #[true,true,true,true,true,true,true,true,true,true,true,true,true,true,true,false,false] rfl rfl (any_of HT_.out (by kernel_rfl)) (fun _ _ _ h => h) (Or.inl ⟨by rfl,?_⟩) ?_ ?_
          rotate_left
          · intro w'
            go_simp
            with_reducible rfl
          rotate_left
          · simp only [Act.put,q1,q2,q3,i64_w,i32_w]
            rfl
          refine pure_ (i:=15) (N:=some 99) (v:=?_) (a':=?_) #[true,true,true,true,true,true,true,true,true,true,true,true,true,true,true,true,false] rfl rfl (any_of HT_.out (by kernel_rfl)) (fun _ _ _ h => h) (Or.inl ⟨by rfl,?_⟩) ?_ ?_
          rotate_left
          · intro w'
            go_simp
            with_reducible rfl
          rotate_left
          · simp only [Act.put,q1,q2,q3,i64_w,i32_w]
            rfl
          refine one_ (i:=16) (N:=none) #[true,true,true,true,true,true,true,true,true,true,true,true,true,true,true,true,true] rfl rfl (one_of HT_.out (by kernel_rfl)) (by decide) (fun K hK => ?_);have hs50 : w49.cell? ⟨gb418,5,none⟩ = some (.int .i64 0):=(bc BK418.out 5).trans rfl;have hfs50:=bz BK418.out 5;have hns50_0:=NB413_418.out;have hns50_1:=NB414_418.out;have hns50_2:=NB415_418.out;have hms50_0:=NB418_413.out;have hms50_1:=NB418_414.out;have hms50_2:=NB418_415.out;refine skip_ (w1:=?_) (by rfl) rfl ?_ ?_
          rotate_left
          · go_simp
            rfl
          refine hK.out _ _ ⟨((cell_far (p:=⟨gb418,_,none⟩) NB413_418.out _).trans (hHeld.1)),((cell_far (p:=⟨gb418,_,none⟩) NB413_418.out _).trans (hHeld.2.1)),((cell_far (p:=⟨gb418,_,none⟩) NB413_418.out _).trans (hHeld.2.2.1)),((cell_far (p:=⟨gb418,_,none⟩) NB413_418.out _).trans (hHeld.2.2.2.1)),((cell_far (p:=⟨gb418,_,none⟩) NB413_418.out _).trans (hHeld.2.2.2.2.1)),((cell_far (p:=⟨gb418,_,none⟩) NB413_418.out _).trans (hHeld.2.2.2.2.2.1)),((cell_far (p:=⟨gb418,_,none⟩) NB414_418.out _).trans (hHeld.2.2.2.2.2.2.1)),((cell_far (p:=⟨gb418,_,none⟩) NB414_418.out _).trans (hHeld.2.2.2.2.2.2.2.1)),((cell_far (p:=⟨gb418,_,none⟩) NB414_418.out _).trans (hHeld.2.2.2.2.2.2.2.2.1)),((cell_far (p:=⟨gb418,_,none⟩) NB414_418.out _).trans (hHeld.2.2.2.2.2.2.2.2.2.1)),((cell_far (p:=⟨gb418,_,none⟩) NB414_418.out _).trans (hHeld.2.2.2.2.2.2.2.2.2.2.1)),((cell_far (p:=⟨gb418,_,none⟩) NB414_418.out _).trans (hHeld.2.2.2.2.2.2.2.2.2.2.2))⟩ (fun hHeld => ?_);clear hK K;refine done_ (done_of HT_.out (by kernel_rfl)) ?_;have hcz51_0 : w49.cell? ⟨gb418,0,none⟩ = some (.int .i64 t419):=(bc BK418.out 0).trans rfl;have hcz51_1 : w49.cell? ⟨gb418,1,none⟩ = some (.int .i64 t420):=(bc BK418.out 1).trans rfl;have hcz51_2 : w49.cell? ⟨gb418,2,none⟩ = some (.int .i64 t421):=(bc BK418.out 2).trans rfl;have hcz51_3 : w49.cell? ⟨gb418,3,none⟩ = some (.int .i64 t422):=(bc BK418.out 3).trans rfl;have hcz51_4 : w49.cell? ⟨gb418,4,none⟩ = some (.int .i64 (wrap64 (a0_4 + t423))):=(bc BK418.out 4).trans rfl;have hcz51_5 : w49.cell? ⟨gb418,5,none⟩ = some (.int .i64 0):=(bc BK418.out 5).trans rfl;have hfz51_0:=bz BK418.out 0;have hfz51_1:=bz BK418.out 1;have hfz51_2:=bz BK418.out 2;have hfz51_3:=bz BK418.out 3;have hfz51_4:=bz BK418.out 4;have hfz51_5:=bz BK418.out 5
          try go_wp2_with (first|((with_reducible refine gate_callee (f:=17) rfl ?_);refine goesL_ (some 101) rfl rfl Try.func17 (by kernel_rfl) rfl #[.agg #[.int .i64 t419,.int .i64 t420,.int .i64 t421,.int .i64 t422,.int .i64 (wrap64 (a0_4 + t423)),.int .i64 (wrap64 (a0_5 + t424))]] rfl (by (try simp only [List.map_toArray,List.map_cons,List.map_nil]);first|done|rfl|(simp only [List.length_drop,List.length_take];rfl)) ?_;(with_reducible refine (celluloidref07_Matrix.calls t419 t420 t421 t422 (wrap64 (a0_4 + t423)) (wrap64 (a0_5 + t424)) true _ A31.out).mono ?_);rintro e w52 ⟨rfl,hb⟩;refine ⟨_,rfl,?_⟩;replace BK413:=am (wz BK413.out (by (with_reducible repeat (first|refine bn ?_ _|refine bd ?_|refine ba ?_ _|refine bf ?_ NB413_418.out _));exact BK413.out) hb);replace BK414:=am (wz BK414.out (by (with_reducible repeat (first|refine bn ?_ _|refine bd ?_|refine ba ?_ _|refine bf ?_ NB414_418.out _));exact BK414.out) hb);replace BK415:=am (wz BK415.out (by (with_reducible repeat (first|refine bn ?_ _|refine bd ?_|refine ba ?_ _|refine bf ?_ NB415_418.out _));exact BK415.out) hb);replace BK418:=am (bw (g:=gb418) (o:=.cells #[.int .i64 t419,.int .i64 t420,.int .i64 t421,.int .i64 t422,.int .i64 (wrap64 (a0_4 + t423)),.int .i64 (wrap64 (a0_5 + t424))] 23 (0,0)) (by (with_reducible repeat (first|refine bn ?_ _|refine bd ?_|refine ba ?_ _));refine bp (cs:=#[.int .i64 t419,.int .i64 t420,.int .i64 t421,.int .i64 t422,.int .i64 (wrap64 (a0_4 + t423)),.int .i64 0]) ?_ 5 _ rfl;(with_reducible repeat (first|refine bn ?_ _|refine bd ?_|refine ba ?_ _));exact BK418.out) hb);replace HB:=am (ss (by repeat (first|(with_reducible first|exact HB.out|apply sa|apply sn|apply sd|refine sy ?_ (by assumption))|exact HB.out)) hb);(try clear hb);(try clear hb2);(try clear hk);(try clear hi);have hcz53_0 : w52.cell? ⟨gb418,0,none⟩ = some (.int .i64 t419):=(bc BK418.out 0).trans rfl;have hcz53_1 : w52.cell? ⟨gb418,1,none⟩ = some (.int .i64 t420):=(bc BK418.out 1).trans rfl;have hcz53_2 : w52.cell? ⟨gb418,2,none⟩ = some (.int .i64 t421):=(bc BK418.out 2).trans rfl;have hcz53_3 : w52.cell? ⟨gb418,3,none⟩ = some (.int .i64 t422):=(bc BK418.out 3).trans rfl;have hcz53_4 : w52.cell? ⟨gb418,4,none⟩ = some (.int .i64 (wrap64 (a0_4 + t423))):=(bc BK418.out 4).trans rfl;have hcz53_5 : w52.cell? ⟨gb418,5,none⟩ = some (.int .i64 (wrap64 (a0_5 + t424))):=(bc BK418.out 5).trans rfl;obtain ⟨hfz53_0,hfz53_1,hfz53_2,hfz53_3,hfz53_4,hfz53_5⟩:=fq6 BK418.out;obtain ⟨hcz54_0,hcz54_1,hcz54_2,hcz54_3,hcz54_4,hcz54_5⟩:=cq6 BK415.out;obtain ⟨hfz54_0,hfz54_1,hfz54_2,hfz54_3,hfz54_4,hfz54_5⟩:=fq6 BK415.out))
          refine bodyPost_ret (results_ct rfl _ _ gb415 23 #[.int .i64 t419,.int .i64 t420,.int .i64 t421,.int .i64 t422,.int .i64 (wrap64 (a0_4 + t423)),.int .i64 (wrap64 (a0_5 + t424))] (0,0) _ rfl (by (with_reducible repeat (first|refine bn ?_ _|refine bd ?_|refine ba ?_ _));refine bp (cs:=#[.int .i64 t419,.int .i64 t420,.int .i64 t421,.int .i64 t422,.int .i64 (wrap64 (a0_4 + t423)),.int .i64 0]) ?_ 5 _ rfl;(with_reducible repeat (first|refine bn ?_ _|refine bd ?_|refine ba ?_ _));refine bp (cs:=#[.int .i64 t419,.int .i64 t420,.int .i64 t421,.int .i64 t422,.int .i64 0,.int .i64 0]) ?_ 4 _ rfl;(with_reducible repeat (first|refine bn ?_ _|refine bd ?_|refine ba ?_ _));refine bp (cs:=#[.int .i64 t419,.int .i64 t420,.int .i64 t421,.int .i64 0,.int .i64 0,.int .i64 0]) ?_ 3 _ rfl;(with_reducible repeat (first|refine bn ?_ _|refine bd ?_|refine ba ?_ _));refine bp (cs:=#[.int .i64 t419,.int .i64 t420,.int .i64 0,.int .i64 0,.int .i64 0,.int .i64 0]) ?_ 2 _ rfl;(with_reducible repeat (first|refine bn ?_ _|refine bd ?_|refine ba ?_ _));refine bp (cs:=#[.int .i64 t419,.int .i64 0,.int .i64 0,.int .i64 0,.int .i64 0,.int .i64 0]) ?_ 1 _ rfl;(with_reducible repeat (first|refine bn ?_ _|refine bd ?_|refine ba ?_ _));refine bp (cs:=#[.int .i64 0,.int .i64 0,.int .i64 0,.int .i64 0,.int .i64 0,.int .i64 0]) ?_ 0 _ rfl;(with_reducible repeat (first|refine bn ?_ _|refine bd ?_|refine ba ?_ _));exact BK415.out) Try.underlying23 rfl (by kernel_rfl)) rfl ?_
          exact ⟨by first|rfl|(simp [errW_none,errW_some] <;> rfl)|(simp [*,errW_none,errW_some] <;> rfl),by repeat (first|(with_reducible first|exact HB.out|apply sa|apply sn|apply sd|refine sy ?_ (by assumption))|exact HB.out)⟩
        · replace c32:=Bool.eq_false_iff.mpr c32
          subst c32
          have H1 : (some (0,0,0,0,0,0,8)) = some (r1,r2,r3,r4,r5,r6,r7):=by rw [if_neg (show ¬ (false = true) by decide)] at H;exact H
          clear H;have H:=H1;clear H1;simp only [Option.some.injEq,Prod.mk.injEq] at H;obtain ⟨rfl,rfl,rfl,rfl,rfl,rfl,rfl⟩:=H
          try go_wp2_with (first|((with_reducible refine gate_dst (N:=6) rfl ?_);refine box_event ?hg (N:=6) ?hd (cs:=#[.int .i64 0,.int .i64 0,.int .i64 0,.int .i64 0,.int .i64 0,.int .i64 0]) (t:=23) ?hr ?_;(case hd => rfl);(case hg => rfl);(case hr => first|(go_simp;done)|(go_simp;rfl));intro gb418 hg w55 hbox hb;have BK418:=am (hbox);obtain ⟨h1_,GW418⟩:=sg (by repeat (first|(with_reducible first|exact HB.out|apply sa|apply sn|apply sd|refine sy ?_ (by assumption))|exact HB.out)) hb hg;replace HB:=h1_;clear h1_;have GE418:=GW418;have NB413_418:=nb (by exact BK413.out) hg;replace BK413:=am (bw (by exact BK413.out) hb);have NB418_413:=am (Ne.symm NB413_418.out);have NB414_418:=nb (by exact BK414.out) hg;replace BK414:=am (bw (by exact BK414.out) hb);have NB418_414:=am (Ne.symm NB414_418.out);have NB415_418:=nb (by exact BK415.out) hg;have NB418_415:=ng (by exact BK415.out) hg;replace BK415:=am (bw (by exact BK415.out) hb);clear hb hbox hg;have hnb56:=NB413_414.out;have hnc56:=NB414_413.out;have hnb57:=NB413_415.out;have hnc57:=NB415_413.out;have hnb58:=NB413_418.out;have hnc58:=NB418_413.out;obtain ⟨hcz59_0,hcz59_1,hcz59_2,hcz59_3,hcz59_4,hcz59_5⟩:=cq6 BK413.out;obtain ⟨hfz59_0,hfz59_1,hfz59_2,hfz59_3,hfz59_4,hfz59_5⟩:=fq6 BK413.out;have hnb60:=NB414_415.out;have hnc60:=NB415_414.out;have hnb61:=NB414_418.out;have hnc61:=NB418_414.out;obtain ⟨hcz62_0,hcz62_1,hcz62_2,hcz62_3,hcz62_4,hcz62_5⟩:=cq6 BK414.out;obtain ⟨hfz62_0,hfz62_1,hfz62_2,hfz62_3,hfz62_4,hfz62_5⟩:=fq6 BK414.out)|((with_reducible refine gate_callee (f:=36) rfl ?_);refine goesL_ (some 27) rfl rfl Try.func36 (by kernel_rfl) rfl #[.int .i64 (wrap64 ((wrap64 (a0_0 * a1_0)) + (wrap64 (a0_2 * a1_1)))),.int .i64 65536] rfl (by (try simp only [List.map_toArray,List.map_cons,List.map_nil]);first|done|rfl|(simp only [List.length_drop,List.length_take];rfl)) ?_;(with_reducible refine (celluloidref14_floor.calls (wrap64 ((wrap64 (a0_0 * a1_0)) + (wrap64 (a0_2 * a1_1)))) 65536 t419 _ A25.out).mono ?_);rintro e w' ⟨rfl,⟨nd,rfl⟩⟩;refine ⟨_,rfl,?_⟩;(repeat (rw [drewN_self w55];generalize hq_ : World.drewN w55 _ = w55;have n0_ : Aside0 (w55.heap[gb413]? = some (.cells #[.int .i64 a0_0,.int .i64 a0_1,.int .i64 a0_2,.int .i64 a0_3,.int .i64 a0_4,.int .i64 a0_5] 23 (0,0))):=⟨by rw [← hq_];exact (by exact BK413.out)⟩;have n1_ : Aside0 (w55.heap[gb414]? = some (.cells #[.int .i64 a1_0,.int .i64 a1_1,.int .i64 a1_2,.int .i64 a1_3,.int .i64 a1_4,.int .i64 a1_5] 23 (0,0))):=⟨by rw [← hq_];exact (by exact BK414.out)⟩;have n2_ : Aside0 (w55.heap[gb415]? = some (.cells #[.int .i64 0,.int .i64 0,.int .i64 0,.int .i64 0,.int .i64 0,.int .i64 0] 23 (0,0))):=⟨by rw [← hq_];exact (by exact BK415.out)⟩;have n3_ : Aside0 (w55.heap[gb418]? = some (.cells #[.int .i64 0,.int .i64 0,.int .i64 0,.int .i64 0,.int .i64 0,.int .i64 0] 23 (0,0))):=⟨by rw [← hq_];exact (by exact BK418.out)⟩;have n4_ : Aside0 (Below w.heap.size w w55):=⟨by rw [← hq_];exact (by repeat (first|(with_reducible first|exact HB.out|apply sa|apply sn|apply sd|refine sy ?_ (by assumption))|exact HB.out))⟩;clear BK413 BK414 BK415 BK418 HB hq_;have BK413:=n0_;have BK414:=n1_;have BK415:=n2_;have BK418:=n3_;have HB:=n4_;clear n0_ n1_ n2_ n3_ n4_));have hnb63:=NB418_415.out;have hnc63:=NB415_418.out;have hcz64_0 : w55.cell? ⟨gb418,0,none⟩ = some (.int .i64 0):=(bc BK418.out 0).trans rfl;have hcz64_1 : w55.cell? ⟨gb418,1,none⟩ = some (.int .i64 0):=(bc BK418.out 1).trans rfl;have hcz64_2 : w55.cell? ⟨gb418,2,none⟩ = some (.int .i64 0):=(bc BK418.out 2).trans rfl;have hcz64_3 : w55.cell? ⟨gb418,3,none⟩ = some (.int .i64 0):=(bc BK418.out 3).trans rfl;have hcz64_4 : w55.cell? ⟨gb418,4,none⟩ = some (.int .i64 0):=(bc BK418.out 4).trans rfl;have hcz64_5 : w55.cell? ⟨gb418,5,none⟩ = some (.int .i64 0):=(bc BK418.out 5).trans rfl;obtain ⟨hfz64_0,hfz64_1,hfz64_2,hfz64_3,hfz64_4,hfz64_5⟩:=fq6 BK418.out;obtain ⟨hcz65_0,hcz65_1,hcz65_2,hcz65_3,hcz65_4,hcz65_5⟩:=cq6 BK413.out;obtain ⟨hfz65_0,hfz65_1,hfz65_2,hfz65_3,hfz65_4,hfz65_5⟩:=fq6 BK413.out;obtain ⟨hcz66_0,hcz66_1,hcz66_2,hcz66_3,hcz66_4,hcz66_5⟩:=cq6 BK414.out;obtain ⟨hfz66_0,hfz66_1,hfz66_2,hfz66_3,hfz66_4,hfz66_5⟩:=fq6 BK414.out)|((with_reducible refine gate_callee (f:=36) rfl ?_);refine goesL_ (some 40) rfl rfl Try.func36 (by kernel_rfl) rfl #[.int .i64 (wrap64 ((wrap64 (a0_1 * a1_0)) + (wrap64 (a0_3 * a1_1)))),.int .i64 65536] rfl (by (try simp only [List.map_toArray,List.map_cons,List.map_nil]);first|done|rfl|(simp only [List.length_drop,List.length_take];rfl)) ?_;(with_reducible refine (celluloidref14_floor.calls (wrap64 ((wrap64 (a0_1 * a1_0)) + (wrap64 (a0_3 * a1_1)))) 65536 t420 _ A26.out).mono ?_);rintro e w' ⟨rfl,⟨nd,rfl⟩⟩;refine ⟨_,rfl,?_⟩)|((with_reducible refine gate_callee (f:=36) rfl ?_);refine goesL_ (some 53) rfl rfl Try.func36 (by kernel_rfl) rfl #[.int .i64 (wrap64 ((wrap64 (a0_0 * a1_2)) + (wrap64 (a0_2 * a1_3)))),.int .i64 65536] rfl (by (try simp only [List.map_toArray,List.map_cons,List.map_nil]);first|done|rfl|(simp only [List.length_drop,List.length_take];rfl)) ?_;(with_reducible refine (celluloidref14_floor.calls (wrap64 ((wrap64 (a0_0 * a1_2)) + (wrap64 (a0_2 * a1_3)))) 65536 t421 _ A27.out).mono ?_);rintro e w' ⟨rfl,⟨nd,rfl⟩⟩;refine ⟨_,rfl,?_⟩)|((with_reducible refine gate_callee (f:=36) rfl ?_);refine goesL_ (some 66) rfl rfl Try.func36 (by kernel_rfl) rfl #[.int .i64 (wrap64 ((wrap64 (a0_1 * a1_2)) + (wrap64 (a0_3 * a1_3)))),.int .i64 65536] rfl (by (try simp only [List.map_toArray,List.map_cons,List.map_nil]);first|done|rfl|(simp only [List.length_drop,List.length_take];rfl)) ?_;(with_reducible refine (celluloidref14_floor.calls (wrap64 ((wrap64 (a0_1 * a1_2)) + (wrap64 (a0_3 * a1_3)))) 65536 t422 _ A28.out).mono ?_);rintro e w' ⟨rfl,⟨nd,rfl⟩⟩;refine ⟨_,rfl,?_⟩))
          repeat rw [drewN_set]
          repeat rw [drewN_two]
          first|(rw [drewN_self w55];generalize hq_ : World.drewN w55 _ = wq_)|(generalize hq_ : w55 = wq_)
          have n0_ : Aside0 (((((wq_.setCell ⟨gb418,0,none⟩ (.int .i64 t419)).setCell ⟨gb418,1,none⟩ (.int .i64 t420)).setCell ⟨gb418,2,none⟩ (.int .i64 t421)).setCell ⟨gb418,3,none⟩ (.int .i64 t422)).heap[gb413]? = some (.cells #[.int .i64 a0_0,.int .i64 a0_1,.int .i64 a0_2,.int .i64 a0_3,.int .i64 a0_4,.int .i64 a0_5] 23 (0,0))):=⟨by rw [← hq_];exact by (with_reducible repeat (first|refine bn ?_ _|refine bd ?_|refine ba ?_ _|refine bf ?_ NB413_418.out _));exact BK413.out⟩;have n1_ : Aside0 (((((wq_.setCell ⟨gb418,0,none⟩ (.int .i64 t419)).setCell ⟨gb418,1,none⟩ (.int .i64 t420)).setCell ⟨gb418,2,none⟩ (.int .i64 t421)).setCell ⟨gb418,3,none⟩ (.int .i64 t422)).heap[gb414]? = some (.cells #[.int .i64 a1_0,.int .i64 a1_1,.int .i64 a1_2,.int .i64 a1_3,.int .i64 a1_4,.int .i64 a1_5] 23 (0,0))):=⟨by rw [← hq_];exact by (with_reducible repeat (first|refine bn ?_ _|refine bd ?_|refine ba ?_ _|refine bf ?_ NB414_418.out _));exact BK414.out⟩;have n2_ : Aside0 (((((wq_.setCell ⟨gb418,0,none⟩ (.int .i64 t419)).setCell ⟨gb418,1,none⟩ (.int .i64 t420)).setCell ⟨gb418,2,none⟩ (.int .i64 t421)).setCell ⟨gb418,3,none⟩ (.int .i64 t422)).heap[gb415]? = some (.cells #[.int .i64 0,.int .i64 0,.int .i64 0,.int .i64 0,.int .i64 0,.int .i64 0] 23 (0,0))):=⟨by rw [← hq_];exact by (with_reducible repeat (first|refine bn ?_ _|refine bd ?_|refine ba ?_ _|refine bf ?_ NB415_418.out _));exact BK415.out⟩;have n3_ : Aside0 (((((wq_.setCell ⟨gb418,0,none⟩ (.int .i64 t419)).setCell ⟨gb418,1,none⟩ (.int .i64 t420)).setCell ⟨gb418,2,none⟩ (.int .i64 t421)).setCell ⟨gb418,3,none⟩ (.int .i64 t422)).heap[gb418]? = some (.cells #[.int .i64 t419,.int .i64 t420,.int .i64 t421,.int .i64 t422,.int .i64 0,.int .i64 0] 23 (0,0))):=⟨by rw [← hq_];exact by (with_reducible repeat (first|refine bn ?_ _|refine bd ?_|refine ba ?_ _));refine bp (cs:=#[.int .i64 t419,.int .i64 t420,.int .i64 t421,.int .i64 0,.int .i64 0,.int .i64 0]) ?_ 3 _ rfl;(with_reducible repeat (first|refine bn ?_ _|refine bd ?_|refine ba ?_ _));refine bp (cs:=#[.int .i64 t419,.int .i64 t420,.int .i64 0,.int .i64 0,.int .i64 0,.int .i64 0]) ?_ 2 _ rfl;(with_reducible repeat (first|refine bn ?_ _|refine bd ?_|refine ba ?_ _));refine bp (cs:=#[.int .i64 t419,.int .i64 0,.int .i64 0,.int .i64 0,.int .i64 0,.int .i64 0]) ?_ 1 _ rfl;(with_reducible repeat (first|refine bn ?_ _|refine bd ?_|refine ba ?_ _));refine bp (cs:=#[.int .i64 0,.int .i64 0,.int .i64 0,.int .i64 0,.int .i64 0,.int .i64 0]) ?_ 0 _ rfl;(with_reducible repeat (first|refine bn ?_ _|refine bd ?_|refine ba ?_ _));exact BK418.out⟩;have n4_ : Aside0 (Below w.heap.size w ((((wq_.setCell ⟨gb418,0,none⟩ (.int .i64 t419)).setCell ⟨gb418,1,none⟩ (.int .i64 t420)).setCell ⟨gb418,2,none⟩ (.int .i64 t421)).setCell ⟨gb418,3,none⟩ (.int .i64 t422))):=⟨by rw [← hq_];exact by repeat (first|(with_reducible first|exact HB.out|apply sa|apply sn|apply sd|refine sy ?_ (by assumption))|exact HB.out)⟩;(try clear BK413);(try clear BK414);(try clear BK415);(try clear BK418);(try clear HB);generalize ((((wq_.setCell ⟨gb418,0,none⟩ (.int .i64 t419)).setCell ⟨gb418,1,none⟩ (.int .i64 t420)).setCell ⟨gb418,2,none⟩ (.int .i64 t421)).setCell ⟨gb418,3,none⟩ (.int .i64 t422)) = w67 at n0_ n1_ n2_ n3_ n4_ ⊢;have BK413:=n0_;have BK414:=n1_;have BK415:=n2_;have BK418:=n3_;have HB:=n4_;clear n0_ n1_ n2_ n3_ n4_
          (repeat (rw [drewN_self w67];generalize hq_ : World.drewN w67 _ = w67;have n0_ : Aside0 (w67.heap[gb413]? = some (.cells #[.int .i64 a0_0,.int .i64 a0_1,.int .i64 a0_2,.int .i64 a0_3,.int .i64 a0_4,.int .i64 a0_5] 23 (0,0))):=⟨by rw [← hq_];exact (by exact BK413.out)⟩;have n1_ : Aside0 (w67.heap[gb414]? = some (.cells #[.int .i64 a1_0,.int .i64 a1_1,.int .i64 a1_2,.int .i64 a1_3,.int .i64 a1_4,.int .i64 a1_5] 23 (0,0))):=⟨by rw [← hq_];exact (by exact BK414.out)⟩;have n2_ : Aside0 (w67.heap[gb415]? = some (.cells #[.int .i64 0,.int .i64 0,.int .i64 0,.int .i64 0,.int .i64 0,.int .i64 0] 23 (0,0))):=⟨by rw [← hq_];exact (by exact BK415.out)⟩;have n3_ : Aside0 (w67.heap[gb418]? = some (.cells #[.int .i64 t419,.int .i64 t420,.int .i64 t421,.int .i64 t422,.int .i64 0,.int .i64 0] 23 (0,0))):=⟨by rw [← hq_];exact (by exact BK418.out)⟩;have n4_ : Aside0 (Below w.heap.size w w67):=⟨by rw [← hq_];exact (by repeat (first|(with_reducible first|exact HB.out|apply sa|apply sn|apply sd|refine sy ?_ (by assumption))|exact HB.out))⟩;clear BK413 BK414 BK415 BK418 HB hq_;have BK413:=n0_;have BK414:=n1_;have BK415:=n2_;have BK418:=n3_;have HB:=n4_;clear n0_ n1_ n2_ n3_ n4_))
          replace BK413:=am (bd BK413.out);replace BK414:=am (bd BK414.out);replace BK415:=am (bd BK415.out);replace BK418:=am (bd BK418.out);replace HB:=am (sd HB.out);refine start_ (n:=17) (S:=fun w' => w'.cell? ⟨gb413,0,none⟩ = some (.int .i64 a0_0) ∧ w'.cell? ⟨gb413,1,none⟩ = some (.int .i64 a0_1) ∧ w'.cell? ⟨gb413,2,none⟩ = some (.int .i64 a0_2) ∧ w'.cell? ⟨gb413,3,none⟩ = some (.int .i64 a0_3) ∧ w'.cell? ⟨gb413,4,none⟩ = some (.int .i64 a0_4) ∧ w'.cell? ⟨gb413,5,none⟩ = some (.int .i64 a0_5) ∧ w'.cell? ⟨gb414,0,none⟩ = some (.int .i64 a1_0) ∧ w'.cell? ⟨gb414,1,none⟩ = some (.int .i64 a1_1) ∧ w'.cell? ⟨gb414,2,none⟩ = some (.int .i64 a1_2) ∧ w'.cell? ⟨gb414,3,none⟩ = some (.int .i64 a1_3) ∧ w'.cell? ⟨gb414,4,none⟩ = some (.int .i64 a1_4) ∧ w'.cell? ⟨gb414,5,none⟩ = some (.int .i64 a1_5)) (ds:=[]) #[false,false,false,false,false,false,false,false,false,false,false,false,false,false,false,false,false] (by kernel_rfl) rfl rfl ⟨(bc BK413.out 0).trans rfl,(bc BK413.out 1).trans rfl,(bc BK413.out 2).trans rfl,(bc BK413.out 3).trans rfl,(bc BK413.out 4).trans rfl,(bc BK413.out 5).trans rfl,(bc BK414.out 0).trans rfl,(bc BK414.out 1).trans rfl,(bc BK414.out 2).trans rfl,(bc BK414.out 3).trans rfl,(bc BK414.out 4).trans rfl,(bc BK414.out 5).trans rfl⟩ (fun hHeld => ?_);refine with_tabW celluloidref14_Compose.tab8 celluloidref14_Compose.bits8 (fun HT_ HW_ => ?_);generalize w67.drew = w68 at BK413 BK414 BK415 BK418 HB hHeld ⊢;refine pure_ (i:=0) (N:=some 68) (v:=?_) (a':=?_) #[true,false,false,false,false,false,false,false,false,false,false,false,false,false,false,false,false] rfl rfl (any_of HT_.out (by kernel_rfl)) (fun _ _ _ h => h) (Or.inl ⟨by rfl,?_⟩) ?_ ?_
          rotate_left
          · intro w'
            go_simp
            with_reducible rfl
          rotate_left
          · simp only [Act.put,q1,q2,q3,i64_w,i32_w]
            rfl
          refine pure_ (i:=2) (N:=some 70) (v:=?_) (a':=?_) #[true,false,true,false,false,false,false,false,false,false,false,false,false,false,false,false,false] rfl rfl (any_of HT_.out (by kernel_rfl)) (fun _ _ _ h => h) (Or.inl ⟨by rfl,?_⟩) ?_ ?_
          rotate_left
          · intro w'
            go_simp
            with_reducible rfl
          rotate_left
          · simp only [Act.put,q1,q2,q3,i64_w,i32_w]
            rfl
          refine pure_ (i:=4) (N:=some 72) (v:=?_) (a':=?_) #[true,false,true,false,true,false,false,false,false,false,false,false,false,false,false,false,false] rfl rfl (any_of HT_.out (by kernel_rfl)) (fun _ _ _ h => h) (Or.inl ⟨by rfl,?_⟩) ?_ ?_
          rotate_left
          · intro w'
            go_simp
            with_reducible rfl
          rotate_left
          · simp only [Act.put,q1,q2,q3,i64_w,i32_w]
            rfl
          refine pure_ (i:=7) (N:=some 75) (v:=?_) (a':=?_) #[true,false,true,false,true,false,false,true,false,false,false,false,false,false,false,false,false] rfl rfl (any_of HT_.out (by kernel_rfl)) (fun _ _ _ h => h) (Or.inl ⟨by rfl,?_⟩) ?_ ?_
          rotate_left
          · intro w'
            go_simp
            with_reducible rfl
          rotate_left
          · simp only [Act.put,q1,q2,q3,i64_w,i32_w]
            rfl
          refine pure_ (i:=9) (N:=some 77) (v:=?_) (a':=?_) #[true,false,true,false,true,false,false,true,false,true,false,false,false,false,false,false,false] rfl rfl (any_of HT_.out (by kernel_rfl)) (fun _ _ _ h => h) (Or.inl ⟨by rfl,?_⟩) ?_ ?_
          rotate_left
          · intro w'
            go_simp
            with_reducible rfl
          rotate_left
          · simp only [Act.put,q1,q2,q3,i64_w,i32_w]
            rfl
          refine take_ (i:=1) (N:=some 69) (v:=?_) (a':=?_) #[true,true,true,false,true,false,false,true,false,true,false,false,false,false,false,false,false] rfl rfl (take_ofW HT_.out HW_.out (by kernel_rfl)) (fun _ _ _ h => h) (Or.inl ⟨by rfl,?_⟩) hHeld ?_ ?_
          rotate_left
          · rintro w' ⟨s0,s1,s2,s3,s4,s5,s6,s7,s8,s9,s10,s11⟩
            go_simp
            with_reducible rfl
          rotate_left
          · simp only [Act.put,q1,q2,q3,i64_w,i32_w]
            rfl
          refine take_ (i:=3) (N:=some 71) (v:=?_) (a':=?_) #[true,true,true,true,true,false,false,true,false,true,false,false,false,false,false,false,false] rfl rfl (take_ofW HT_.out HW_.out (by kernel_rfl)) (fun _ _ _ h => h) (Or.inl ⟨by rfl,?_⟩) hHeld ?_ ?_
          rotate_left
          · rintro w' ⟨s0,s1,s2,s3,s4,s5,s6,s7,s8,s9,s10,s11⟩
            go_simp
            with_reducible rfl
          rotate_left
          · simp only [Act.put,q1,q2,q3,i64_w,i32_w]
            rfl
          refine take_ (i:=5) (N:=some 73) (v:=?_) (a':=?_) #[true,true,true,true,true,true,false,true,false,true,false,false,false,false,false,false,false] rfl rfl (take_ofW HT_.out HW_.out (by kernel_rfl)) (fun _ _ _ h => h) (Or.inl ⟨by rfl,?_⟩) hHeld ?_ ?_
          rotate_left
          · rintro w' ⟨s0,s1,s2,s3,s4,s5,s6,s7,s8,s9,s10,s11⟩
            go_simp
            with_reducible rfl
          rotate_left
          · simp only [Act.put,q1,q2,q3,i64_w,i32_w]
            rfl
          refine pure_ (i:=6) (N:=some 74) (v:=?_) (a':=?_) #[true,true,true,true,true,true,true,true,false,true,false,false,false,false,false,false,false] rfl rfl (any_of HT_.out (by kernel_rfl)) (fun _ _ _ h => h) (Or.inl ⟨by rfl,?_⟩) ?_ ?_
          rotate_left
          · intro w'
            go_simp
            with_reducible rfl
          rotate_left
          · simp only [Act.put,q1,q2,q3,i64_w,i32_w]
            rfl
          refine take_ (i:=8) (N:=some 76) (v:=?_) (a':=?_) #[true,true,true,true,true,true,true,true,true,true,false,false,false,false,false,false,false] rfl rfl (take_ofW HT_.out HW_.out (by kernel_rfl)) (fun _ _ _ h => h) (Or.inl ⟨by rfl,?_⟩) hHeld ?_ ?_
          rotate_left
          · rintro w' ⟨s0,s1,s2,s3,s4,s5,s6,s7,s8,s9,s10,s11⟩
            go_simp
            with_reducible rfl
          rotate_left
          · simp only [Act.put,q1,q2,q3,i64_w,i32_w]
            rfl
          refine take_ (i:=10) (N:=some 78) (v:=?_) (a':=?_) #[true,true,true,true,true,true,true,true,true,true,true,false,false,false,false,false,false] rfl rfl (take_ofW HT_.out HW_.out (by kernel_rfl)) (fun _ _ _ h => h) (Or.inl ⟨by rfl,?_⟩) hHeld ?_ ?_
          rotate_left
          · rintro w' ⟨s0,s1,s2,s3,s4,s5,s6,s7,s8,s9,s10,s11⟩
            go_simp
            with_reducible rfl
          rotate_left
          · simp only [Act.put,q1,q2,q3,i64_w,i32_w]
            rfl
          refine pure_ (i:=11) (N:=some 79) (v:=?_) (a':=?_) #[true,true,true,true,true,true,true,true,true,true,true,true,false,false,false,false,false] rfl rfl (any_of HT_.out (by kernel_rfl)) (fun _ _ _ h => h) (Or.inl ⟨by rfl,?_⟩) ?_ ?_
          rotate_left
          · intro w'
            go_simp
            with_reducible rfl
          rotate_left
          · simp only [Act.put,q1,q2,q3,i64_w,i32_w]
            rfl
          refine pure_ (i:=12) (N:=some 80) (v:=?_) (a':=?_) #[true,true,true,true,true,true,true,true,true,true,true,true,true,false,false,false,false] rfl rfl (any_of HT_.out (by kernel_rfl)) (fun _ _ _ h => h) (Or.inl ⟨by rfl,?_⟩) ?_ ?_
          rotate_left
          · intro w'
            go_simp
            with_reducible rfl
          rotate_left
          · simp only [Act.put,q1,q2,q3,i64_w,i32_w]
            rfl
          refine one_ (i:=13) (N:=some 81) #[true,true,true,true,true,true,true,true,true,true,true,true,true,true,false,false,false] rfl rfl (one_of HT_.out (by kernel_rfl)) (by decide) (fun K hK => ?_);refine goes_ Try.func36 (by kernel_rfl) rfl #[.int .i64 (wrap64 ((wrap64 (a0_0 * a1_4)) + (wrap64 (a0_2 * a1_5)))),.int .i64 65536] (by rfl) rfl rfl (by (try simp only [List.map_toArray,List.map_cons,List.map_nil]);first|done|rfl|(simp only [List.length_drop,List.length_take];rfl)) ?_
          with_reducible refine (celluloidref14_floor.calls (wrap64 ((wrap64 (a0_0 * a1_4)) + (wrap64 (a0_2 * a1_5)))) 65536 t423 _ A29.out).mono ?_
          rintro e w' ⟨rfl,⟨nd,rfl⟩⟩
          refine ⟨_,rfl,?_⟩;refine hK.out _ _ ⟨(bc BK413.out 0).trans rfl,(bc BK413.out 1).trans rfl,(bc BK413.out 2).trans rfl,(bc BK413.out 3).trans rfl,(bc BK413.out 4).trans rfl,(bc BK413.out 5).trans rfl,(bc BK414.out 0).trans rfl,(bc BK414.out 1).trans rfl,(bc BK414.out 2).trans rfl,(bc BK414.out 3).trans rfl,(bc BK414.out 4).trans rfl,(bc BK414.out 5).trans rfl⟩ (fun hHeld => ?_);clear hK K;refine norm_ (a':=?_) ?_ ?_
          rotate_left
          · show Act.put _ (some 81) _ = _
            simp only [Act.put,q1,q2,q3,i64_w,i32_w]
            rfl
          refine pure_ (i:=14) (N:=some 82) (v:=?_) (a':=?_) #[true,true,true,true,true,true,true,true,true,true,true,true,true,true,true,false,false] rfl rfl (any_of HT_.out (by kernel_rfl)) (fun _ _ _ h => h) (Or.inl ⟨by rfl,?_⟩) ?_ ?_
          rotate_left
          · intro w'
            go_simp
            with_reducible rfl
          rotate_left
          · simp only [Act.put,q1,q2,q3,i64_w,i32_w]
            rfl
          refine pure_ (i:=15) (N:=some 83) (v:=?_) (a':=?_) #[true,true,true,true,true,true,true,true,true,true,true,true,true,true,true,true,false] rfl rfl (any_of HT_.out (by kernel_rfl)) (fun _ _ _ h => h) (Or.inl ⟨by rfl,?_⟩) ?_ ?_
          rotate_left
          · intro w'
            go_simp
            with_reducible rfl
          rotate_left
          · simp only [Act.put,q1,q2,q3,i64_w,i32_w]
            rfl
          refine one_ (i:=16) (N:=none) #[true,true,true,true,true,true,true,true,true,true,true,true,true,true,true,true,true] rfl rfl (one_of HT_.out (by kernel_rfl)) (by decide) (fun K hK => ?_);have hs69 : w68.cell? ⟨gb418,4,none⟩ = some (.int .i64 0):=(bc BK418.out 4).trans rfl;have hfs69:=bz BK418.out 4;have hns69_0:=NB413_418.out;have hns69_1:=NB414_418.out;have hns69_2:=NB415_418.out;have hms69_0:=NB418_413.out;have hms69_1:=NB418_414.out;have hms69_2:=NB418_415.out;refine skip_ (w1:=?_) (by rfl) rfl ?_ ?_
          rotate_left
          · go_simp
            rfl
          refine hK.out _ _ ⟨((cell_far (p:=⟨gb418,_,none⟩) NB413_418.out _).trans (hHeld.1)),((cell_far (p:=⟨gb418,_,none⟩) NB413_418.out _).trans (hHeld.2.1)),((cell_far (p:=⟨gb418,_,none⟩) NB413_418.out _).trans (hHeld.2.2.1)),((cell_far (p:=⟨gb418,_,none⟩) NB413_418.out _).trans (hHeld.2.2.2.1)),((cell_far (p:=⟨gb418,_,none⟩) NB413_418.out _).trans (hHeld.2.2.2.2.1)),((cell_far (p:=⟨gb418,_,none⟩) NB413_418.out _).trans (hHeld.2.2.2.2.2.1)),((cell_far (p:=⟨gb418,_,none⟩) NB414_418.out _).trans (hHeld.2.2.2.2.2.2.1)),((cell_far (p:=⟨gb418,_,none⟩) NB414_418.out _).trans (hHeld.2.2.2.2.2.2.2.1)),((cell_far (p:=⟨gb418,_,none⟩) NB414_418.out _).trans (hHeld.2.2.2.2.2.2.2.2.1)),((cell_far (p:=⟨gb418,_,none⟩) NB414_418.out _).trans (hHeld.2.2.2.2.2.2.2.2.2.1)),((cell_far (p:=⟨gb418,_,none⟩) NB414_418.out _).trans (hHeld.2.2.2.2.2.2.2.2.2.2.1)),((cell_far (p:=⟨gb418,_,none⟩) NB414_418.out _).trans (hHeld.2.2.2.2.2.2.2.2.2.2.2))⟩ (fun hHeld => ?_);clear hK K;refine done_ (done_of HT_.out (by kernel_rfl)) ?_
          try go_wp2
          repeat rw [drewN_set]
          repeat rw [drewN_two]
          first|(rw [drewN_self w68];generalize hq_ : World.drewN w68 _ = wq_)|(generalize hq_ : w68 = wq_)
          have n0_ : Aside0 ((wq_.setCell ⟨gb418,4,none⟩ (.int .i64 (wrap64 (a0_4 + t423)))).heap[gb413]? = some (.cells #[.int .i64 a0_0,.int .i64 a0_1,.int .i64 a0_2,.int .i64 a0_3,.int .i64 a0_4,.int .i64 a0_5] 23 (0,0))):=⟨by rw [← hq_];exact by (with_reducible repeat (first|refine bn ?_ _|refine bd ?_|refine ba ?_ _|refine bf ?_ NB413_418.out _));exact BK413.out⟩;have n1_ : Aside0 ((wq_.setCell ⟨gb418,4,none⟩ (.int .i64 (wrap64 (a0_4 + t423)))).heap[gb414]? = some (.cells #[.int .i64 a1_0,.int .i64 a1_1,.int .i64 a1_2,.int .i64 a1_3,.int .i64 a1_4,.int .i64 a1_5] 23 (0,0))):=⟨by rw [← hq_];exact by (with_reducible repeat (first|refine bn ?_ _|refine bd ?_|refine ba ?_ _|refine bf ?_ NB414_418.out _));exact BK414.out⟩;have n2_ : Aside0 ((wq_.setCell ⟨gb418,4,none⟩ (.int .i64 (wrap64 (a0_4 + t423)))).heap[gb415]? = some (.cells #[.int .i64 0,.int .i64 0,.int .i64 0,.int .i64 0,.int .i64 0,.int .i64 0] 23 (0,0))):=⟨by rw [← hq_];exact by (with_reducible repeat (first|refine bn ?_ _|refine bd ?_|refine ba ?_ _|refine bf ?_ NB415_418.out _));exact BK415.out⟩;have n3_ : Aside0 ((wq_.setCell ⟨gb418,4,none⟩ (.int .i64 (wrap64 (a0_4 + t423)))).heap[gb418]? = some (.cells #[.int .i64 t419,.int .i64 t420,.int .i64 t421,.int .i64 t422,.int .i64 (wrap64 (a0_4 + t423)),.int .i64 0] 23 (0,0))):=⟨by rw [← hq_];exact by (with_reducible repeat (first|refine bn ?_ _|refine bd ?_|refine ba ?_ _));refine bp (cs:=#[.int .i64 t419,.int .i64 t420,.int .i64 t421,.int .i64 t422,.int .i64 0,.int .i64 0]) ?_ 4 _ rfl;(with_reducible repeat (first|refine bn ?_ _|refine bd ?_|refine ba ?_ _));exact BK418.out⟩;have n4_ : Aside0 (Below w.heap.size w (wq_.setCell ⟨gb418,4,none⟩ (.int .i64 (wrap64 (a0_4 + t423))))):=⟨by rw [← hq_];exact by repeat (first|(with_reducible first|exact HB.out|apply sa|apply sn|apply sd|refine sy ?_ (by assumption))|exact HB.out)⟩;(try clear BK413);(try clear BK414);(try clear BK415);(try clear BK418);(try clear HB);generalize (wq_.setCell ⟨gb418,4,none⟩ (.int .i64 (wrap64 (a0_4 + t423)))) = w70 at n0_ n1_ n2_ n3_ n4_ ⊢;have BK413:=n0_;have BK414:=n1_;have BK415:=n2_;have BK418:=n3_;have HB:=n4_;clear n0_ n1_ n2_ n3_ n4_
          (repeat (rw [drewN_self w70];generalize hq_ : World.drewN w70 _ = w70;have n0_ : Aside0 (w70.heap[gb413]? = some (.cells #[.int .i64 a0_0,.int .i64 a0_1,.int .i64 a0_2,.int .i64 a0_3,.int .i64 a0_4,.int .i64 a0_5] 23 (0,0))):=⟨by rw [← hq_];exact (by exact BK413.out)⟩;have n1_ : Aside0 (w70.heap[gb414]? = some (.cells #[.int .i64 a1_0,.int .i64 a1_1,.int .i64 a1_2,.int .i64 a1_3,.int .i64 a1_4,.int .i64 a1_5] 23 (0,0))):=⟨by rw [← hq_];exact (by exact BK414.out)⟩;have n2_ : Aside0 (w70.heap[gb415]? = some (.cells #[.int .i64 0,.int .i64 0,.int .i64 0,.int .i64 0,.int .i64 0,.int .i64 0] 23 (0,0))):=⟨by rw [← hq_];exact (by exact BK415.out)⟩;have n3_ : Aside0 (w70.heap[gb418]? = some (.cells #[.int .i64 t419,.int .i64 t420,.int .i64 t421,.int .i64 t422,.int .i64 (wrap64 (a0_4 + t423)),.int .i64 0] 23 (0,0))):=⟨by rw [← hq_];exact (by exact BK418.out)⟩;have n4_ : Aside0 (Below w.heap.size w w70):=⟨by rw [← hq_];exact (by repeat (first|(with_reducible first|exact HB.out|apply sa|apply sn|apply sd|refine sy ?_ (by assumption))|exact HB.out))⟩;clear BK413 BK414 BK415 BK418 HB hq_;have BK413:=n0_;have BK414:=n1_;have BK415:=n2_;have BK418:=n3_;have HB:=n4_;clear n0_ n1_ n2_ n3_ n4_))
          replace BK413:=am (bd BK413.out);replace BK414:=am (bd BK414.out);replace BK415:=am (bd BK415.out);replace BK418:=am (bd BK418.out);replace HB:=am (sd HB.out);refine start_ (n:=17) (S:=fun w' => w'.cell? ⟨gb413,0,none⟩ = some (.int .i64 a0_0) ∧ w'.cell? ⟨gb413,1,none⟩ = some (.int .i64 a0_1) ∧ w'.cell? ⟨gb413,2,none⟩ = some (.int .i64 a0_2) ∧ w'.cell? ⟨gb413,3,none⟩ = some (.int .i64 a0_3) ∧ w'.cell? ⟨gb413,4,none⟩ = some (.int .i64 a0_4) ∧ w'.cell? ⟨gb413,5,none⟩ = some (.int .i64 a0_5) ∧ w'.cell? ⟨gb414,0,none⟩ = some (.int .i64 a1_0) ∧ w'.cell? ⟨gb414,1,none⟩ = some (.int .i64 a1_1) ∧ w'.cell? ⟨gb414,2,none⟩ = some (.int .i64 a1_2) ∧ w'.cell? ⟨gb414,3,none⟩ = some (.int .i64 a1_3) ∧ w'.cell? ⟨gb414,4,none⟩ = some (.int .i64 a1_4) ∧ w'.cell? ⟨gb414,5,none⟩ = some (.int .i64 a1_5)) (ds:=[]) #[false,false,false,false,false,false,false,false,false,false,false,false,false,false,false,false,false] (by kernel_rfl) rfl rfl ⟨(bc BK413.out 0).trans rfl,(bc BK413.out 1).trans rfl,(bc BK413.out 2).trans rfl,(bc BK413.out 3).trans rfl,(bc BK413.out 4).trans rfl,(bc BK413.out 5).trans rfl,(bc BK414.out 0).trans rfl,(bc BK414.out 1).trans rfl,(bc BK414.out 2).trans rfl,(bc BK414.out 3).trans rfl,(bc BK414.out 4).trans rfl,(bc BK414.out 5).trans rfl⟩ (fun hHeld => ?_);refine with_tabW celluloidref14_Compose.tab9 celluloidref14_Compose.bits9 (fun HT_ HW_ => ?_);generalize w70.drew = w71 at BK413 BK414 BK415 BK418 HB hHeld ⊢;refine pure_ (i:=0) (N:=some 84) (v:=?_) (a':=?_) #[true,false,false,false,false,false,false,false,false,false,false,false,false,false,false,false,false] rfl rfl (any_of HT_.out (by kernel_rfl)) (fun _ _ _ h => h) (Or.inl ⟨by rfl,?_⟩) ?_ ?_
          rotate_left
          · intro w'
            go_simp
            with_reducible rfl
          rotate_left
          · simp only [Act.put,q1,q2,q3,i64_w,i32_w]
            rfl
          refine pure_ (i:=2) (N:=some 86) (v:=?_) (a':=?_) #[true,false,true,false,false,false,false,false,false,false,false,false,false,false,false,false,false] rfl rfl (any_of HT_.out (by kernel_rfl)) (fun _ _ _ h => h) (Or.inl ⟨by rfl,?_⟩) ?_ ?_
          rotate_left
          · intro w'
            go_simp
            with_reducible rfl
          rotate_left
          · simp only [Act.put,q1,q2,q3,i64_w,i32_w]
            rfl
          refine pure_ (i:=4) (N:=some 88) (v:=?_) (a':=?_) #[true,false,true,false,true,false,false,false,false,false,false,false,false,false,false,false,false] rfl rfl (any_of HT_.out (by kernel_rfl)) (fun _ _ _ h => h) (Or.inl ⟨by rfl,?_⟩) ?_ ?_
          rotate_left
          · intro w'
            go_simp
            with_reducible rfl
          rotate_left
          · simp only [Act.put,q1,q2,q3,i64_w,i32_w]
            rfl
          refine pure_ (i:=7) (N:=some 91) (v:=?_) (a':=?_) #[true,false,true,false,true,false,false,true,false,false,false,false,false,false,false,false,false] rfl rfl (any_of HT_.out (by kernel_rfl)) (fun _ _ _ h => h) (Or.inl ⟨by rfl,?_⟩) ?_ ?_
          rotate_left
          · intro w'
            go_simp
            with_reducible rfl
          rotate_left
          · simp only [Act.put,q1,q2,q3,i64_w,i32_w]
            rfl
          refine pure_ (i:=9) (N:=some 93) (v:=?_) (a':=?_) #[true,false,true,false,true,false,false,true,false,true,false,false,false,false,false,false,false] rfl rfl (any_of HT_.out (by kernel_rfl)) (fun _ _ _ h => h) (Or.inl ⟨by rfl,?_⟩) ?_ ?_
          rotate_left
          · intro w'
            go_simp
            with_reducible rfl
          rotate_left
          · simp only [Act.put,q1,q2,q3,i64_w,i32_w]
            rfl
          refine take_ (i:=1) (N:=some 85) (v:=?_) (a':=?_) #[true,true,true,false,true,false,false,true,false,true,false,false,false,false,false,false,false] rfl rfl (take_ofW HT_.out HW_.out (by kernel_rfl)) (fun _ _ _ h => h) (Or.inl ⟨by rfl,?_⟩) hHeld ?_ ?_
          rotate_left
          · rintro w' ⟨s0,s1,s2,s3,s4,s5,s6,s7,s8,s9,s10,s11⟩
            go_simp
            with_reducible rfl
          rotate_left
          · simp only [Act.put,q1,q2,q3,i64_w,i32_w]
            rfl
          refine take_ (i:=3) (N:=some 87) (v:=?_) (a':=?_) #[true,true,true,true,true,false,false,true,false,true,false,false,false,false,false,false,false] rfl rfl (take_ofW HT_.out HW_.out (by kernel_rfl)) (fun _ _ _ h => h) (Or.inl ⟨by rfl,?_⟩) hHeld ?_ ?_
          rotate_left
          · rintro w' ⟨s0,s1,s2,s3,s4,s5,s6,s7,s8,s9,s10,s11⟩
            go_simp
            with_reducible rfl
          rotate_left
          · simp only [Act.put,q1,q2,q3,i64_w,i32_w]
            rfl
          refine take_ (i:=5) (N:=some 89) (v:=?_) (a':=?_) #[true,true,true,true,true,true,false,true,false,true,false,false,false,false,false,false,false] rfl rfl (take_ofW HT_.out HW_.out (by kernel_rfl)) (fun _ _ _ h => h) (Or.inl ⟨by rfl,?_⟩) hHeld ?_ ?_
          rotate_left
          · rintro w' ⟨s0,s1,s2,s3,s4,s5,s6,s7,s8,s9,s10,s11⟩
            go_simp
            with_reducible rfl
          rotate_left
          · simp only [Act.put,q1,q2,q3,i64_w,i32_w]
            rfl
          refine pure_ (i:=6) (N:=some 90) (v:=?_) (a':=?_) #[true,true,true,true,true,true,true,true,false,true,false,false,false,false,false,false,false] rfl rfl (any_of HT_.out (by kernel_rfl)) (fun _ _ _ h => h) (Or.inl ⟨by rfl,?_⟩) ?_ ?_
          rotate_left
          · intro w'
            go_simp
            with_reducible rfl
          rotate_left
          · simp only [Act.put,q1,q2,q3,i64_w,i32_w]
            rfl
          refine take_ (i:=8) (N:=some 92) (v:=?_) (a':=?_) #[true,true,true,true,true,true,true,true,true,true,false,false,false,false,false,false,false] rfl rfl (take_ofW HT_.out HW_.out (by kernel_rfl)) (fun _ _ _ h => h) (Or.inl ⟨by rfl,?_⟩) hHeld ?_ ?_
          rotate_left
          · rintro w' ⟨s0,s1,s2,s3,s4,s5,s6,s7,s8,s9,s10,s11⟩
            go_simp
            with_reducible rfl
          rotate_left
          · simp only [Act.put,q1,q2,q3,i64_w,i32_w]
            rfl
          refine take_ (i:=10) (N:=some 94) (v:=?_) (a':=?_) #[true,true,true,true,true,true,true,true,true,true,true,false,false,false,false,false,false] rfl rfl (take_ofW HT_.out HW_.out (by kernel_rfl)) (fun _ _ _ h => h) (Or.inl ⟨by rfl,?_⟩) hHeld ?_ ?_
          rotate_left
          · rintro w' ⟨s0,s1,s2,s3,s4,s5,s6,s7,s8,s9,s10,s11⟩
            go_simp
            with_reducible rfl
          rotate_left
          · simp only [Act.put,q1,q2,q3,i64_w,i32_w]
            rfl
          refine pure_ (i:=11) (N:=some 95) (v:=?_) (a':=?_) #[true,true,true,true,true,true,true,true,true,true,true,true,false,false,false,false,false] rfl rfl (any_of HT_.out (by kernel_rfl)) (fun _ _ _ h => h) (Or.inl ⟨by rfl,?_⟩) ?_ ?_
          rotate_left
          · intro w'
            go_simp
            with_reducible rfl
          rotate_left
          · simp only [Act.put,q1,q2,q3,i64_w,i32_w]
            rfl
          refine pure_ (i:=12) (N:=some 96) (v:=?_) (a':=?_) #[true,true,true,true,true,true,true,true,true,true,true,true,true,false,false,false,false] rfl rfl (any_of HT_.out (by kernel_rfl)) (fun _ _ _ h => h) (Or.inl ⟨by rfl,?_⟩) ?_ ?_
          rotate_left
          · intro w'
            go_simp
            with_reducible rfl
          rotate_left
          · simp only [Act.put,q1,q2,q3,i64_w,i32_w]
            rfl
          refine one_ (i:=13) (N:=some 97) #[true,true,true,true,true,true,true,true,true,true,true,true,true,true,false,false,false] rfl rfl (one_of HT_.out (by kernel_rfl)) (by decide) (fun K hK => ?_);refine goes_ Try.func36 (by kernel_rfl) rfl #[.int .i64 (wrap64 ((wrap64 (a0_1 * a1_4)) + (wrap64 (a0_3 * a1_5)))),.int .i64 65536] (by rfl) rfl rfl (by (try simp only [List.map_toArray,List.map_cons,List.map_nil]);first|done|rfl|(simp only [List.length_drop,List.length_take];rfl)) ?_
          with_reducible refine (celluloidref14_floor.calls (wrap64 ((wrap64 (a0_1 * a1_4)) + (wrap64 (a0_3 * a1_5)))) 65536 t424 _ A30.out).mono ?_
          rintro e w' ⟨rfl,⟨nd,rfl⟩⟩
          refine ⟨_,rfl,?_⟩;refine hK.out _ _ ⟨(bc BK413.out 0).trans rfl,(bc BK413.out 1).trans rfl,(bc BK413.out 2).trans rfl,(bc BK413.out 3).trans rfl,(bc BK413.out 4).trans rfl,(bc BK413.out 5).trans rfl,(bc BK414.out 0).trans rfl,(bc BK414.out 1).trans rfl,(bc BK414.out 2).trans rfl,(bc BK414.out 3).trans rfl,(bc BK414.out 4).trans rfl,(bc BK414.out 5).trans rfl⟩ (fun hHeld => ?_);clear hK K;refine norm_ (a':=?_) ?_ ?_
          rotate_left
          · show Act.put _ (some 97) _ = _
            simp only [Act.put,q1,q2,q3,i64_w,i32_w]
            rfl
          refine pure_ (i:=14) (N:=some 98) (v:=?_) (a':=?_) #[true,true,true,true,true,true,true,true,true,true,true,true,true,true,true,false,false] rfl rfl (any_of HT_.out (by kernel_rfl)) (fun _ _ _ h => h) (Or.inl ⟨by rfl,?_⟩) ?_ ?_
          rotate_left
          · intro w'
            go_simp
            with_reducible rfl
          rotate_left
          · simp only [Act.put,q1,q2,q3,i64_w,i32_w]
            rfl
          refine pure_ (i:=15) (N:=some 99) (v:=?_) (a':=?_) #[true,true,true,true,true,true,true,true,true,true,true,true,true,true,true,true,false] rfl rfl (any_of HT_.out (by kernel_rfl)) (fun _ _ _ h => h) (Or.inl ⟨by rfl,?_⟩) ?_ ?_
          rotate_left
          · intro w'
            go_simp
            with_reducible rfl
          rotate_left
          · simp only [Act.put,q1,q2,q3,i64_w,i32_w]
            rfl
          refine one_ (i:=16) (N:=none) #[true,true,true,true,true,true,true,true,true,true,true,true,true,true,true,true,true] rfl rfl (one_of HT_.out (by kernel_rfl)) (by decide) (fun K hK => ?_);have hs72 : w71.cell? ⟨gb418,5,none⟩ = some (.int .i64 0):=(bc BK418.out 5).trans rfl;have hfs72:=bz BK418.out 5;have hns72_0:=NB413_418.out;have hns72_1:=NB414_418.out;have hns72_2:=NB415_418.out;have hms72_0:=NB418_413.out;have hms72_1:=NB418_414.out;have hms72_2:=NB418_415.out;refine skip_ (w1:=?_) (by rfl) rfl ?_ ?_
          rotate_left
          · go_simp
            rfl
          refine hK.out _ _ ⟨((cell_far (p:=⟨gb418,_,none⟩) NB413_418.out _).trans (hHeld.1)),((cell_far (p:=⟨gb418,_,none⟩) NB413_418.out _).trans (hHeld.2.1)),((cell_far (p:=⟨gb418,_,none⟩) NB413_418.out _).trans (hHeld.2.2.1)),((cell_far (p:=⟨gb418,_,none⟩) NB413_418.out _).trans (hHeld.2.2.2.1)),((cell_far (p:=⟨gb418,_,none⟩) NB413_418.out _).trans (hHeld.2.2.2.2.1)),((cell_far (p:=⟨gb418,_,none⟩) NB413_418.out _).trans (hHeld.2.2.2.2.2.1)),((cell_far (p:=⟨gb418,_,none⟩) NB414_418.out _).trans (hHeld.2.2.2.2.2.2.1)),((cell_far (p:=⟨gb418,_,none⟩) NB414_418.out _).trans (hHeld.2.2.2.2.2.2.2.1)),((cell_far (p:=⟨gb418,_,none⟩) NB414_418.out _).trans (hHeld.2.2.2.2.2.2.2.2.1)),((cell_far (p:=⟨gb418,_,none⟩) NB414_418.out _).trans (hHeld.2.2.2.2.2.2.2.2.2.1)),((cell_far (p:=⟨gb418,_,none⟩) NB414_418.out _).trans (hHeld.2.2.2.2.2.2.2.2.2.2.1)),((cell_far (p:=⟨gb418,_,none⟩) NB414_418.out _).trans (hHeld.2.2.2.2.2.2.2.2.2.2.2))⟩ (fun hHeld => ?_);clear hK K;refine done_ (done_of HT_.out (by kernel_rfl)) ?_;have hcz73_0 : w71.cell? ⟨gb418,0,none⟩ = some (.int .i64 t419):=(bc BK418.out 0).trans rfl;have hcz73_1 : w71.cell? ⟨gb418,1,none⟩ = some (.int .i64 t420):=(bc BK418.out 1).trans rfl;have hcz73_2 : w71.cell? ⟨gb418,2,none⟩ = some (.int .i64 t421):=(bc BK418.out 2).trans rfl;have hcz73_3 : w71.cell? ⟨gb418,3,none⟩ = some (.int .i64 t422):=(bc BK418.out 3).trans rfl;have hcz73_4 : w71.cell? ⟨gb418,4,none⟩ = some (.int .i64 (wrap64 (a0_4 + t423))):=(bc BK418.out 4).trans rfl;have hcz73_5 : w71.cell? ⟨gb418,5,none⟩ = some (.int .i64 0):=(bc BK418.out 5).trans rfl;have hfz73_0:=bz BK418.out 0;have hfz73_1:=bz BK418.out 1;have hfz73_2:=bz BK418.out 2;have hfz73_3:=bz BK418.out 3;have hfz73_4:=bz BK418.out 4;have hfz73_5:=bz BK418.out 5
          try go_wp2_with (first|((with_reducible refine gate_callee (f:=17) rfl ?_);refine goesL_ (some 101) rfl rfl Try.func17 (by kernel_rfl) rfl #[.agg #[.int .i64 t419,.int .i64 t420,.int .i64 t421,.int .i64 t422,.int .i64 (wrap64 (a0_4 + t423)),.int .i64 (wrap64 (a0_5 + t424))]] rfl (by (try simp only [List.map_toArray,List.map_cons,List.map_nil]);first|done|rfl|(simp only [List.length_drop,List.length_take];rfl)) ?_;(with_reducible refine (celluloidref07_Matrix.calls t419 t420 t421 t422 (wrap64 (a0_4 + t423)) (wrap64 (a0_5 + t424)) false _ A31.out).mono ?_);rintro e w74 ⟨rfl,hb⟩;refine ⟨_,rfl,?_⟩;replace BK413:=am (wz BK413.out (by (with_reducible repeat (first|refine bn ?_ _|refine bd ?_|refine ba ?_ _|refine bf ?_ NB413_418.out _));exact BK413.out) hb);replace BK414:=am (wz BK414.out (by (with_reducible repeat (first|refine bn ?_ _|refine bd ?_|refine ba ?_ _|refine bf ?_ NB414_418.out _));exact BK414.out) hb);replace BK415:=am (wz BK415.out (by (with_reducible repeat (first|refine bn ?_ _|refine bd ?_|refine ba ?_ _|refine bf ?_ NB415_418.out _));exact BK415.out) hb);replace BK418:=am (bw (g:=gb418) (o:=.cells #[.int .i64 t419,.int .i64 t420,.int .i64 t421,.int .i64 t422,.int .i64 (wrap64 (a0_4 + t423)),.int .i64 (wrap64 (a0_5 + t424))] 23 (0,0)) (by (with_reducible repeat (first|refine bn ?_ _|refine bd ?_|refine ba ?_ _));refine bp (cs:=#[.int .i64 t419,.int .i64 t420,.int .i64 t421,.int .i64 t422,.int .i64 (wrap64 (a0_4 + t423)),.int .i64 0]) ?_ 5 _ rfl;(with_reducible repeat (first|refine bn ?_ _|refine bd ?_|refine ba ?_ _));exact BK418.out) hb);replace HB:=am (ss (by repeat (first|(with_reducible first|exact HB.out|apply sa|apply sn|apply sd|refine sy ?_ (by assumption))|exact HB.out)) hb);(try clear hb);(try clear hb2);(try clear hk);(try clear hi);obtain ⟨hcz75_0,hcz75_1,hcz75_2,hcz75_3,hcz75_4,hcz75_5⟩:=cq6 BK415.out;obtain ⟨hfz75_0,hfz75_1,hfz75_2,hfz75_3,hfz75_4,hfz75_5⟩:=fq6 BK415.out))
          refine bodyPost_ret (results_ct rfl _ _ gb415 23 #[.int .i64 0,.int .i64 0,.int .i64 0,.int .i64 0,.int .i64 0,.int .i64 0] (0,0) _ rfl (by (with_reducible repeat (first|refine bn ?_ _|refine bd ?_|refine ba ?_ _));refine bp (cs:=#[.int .i64 0,.int .i64 0,.int .i64 0,.int .i64 0,.int .i64 0,.int .i64 0]) ?_ 5 _ rfl;(with_reducible repeat (first|refine bn ?_ _|refine bd ?_|refine ba ?_ _));refine bp (cs:=#[.int .i64 0,.int .i64 0,.int .i64 0,.int .i64 0,.int .i64 0,.int .i64 0]) ?_ 4 _ rfl;(with_reducible repeat (first|refine bn ?_ _|refine bd ?_|refine ba ?_ _));refine bp (cs:=#[.int .i64 0,.int .i64 0,.int .i64 0,.int .i64 0,.int .i64 0,.int .i64 0]) ?_ 3 _ rfl;(with_reducible repeat (first|refine bn ?_ _|refine bd ?_|refine ba ?_ _));refine bp (cs:=#[.int .i64 0,.int .i64 0,.int .i64 0,.int .i64 0,.int .i64 0,.int .i64 0]) ?_ 2 _ rfl;(with_reducible repeat (first|refine bn ?_ _|refine bd ?_|refine ba ?_ _));refine bp (cs:=#[.int .i64 0,.int .i64 0,.int .i64 0,.int .i64 0,.int .i64 0,.int .i64 0]) ?_ 1 _ rfl;(with_reducible repeat (first|refine bn ?_ _|refine bd ?_|refine ba ?_ _));refine bp (cs:=#[.int .i64 0,.int .i64 0,.int .i64 0,.int .i64 0,.int .i64 0,.int .i64 0]) ?_ 0 _ rfl;(with_reducible repeat (first|refine bn ?_ _|refine bd ?_|refine ba ?_ _));exact BK415.out) Try.underlying23 rfl (by kernel_rfl)) rfl ?_
          exact ⟨by first|rfl|(simp [errW_none,errW_some] <;> rfl)|(simp [*,errW_none,errW_some] <;> rfl),by repeat (first|(with_reducible first|exact HB.out|apply sa|apply sn|apply sd|refine sy ?_ (by assumption))|exact HB.out)⟩

end Go.Proofs.Ytaognlikgbcejaa.P
