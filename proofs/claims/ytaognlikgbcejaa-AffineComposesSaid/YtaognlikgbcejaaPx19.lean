/- Printed by printx.py (wip/tool) out of the translation: plain functions that tell what the program answers,and the proofs that the program comes to these answers,for all arguments of their kinds. Lean checks it. -/
import Derived.Test.YtaognlikgbcejaaShort
import Derived.Test.YtaognlikgbcejaaPx0
import Derived.Test.YtaognlikgbcejaaPx13
namespace Go.Proofs.Ytaognlikgbcejaa.P
open Go.RowKit Go.Proofs.YtaognlikgbcejaaW.PrintWords Go.Proofs.YtaognlikgbcejaaW.PrintLast Go.Proofs.YtaognlikgbcejaaW.PrintMore
attribute [local go_sem] max2_int min2_int max_two min_two max_three min_three max_four min_four max_five min_five max_six min_six   -- for this text's walks alone
set_option linter.unusedVariables false
set_option linter.unusedSimpArgs false

/-! ### affine_ComposeCx: function 28 -/
mutual
def affine_ComposeCx.j0 : Nat → Bool → Int → Int → Int → Int → Int → Int → Int → Int → Int → Int → Int → Int → Int → Int → Int → Int → Option (Int × Int × Int × Int × Int × Int × Int × Int)
  | 0,_,_,_,_,_,_,_,_,_,_,_,_,_,_,_,_,_ => none
  | k + 1,x14,x427000,x427001,x427002,x427003,x427004,x427005,x427006,x427007,x428000,x428001,x428002,x428003,x428004,x428005,x428006,x428007 => if x14 = true then (some (0,0,0,0,0,0,0,0)) else (affine_ComposeCx.l0 k 0 x427000 x427001 x427002 x427003 x427004 x427005 x427006 x427007 x428000 x428001 x428002 x428003 x428004 x428005 x428006 x428007 0 0 0 0 0 0 0 0)
def affine_ComposeCx.l0 : Nat → Int → Int → Int → Int → Int → Int → Int → Int → Int → Int → Int → Int → Int → Int → Int → Int → Int → Int → Int → Int → Int → Int → Int → Int → Int → Option (Int × Int × Int × Int × Int × Int × Int × Int)
  | 0,_,_,_,_,_,_,_,_,_,_,_,_,_,_,_,_,_,_,_,_,_,_,_,_,_ => none
  | k + 1,x16,x427000,x427001,x427002,x427003,x427004,x427005,x427006,x427007,x428000,x428001,x428002,x428003,x428004,x428005,x428006,x428007,x432000,x432001,x432002,x432003,x432004,x432005,x432006,x432007 => if x16 < 4 then (if x16 = 0 then ((affine_clamp.f ((wrap64 (x427000 * x428000)) / 256) (-512) 512).bind fun t432 => ((affine_clamp.f (wrap64 (((wrap64 (x428004 * x427000)) / 256) + x427004)) (-255) 255).bind fun t433 => (affine_ComposeCx.l0 k (0 + 1) x427000 x427001 x427002 x427003 x427004 x427005 x427006 x427007 x428000 x428001 x428002 x428003 x428004 x428005 x428006 x428007 t432 x432001 x432002 x432003 t433 x432005 x432006 x432007))) else (if x16 = 1 then ((affine_clamp.f ((wrap64 (x427001 * x428001)) / 256) (-512) 512).bind fun t434 => ((affine_clamp.f (wrap64 (((wrap64 (x428005 * x427001)) / 256) + x427005)) (-255) 255).bind fun t435 => (affine_ComposeCx.l0 k (1 + 1) x427000 x427001 x427002 x427003 x427004 x427005 x427006 x427007 x428000 x428001 x428002 x428003 x428004 x428005 x428006 x428007 x432000 t434 x432002 x432003 x432004 t435 x432006 x432007))) else (if x16 = 2 then ((affine_clamp.f ((wrap64 (x427002 * x428002)) / 256) (-512) 512).bind fun t436 => ((affine_clamp.f (wrap64 (((wrap64 (x428006 * x427002)) / 256) + x427006)) (-255) 255).bind fun t437 => (affine_ComposeCx.l0 k (2 + 1) x427000 x427001 x427002 x427003 x427004 x427005 x427006 x427007 x428000 x428001 x428002 x428003 x428004 x428005 x428006 x428007 x432000 x432001 t436 x432003 x432004 x432005 t437 x432007))) else (if x16 = 3 then ((affine_clamp.f ((wrap64 (x427003 * x428003)) / 256) (-512) 512).bind fun t438 => ((affine_clamp.f (wrap64 (((wrap64 (x428007 * x427003)) / 256) + x427007)) (-255) 255).bind fun t439 => (affine_ComposeCx.l0 k (3 + 1) x427000 x427001 x427002 x427003 x427004 x427005 x427006 x427007 x428000 x428001 x428002 x428003 x428004 x428005 x428006 x428007 x432000 x432001 x432002 t438 x432004 x432005 x432006 t439))) else (none))))) else (some (x432000,x432001,x432002,x432003,x432004,x432005,x432006,x432007))
end
def affine_ComposeCx.f (k : Nat) (a0_0 : Int) (a0_1 : Int) (a0_2 : Int) (a0_3 : Int) (a0_4 : Int) (a0_5 : Int) (a0_6 : Int) (a0_7 : Int) (a1_0 : Int) (a1_1 : Int) (a1_2 : Int) (a1_3 : Int) (a1_4 : Int) (a1_5 : Int) (a1_6 : Int) (a1_7 : Int) : Option (Int × Int × Int × Int × Int × Int × Int × Int):=(field_RightCx.f k a0_0 a0_1 a0_2 a0_3 a0_4 a0_5 a0_6 a0_7).bind fun t429 => (if t429 = true then ((field_RightCx.f k a1_0 a1_1 a1_2 a1_3 a1_4 a1_5 a1_6 a1_7).bind fun t430 => (affine_ComposeCx.j0 k (!t430) a0_0 a0_1 a0_2 a0_3 a0_4 a0_5 a0_6 a0_7 a1_0 a1_1 a1_2 a1_3 a1_4 a1_5 a1_6 a1_7)) else (affine_ComposeCx.j0 k true a0_0 a0_1 a0_2 a0_3 a0_4 a0_5 a0_6 a0_7 a1_0 a1_1 a1_2 a1_3 a1_4 a1_5 a1_6 a1_7))
theorem affine_ComposeCx.mono_l : ∀ k,(∀ y0 y1 y2 y3 y4 y5 y6 y7 y8 y9 y10 y11 y12 y13 y14 y15 y16,LeO (affine_ComposeCx.j0 k y0 y1 y2 y3 y4 y5 y6 y7 y8 y9 y10 y11 y12 y13 y14 y15 y16) (affine_ComposeCx.j0 (k + 1) y0 y1 y2 y3 y4 y5 y6 y7 y8 y9 y10 y11 y12 y13 y14 y15 y16)) ∧ (∀ y0 y1 y2 y3 y4 y5 y6 y7 y8 y9 y10 y11 y12 y13 y14 y15 y16 y17 y18 y19 y20 y21 y22 y23 y24,LeO (affine_ComposeCx.l0 k y0 y1 y2 y3 y4 y5 y6 y7 y8 y9 y10 y11 y12 y13 y14 y15 y16 y17 y18 y19 y20 y21 y22 y23 y24) (affine_ComposeCx.l0 (k + 1) y0 y1 y2 y3 y4 y5 y6 y7 y8 y9 y10 y11 y12 y13 y14 y15 y16 y17 y18 y19 y20 y21 y22 y23 y24))
  | 0 => ⟨fun _ _ _ _ _ _ _ _ _ _ _ _ _ _ _ _ _ r h => by simp [affine_ComposeCx.j0] at h,fun _ _ _ _ _ _ _ _ _ _ _ _ _ _ _ _ _ _ _ _ _ _ _ _ _ r h => by simp [affine_ComposeCx.l0] at h⟩
  | k + 1 => by
    obtain ⟨ih0,ih1⟩:=affine_ComposeCx.mono_l k;refine ⟨?_,?_⟩
    · intro y0 y1 y2 y3 y4 y5 y6 y7 y8 y9 y10 y11 y12 y13 y14 y15 y16
      unfold affine_ComposeCx.j0
      repeat' first
      | (with_reducible exact ih0 _ _ _ _ _ _ _ _ _ _ _ _ _ _ _ _ _)
      | (with_reducible exact ih1 _ _ _ _ _ _ _ _ _ _ _ _ _ _ _ _ _ _ _ _ _ _ _ _ _)
      | (with_reducible exact field_RightCx.mono _ _ _ _ _ _ _ _ _)
      | (with_reducible exact LeO.refl _)
      | (with_reducible exact LeO.none _)
      | (with_reducible refine LeO.ite ?_ ?_)
      | (with_reducible refine LeO.bind ?_ (fun _ => ?_))
      | exact ih0 _ _ _ _ _ _ _ _ _ _ _ _ _ _ _ _ _
      | exact ih1 _ _ _ _ _ _ _ _ _ _ _ _ _ _ _ _ _ _ _ _ _ _ _ _ _
      | exact field_RightCx.mono _ _ _ _ _ _ _ _ _
      | exact LeO.none _
      | refine LeO.ite ?_ ?_
      | refine LeO.bind ?_ (fun _ => ?_)
    · intro y0 y1 y2 y3 y4 y5 y6 y7 y8 y9 y10 y11 y12 y13 y14 y15 y16 y17 y18 y19 y20 y21 y22 y23 y24
      unfold affine_ComposeCx.l0
      repeat' first
      | (with_reducible exact ih0 _ _ _ _ _ _ _ _ _ _ _ _ _ _ _ _ _)
      | (with_reducible exact ih1 _ _ _ _ _ _ _ _ _ _ _ _ _ _ _ _ _ _ _ _ _ _ _ _ _)
      | (with_reducible exact field_RightCx.mono _ _ _ _ _ _ _ _ _)
      | (with_reducible exact LeO.refl _)
      | (with_reducible exact LeO.none _)
      | (with_reducible refine LeO.ite ?_ ?_)
      | (with_reducible refine LeO.bind ?_ (fun _ => ?_))
      | exact ih0 _ _ _ _ _ _ _ _ _ _ _ _ _ _ _ _ _
      | exact ih1 _ _ _ _ _ _ _ _ _ _ _ _ _ _ _ _ _ _ _ _ _ _ _ _ _
      | exact field_RightCx.mono _ _ _ _ _ _ _ _ _
      | exact LeO.none _
      | refine LeO.ite ?_ ?_
      | refine LeO.bind ?_ (fun _ => ?_)
theorem affine_ComposeCx.mono : ∀ a0 a1 a2 a3 a4 a5 a6 a7 a8 a9 a10 a11 a12 a13 a14 a15 k,LeO (affine_ComposeCx.f k a0 a1 a2 a3 a4 a5 a6 a7 a8 a9 a10 a11 a12 a13 a14 a15) (affine_ComposeCx.f (k + 1) a0 a1 a2 a3 a4 a5 a6 a7 a8 a9 a10 a11 a12 a13 a14 a15):=by
  intro a0 a1 a2 a3 a4 a5 a6 a7 a8 a9 a10 a11 a12 a13 a14 a15 k
  obtain ⟨ih0,ih1⟩:=affine_ComposeCx.mono_l k
  unfold affine_ComposeCx.f
  repeat' first
      | (with_reducible exact ih0 _ _ _ _ _ _ _ _ _ _ _ _ _ _ _ _ _)
      | (with_reducible exact ih1 _ _ _ _ _ _ _ _ _ _ _ _ _ _ _ _ _ _ _ _ _ _ _ _ _)
      | (with_reducible exact field_RightCx.mono _ _ _ _ _ _ _ _ _)
      | (with_reducible exact LeO.refl _)
      | (with_reducible exact LeO.none _)
      | (with_reducible refine LeO.ite ?_ ?_)
      | (with_reducible refine LeO.bind ?_ (fun _ => ?_))
      | exact ih0 _ _ _ _ _ _ _ _ _ _ _ _ _ _ _ _ _
      | exact ih1 _ _ _ _ _ _ _ _ _ _ _ _ _ _ _ _ _ _ _ _ _ _ _ _ _
      | exact field_RightCx.mono _ _ _ _ _ _ _ _ _
      | exact LeO.none _
      | refine LeO.ite ?_ ?_
      | refine LeO.bind ?_ (fun _ => ?_)
def affine_ComposeCx.T7 : Bool × List (List Nat × List Nat):=(true,[([],[]),([],[]),([],[]),([2,1],[1,2]),([3],[3]),([],[]),([],[]),([6,5],[5,6]),([7],[7]),([4,8],[4,8]),([9],[9]),([10],[10]),([],[]),([12,0,0,1,2,3,4,5,6,7,8,9,10,11],[0,12]),([13,11,11,0,1,2,3,4,5,6,7,8,9,10,11],[11,13])])
def affine_ComposeCx.B7 : List Nat:=[0,0,0,6,14,0,0,96,224,510,1022,2046,0,8191,16383]
theorem affine_ComposeCx.tab7 : rtab .any (opsOf Try.f28 7) = affine_ComposeCx.T7:=by kernel_rfl
theorem affine_ComposeCx.bits7 : waitsOk affine_ComposeCx.T7.2 affine_ComposeCx.B7 = true:=by kernel_rfl
def affine_ComposeCx.T8 : Bool × List (List Nat × List Nat):=(true,[([],[]),([],[]),([],[]),([2,1],[1,2]),([3],[3]),([],[]),([],[]),([6,5],[5,6]),([7],[7]),([4,8],[4,8]),([9],[9]),([],[]),([],[]),([12,11],[11,12]),([13],[13]),([10,14],[10,14]),([15],[15]),([],[]),([17,0,0,1,2,3,4,5,6,7,8,9,10,11,12,13,14,15,16],[0,17]),([18,16,16,0,1,2,3,4,5,6,7,8,9,10,11,12,13,14,15,16],[16,18])])
def affine_ComposeCx.B8 : List Nat:=[0,0,0,6,14,0,0,96,224,510,1022,0,0,6144,14336,32766,65534,0,262143,524287]
theorem affine_ComposeCx.tab8 : rtab .any (opsOf Try.f28 8) = affine_ComposeCx.T8:=by kernel_rfl
theorem affine_ComposeCx.bits8 : waitsOk affine_ComposeCx.T8.2 affine_ComposeCx.B8 = true:=by kernel_rfl
set_option maxHeartbeats 8000000 in
set_option maxRecDepth 100000 in
theorem affine_ComposeCx.calls (k : Nat) (a0_0 : Int) (a0_1 : Int) (a0_2 : Int) (a0_3 : Int) (a0_4 : Int) (a0_5 : Int) (a0_6 : Int) (a0_7 : Int) (a1_0 : Int) (a1_1 : Int) (a1_2 : Int) (a1_3 : Int) (a1_4 : Int) (a1_5 : Int) (a1_6 : Int) (a1_7 : Int) (r1 : Int) (r2 : Int) (r3 : Int) (r4 : Int) (r5 : Int) (r6 : Int) (r7 : Int) (r8 : Int) (w : World) (h : affine_ComposeCx.f k a0_0 a0_1 a0_2 a0_3 a0_4 a0_5 a0_6 a0_7 a1_0 a1_1 a1_2 a1_3 a1_4 a1_5 a1_6 a1_7 = some (r1,r2,r3,r4,r5,r6,r7,r8)) :
    Calls Try.prog 28 #[.agg #[.int .i64 a0_0,.int .i64 a0_1,.int .i64 a0_2,.int .i64 a0_3,.int .i64 a0_4,.int .i64 a0_5,.int .i64 a0_6,.int .i64 a0_7],.agg #[.int .i64 a1_0,.int .i64 a1_1,.int .i64 a1_2,.int .i64 a1_3,.int .i64 a1_4,.int .i64 a1_5,.int .i64 a1_6,.int .i64 a1_7]] w fun e w' => e = .returned (.agg #[.int .i64 r1,.int .i64 r2,.int .i64 r3,.int .i64 r4,.int .i64 r5,.int .i64 r6,.int .i64 r7,.int .i64 r8]) ∧ Below w.heap.size w w':=by
  have hu41:=Try.underlying41;have HB:=am (Below.refl w.heap.size w);have H : ((field_RightCx.f k a0_0 a0_1 a0_2 a0_3 a0_4 a0_5 a0_6 a0_7).bind fun t429 => (if t429 = true then ((field_RightCx.f k a1_0 a1_1 a1_2 a1_3 a1_4 a1_5 a1_6 a1_7).bind fun t430 => (affine_ComposeCx.j0 k (!t430) a0_0 a0_1 a0_2 a0_3 a0_4 a0_5 a0_6 a0_7 a1_0 a1_1 a1_2 a1_3 a1_4 a1_5 a1_6 a1_7)) else (affine_ComposeCx.j0 k true a0_0 a0_1 a0_2 a0_3 a0_4 a0_5 a0_6 a0_7 a1_0 a1_1 a1_2 a1_3 a1_4 a1_5 a1_6 a1_7))) = some (r1,r2,r3,r4,r5,r6,r7,r8):=h;clear h;have HC3:=am H;clear H
  go_enter Try.func28,Try.ntmps28
  go_upto_region 1 with (first|((with_reducible refine gate_dst (N:=2) rfl ?_);refine box_event ?hg (N:=2) ?hd (cs:=#[.int .i64 a0_0,.int .i64 a0_1,.int .i64 a0_2,.int .i64 a0_3,.int .i64 a0_4,.int .i64 a0_5,.int .i64 a0_6,.int .i64 a0_7]) (t:=41) ?hr ?_;(case hd => rfl);(case hg => rfl);(case hr => first|(go_simp;done)|(go_simp;rfl));intro gb426 hg w4 hbox hb;have n0_:=am (ss (by repeat (first|(with_reducible first|exact HB.out|apply sa|apply sn|apply sd)|exact HB.out)) hb);have n1_:=am (hbox);have n2_:=am ((by rw [hg];exact (sz (by repeat (first|(with_reducible first|exact HB.out|apply sa|apply sn|apply sd)|exact HB.out))) : w.heap.size ≤ gb426));have n3_:=am ((by rw [hg];exact (sz (by repeat (first|(with_reducible first|exact HB.out|apply sa|apply sn|apply sd)|exact HB.out))) : w.heap.size ≤ gb426));clear HB;have HB:=n0_;have BK426:=n1_;have GW426:=n2_;have GE426:=n3_;clear n0_ n1_ n2_ n3_;clear hb hbox hg)|((with_reducible refine gate_dst (N:=3) rfl ?_);refine box_event ?hg (N:=3) ?hd (cs:=#[.int .i64 a1_0,.int .i64 a1_1,.int .i64 a1_2,.int .i64 a1_3,.int .i64 a1_4,.int .i64 a1_5,.int .i64 a1_6,.int .i64 a1_7]) (t:=41) ?hr ?_;(case hd => rfl);(case hg => rfl);(case hr => first|(go_simp;done)|(go_simp;rfl));intro gb427 hg w5 hbox hb;have n0_:=am (bw (by exact BK426.out) hb);have n1_:=am (ss (by repeat (first|(with_reducible first|exact HB.out|apply sa|apply sn|apply sd|refine sx ?_ GE426.out)|exact HB.out)) hb);have n2_:=am (hbox);have n3_:=am ((by rw [hg];exact (sz (by repeat (first|(with_reducible first|exact HB.out|apply sa|apply sn|apply sd|refine sx ?_ GE426.out)|exact HB.out))) : w.heap.size ≤ gb427));have n4_:=n3_;have n5_:=nb (by exact BK426.out) hg;have n6_:=ng (by exact BK426.out) hg;clear BK426;clear HB;have BK426:=n0_;have HB:=n1_;have BK427:=n2_;have GW427:=n3_;have GE427:=n4_;have NB426_427:=n5_;have NB427_426:=n6_;clear n0_ n1_ n2_ n3_ n4_ n5_ n6_;clear hb hbox hg)|((with_reducible refine gate_dst (N:=4) rfl ?_);refine box_event ?hg (N:=4) ?hd (cs:=#[.int .i64 0,.int .i64 0,.int .i64 0,.int .i64 0,.int .i64 0,.int .i64 0,.int .i64 0,.int .i64 0]) (t:=41) ?hr ?_;(case hd => rfl);(case hg => rfl);(case hr => first|(go_simp;done)|(go_simp;rfl));intro gb428 hg w6 hbox hb;have n0_:=am (bw (by exact BK426.out) hb);have n1_:=am (bw (by exact BK427.out) hb);have n2_:=am (ss (by repeat (first|(with_reducible first|exact HB.out|apply sa|apply sn|apply sd|refine sy ?_ (by assumption))|exact HB.out)) hb);have n3_:=am (hbox);have n4_:=am ((by rw [hg];exact (sz (by repeat (first|(with_reducible first|exact HB.out|apply sa|apply sn|apply sd|refine sy ?_ (by assumption))|exact HB.out))) : w.heap.size ≤ gb428));have n5_:=n4_;have n6_:=nb (by exact BK426.out) hg;have n7_:=am (Ne.symm n6_.out);have n8_:=nb (by exact BK427.out) hg;have n9_:=ng (by exact BK427.out) hg;clear BK426;clear BK427;clear HB;have BK426:=n0_;have BK427:=n1_;have HB:=n2_;have BK428:=n3_;have GW428:=n4_;have GE428:=n5_;have NB426_428:=n6_;have NB428_426:=n7_;have NB427_428:=n8_;have NB428_427:=n9_;clear n0_ n1_ n2_ n3_ n4_ n5_ n6_ n7_ n8_ n9_;clear hb hbox hg))
  (try simp only [Act.put,q1,q2,q3])
  go_cut [14] (fun v14 wc => ∃ (kq : Nat) (x14_2 : Bool),v14 = .bool x14_2 ∧ Aside0 (affine_ComposeCx.j0 kq x14_2 a0_0 a0_1 a0_2 a0_3 a0_4 a0_5 a0_6 a0_7 a1_0 a1_1 a1_2 a1_3 a1_4 a1_5 a1_6 a1_7 = some (r1,r2,r3,r4,r5,r6,r7,r8)) ∧ Aside0 (kq ≤ k) ∧ Aside0 (wc.heap[gb426]? = some (.cells #[.int .i64 a0_0,.int .i64 a0_1,.int .i64 a0_2,.int .i64 a0_3,.int .i64 a0_4,.int .i64 a0_5,.int .i64 a0_6,.int .i64 a0_7] 41 (0,0))) ∧ Aside0 (wc.heap[gb427]? = some (.cells #[.int .i64 a1_0,.int .i64 a1_1,.int .i64 a1_2,.int .i64 a1_3,.int .i64 a1_4,.int .i64 a1_5,.int .i64 a1_6,.int .i64 a1_7] 41 (0,0))) ∧ Aside0 (wc.heap[gb428]? = some (.cells #[.int .i64 0,.int .i64 0,.int .i64 0,.int .i64 0,.int .i64 0,.int .i64 0,.int .i64 0,.int .i64 0] 41 (0,0))) ∧ Aside0 (Below w.heap.size w wc))
  case first =>
    have H:=HC3.out;clear HC3;replace H:=Option.bind_eq_some_iff.mp H;obtain ⟨t429,A70,H⟩:=H;replace H : (if t429 = true then ((field_RightCx.f k a1_0 a1_1 a1_2 a1_3 a1_4 a1_5 a1_6 a1_7).bind fun t430 => (affine_ComposeCx.j0 k (!t430) a0_0 a0_1 a0_2 a0_3 a0_4 a0_5 a0_6 a0_7 a1_0 a1_1 a1_2 a1_3 a1_4 a1_5 a1_6 a1_7)) else (affine_ComposeCx.j0 k true a0_0 a0_1 a0_2 a0_3 a0_4 a0_5 a0_6 a0_7 a1_0 a1_1 a1_2 a1_3 a1_4 a1_5 a1_6 a1_7)) = some (r1,r2,r3,r4,r5,r6,r7,r8):=H;have A7:=am A70;clear A70
    by_cases c8 : t429 = true
    · subst c8
      have H1 : ((field_RightCx.f k a1_0 a1_1 a1_2 a1_3 a1_4 a1_5 a1_6 a1_7).bind fun t430 => (affine_ComposeCx.j0 k (!t430) a0_0 a0_1 a0_2 a0_3 a0_4 a0_5 a0_6 a0_7 a1_0 a1_1 a1_2 a1_3 a1_4 a1_5 a1_6 a1_7)) = some (r1,r2,r3,r4,r5,r6,r7,r8):=by rw [if_pos rfl] at H;exact H
      clear H;have H:=H1;clear H1;replace H:=Option.bind_eq_some_iff.mp H;obtain ⟨t430,A90,H⟩:=H;replace H : (affine_ComposeCx.j0 k (!t430) a0_0 a0_1 a0_2 a0_3 a0_4 a0_5 a0_6 a0_7 a1_0 a1_1 a1_2 a1_3 a1_4 a1_5 a1_6 a1_7) = some (r1,r2,r3,r4,r5,r6,r7,r8):=H;have A9:=am A90;clear A90;have H':=am H;clear H;have hnb10:=NB426_427.out;have hnc10:=NB427_426.out;have hnb11:=NB426_428.out;have hnc11:=NB428_426.out;have hcz12_0 : w6.cell? ⟨gb426,0,none⟩ = some (.int .i64 a0_0):=(bc BK426.out 0).trans rfl;have hcz12_1 : w6.cell? ⟨gb426,1,none⟩ = some (.int .i64 a0_1):=(bc BK426.out 1).trans rfl;have hcz12_2 : w6.cell? ⟨gb426,2,none⟩ = some (.int .i64 a0_2):=(bc BK426.out 2).trans rfl;have hcz12_3 : w6.cell? ⟨gb426,3,none⟩ = some (.int .i64 a0_3):=(bc BK426.out 3).trans rfl;have hcz12_4 : w6.cell? ⟨gb426,4,none⟩ = some (.int .i64 a0_4):=(bc BK426.out 4).trans rfl;have hcz12_5 : w6.cell? ⟨gb426,5,none⟩ = some (.int .i64 a0_5):=(bc BK426.out 5).trans rfl;have hcz12_6 : w6.cell? ⟨gb426,6,none⟩ = some (.int .i64 a0_6):=(bc BK426.out 6).trans rfl;have hcz12_7 : w6.cell? ⟨gb426,7,none⟩ = some (.int .i64 a0_7):=(bc BK426.out 7).trans rfl;have hfz12_0:=bz BK426.out 0;have hfz12_1:=bz BK426.out 1;have hfz12_2:=bz BK426.out 2;have hfz12_3:=bz BK426.out 3;have hfz12_4:=bz BK426.out 4;have hfz12_5:=bz BK426.out 5;have hfz12_6:=bz BK426.out 6;have hfz12_7:=bz BK426.out 7
      go_wp2_with (first|((with_reducible refine gate_callee (f:=41) rfl ?_);refine goesL_ (some 8) rfl rfl Try.func41 (by kernel_rfl) rfl #[.agg #[.int .i64 a0_0,.int .i64 a0_1,.int .i64 a0_2,.int .i64 a0_3,.int .i64 a0_4,.int .i64 a0_5,.int .i64 a0_6,.int .i64 a0_7]] rfl (by (try simp only [List.map_toArray,List.map_cons,List.map_nil]);first|done|rfl|(simp only [List.length_drop,List.length_take];rfl)) ?_;(with_reducible refine (field_RightCx.calls k a0_0 a0_1 a0_2 a0_3 a0_4 a0_5 a0_6 a0_7 true _ A7.out).mono ?_);rintro e w13 ⟨rfl,hb⟩;refine ⟨_,rfl,?_⟩;replace BK426:=am (bw (by exact BK426.out) hb);replace BK427:=am (bw (by exact BK427.out) hb);replace BK428:=am (bw (by exact BK428.out) hb);replace HB:=am (ss (by repeat (first|(with_reducible first|exact HB.out|apply sa|apply sn|apply sd|refine sy ?_ (by assumption))|exact HB.out)) hb);(try clear hb);(try clear hb2);(try clear hk);(try clear hi);have hnb14:=NB427_428.out;have hnc14:=NB428_427.out;obtain ⟨hcz15_0,hcz15_1,hcz15_2,hcz15_3,hcz15_4,hcz15_5,hcz15_6,hcz15_7⟩:=cq8 BK427.out;obtain ⟨hfz15_0,hfz15_1,hfz15_2,hfz15_3,hfz15_4,hfz15_5,hfz15_6,hfz15_7⟩:=fq8 BK427.out)|(go_at_call 41;(with_reducible refine (field_RightCx.calls k a1_0 a1_1 a1_2 a1_3 a1_4 a1_5 a1_6 a1_7 t430 _ A9.out).mono ?_);rintro e w16 ⟨rfl,hb⟩;replace BK426:=am (bw (by exact BK426.out) hb);replace BK427:=am (bw (by exact BK427.out) hb);replace BK428:=am (bw (by exact BK428.out) hb);replace HB:=am (ss (by repeat (first|(with_reducible first|exact HB.out|apply sa|apply sn|apply sd|refine sy ?_ (by assumption))|exact HB.out)) hb);(try clear hb);(try clear hb2);(try clear hk);(try clear hi)))
      go_meet
      case rel => exact ⟨_,(!t430),(by first|rfl|(simp;done)|(simp [*];done)),H',⟨by first|omega|exact Nat.le_refl _⟩,⟨by exact BK426.out⟩,⟨by exact BK427.out⟩,⟨by exact BK428.out⟩,⟨by repeat (first|(with_reducible first|exact HB.out|apply sa|apply sn|apply sd|refine sy ?_ (by assumption))|exact HB.out)⟩⟩
    · replace c8:=Bool.eq_false_iff.mpr c8
      subst c8
      have H1 : (affine_ComposeCx.j0 k true a0_0 a0_1 a0_2 a0_3 a0_4 a0_5 a0_6 a0_7 a1_0 a1_1 a1_2 a1_3 a1_4 a1_5 a1_6 a1_7) = some (r1,r2,r3,r4,r5,r6,r7,r8):=by rw [if_neg (show ¬ (false = true) by decide)] at H;exact H
      clear H;have H:=H1;clear H1;have H':=am H;clear H;have hnb17:=NB426_427.out;have hnc17:=NB427_426.out;have hnb18:=NB426_428.out;have hnc18:=NB428_426.out;have hcz19_0 : w6.cell? ⟨gb426,0,none⟩ = some (.int .i64 a0_0):=(bc BK426.out 0).trans rfl;have hcz19_1 : w6.cell? ⟨gb426,1,none⟩ = some (.int .i64 a0_1):=(bc BK426.out 1).trans rfl;have hcz19_2 : w6.cell? ⟨gb426,2,none⟩ = some (.int .i64 a0_2):=(bc BK426.out 2).trans rfl;have hcz19_3 : w6.cell? ⟨gb426,3,none⟩ = some (.int .i64 a0_3):=(bc BK426.out 3).trans rfl;have hcz19_4 : w6.cell? ⟨gb426,4,none⟩ = some (.int .i64 a0_4):=(bc BK426.out 4).trans rfl;have hcz19_5 : w6.cell? ⟨gb426,5,none⟩ = some (.int .i64 a0_5):=(bc BK426.out 5).trans rfl;have hcz19_6 : w6.cell? ⟨gb426,6,none⟩ = some (.int .i64 a0_6):=(bc BK426.out 6).trans rfl;have hcz19_7 : w6.cell? ⟨gb426,7,none⟩ = some (.int .i64 a0_7):=(bc BK426.out 7).trans rfl;have hfz19_0:=bz BK426.out 0;have hfz19_1:=bz BK426.out 1;have hfz19_2:=bz BK426.out 2;have hfz19_3:=bz BK426.out 3;have hfz19_4:=bz BK426.out 4;have hfz19_5:=bz BK426.out 5;have hfz19_6:=bz BK426.out 6;have hfz19_7:=bz BK426.out 7
      go_wp2_with (first|((with_reducible refine gate_callee (f:=41) rfl ?_);refine goesL_ (some 8) rfl rfl Try.func41 (by kernel_rfl) rfl #[.agg #[.int .i64 a0_0,.int .i64 a0_1,.int .i64 a0_2,.int .i64 a0_3,.int .i64 a0_4,.int .i64 a0_5,.int .i64 a0_6,.int .i64 a0_7]] rfl (by (try simp only [List.map_toArray,List.map_cons,List.map_nil]);first|done|rfl|(simp only [List.length_drop,List.length_take];rfl)) ?_;(with_reducible refine (field_RightCx.calls k a0_0 a0_1 a0_2 a0_3 a0_4 a0_5 a0_6 a0_7 false _ A7.out).mono ?_);rintro e w20 ⟨rfl,hb⟩;refine ⟨_,rfl,?_⟩;replace BK426:=am (bw (by exact BK426.out) hb);replace BK427:=am (bw (by exact BK427.out) hb);replace BK428:=am (bw (by exact BK428.out) hb);replace HB:=am (ss (by repeat (first|(with_reducible first|exact HB.out|apply sa|apply sn|apply sd|refine sy ?_ (by assumption))|exact HB.out)) hb);(try clear hb);(try clear hb2);(try clear hk);(try clear hi)))
      go_meet
      case rel => exact ⟨_,(true),(by first|rfl|(simp;done)|(simp [*];done)),H',⟨by first|omega|exact Nat.le_refl _⟩,⟨by exact BK426.out⟩,⟨by exact BK427.out⟩,⟨by exact BK428.out⟩,⟨by repeat (first|(with_reducible first|exact HB.out|apply sa|apply sn|apply sd|refine sy ?_ (by assumption))|exact HB.out)⟩⟩
  case rest =>
    clear HC3
    try clear c1
    try clear c2
    try clear p2
    try clear c4
    try clear c8
    try clear c10
    try clear c11
    try clear c14
    try clear c17
    try clear c18
    try clear hcz12_0
    try clear hcz12_1
    try clear hcz12_2
    try clear hcz12_3
    try clear hcz12_4
    try clear hcz12_5
    try clear hcz12_6
    try clear hcz12_7
    try clear hcz15_0
    try clear hcz15_1
    try clear hcz15_2
    try clear hcz15_3
    try clear hcz15_4
    try clear hcz15_5
    try clear hcz15_6
    try clear hcz15_7
    try clear hcz19_0
    try clear hcz19_1
    try clear hcz19_2
    try clear hcz19_3
    try clear hcz19_4
    try clear hcz19_5
    try clear hcz19_6
    try clear hcz19_7
    try clear hfz12_0
    try clear hfz12_1
    try clear hfz12_2
    try clear hfz12_3
    try clear hfz12_4
    try clear hfz12_5
    try clear hfz12_6
    try clear hfz12_7
    try clear hfz15_0
    try clear hfz15_1
    try clear hfz15_2
    try clear hfz15_3
    try clear hfz15_4
    try clear hfz15_5
    try clear hfz15_6
    try clear hfz15_7
    try clear hfz19_0
    try clear hfz19_1
    try clear hfz19_2
    try clear hfz19_3
    try clear hfz19_4
    try clear hfz19_5
    try clear hfz19_6
    try clear hfz19_7
    obtain ⟨kq,x14_2,rfl,HA,HJ2,BK426,BK427,BK428,HB⟩:=hcut
    cases kq with
    | zero => exact absurd HA.out (by simp [affine_ComposeCx.j0])
    | succ kj2 =>
      have H:=HA.out;clear HA;simp only [affine_ComposeCx.j0] at H
      by_cases c21 : x14_2 = true
      · subst c21
        have H1 : (some (0,0,0,0,0,0,0,0)) = some (r1,r2,r3,r4,r5,r6,r7,r8):=by rw [if_pos rfl] at H;exact H
        clear H;have H:=H1;clear H1;simp only [Option.some.injEq,Prod.mk.injEq] at H;obtain ⟨rfl,rfl,rfl,rfl,rfl,rfl,rfl,rfl⟩:=H;have hnb22:=NB428_426.out;have hnc22:=NB426_428.out;have hnb23:=NB428_427.out;have hnc23:=NB427_428.out;have hcz24_0 : wc.cell? ⟨gb428,0,none⟩ = some (.int .i64 0):=(bc BK428.out 0).trans rfl;have hcz24_1 : wc.cell? ⟨gb428,1,none⟩ = some (.int .i64 0):=(bc BK428.out 1).trans rfl;have hcz24_2 : wc.cell? ⟨gb428,2,none⟩ = some (.int .i64 0):=(bc BK428.out 2).trans rfl;have hcz24_3 : wc.cell? ⟨gb428,3,none⟩ = some (.int .i64 0):=(bc BK428.out 3).trans rfl;have hcz24_4 : wc.cell? ⟨gb428,4,none⟩ = some (.int .i64 0):=(bc BK428.out 4).trans rfl;have hcz24_5 : wc.cell? ⟨gb428,5,none⟩ = some (.int .i64 0):=(bc BK428.out 5).trans rfl;have hcz24_6 : wc.cell? ⟨gb428,6,none⟩ = some (.int .i64 0):=(bc BK428.out 6).trans rfl;have hcz24_7 : wc.cell? ⟨gb428,7,none⟩ = some (.int .i64 0):=(bc BK428.out 7).trans rfl;have hfz24_0:=bz BK428.out 0;have hfz24_1:=bz BK428.out 1;have hfz24_2:=bz BK428.out 2;have hfz24_3:=bz BK428.out 3;have hfz24_4:=bz BK428.out 4;have hfz24_5:=bz BK428.out 5;have hfz24_6:=bz BK428.out 6;have hfz24_7:=bz BK428.out 7
        go_wp2
        refine bodyPost_ret (results_cell_row rfl _ _ gb428 41 #[.int .i64 0,.int .i64 0,.int .i64 0,.int .i64 0,.int .i64 0,.int .i64 0,.int .i64 0,.int .i64 0] (0,0) _ rfl (by (with_reducible repeat (first|refine bn ?_ _|refine bd ?_|refine ba ?_ _));refine bp (cs:=#[.int .i64 0,.int .i64 0,.int .i64 0,.int .i64 0,.int .i64 0,.int .i64 0,.int .i64 0,.int .i64 0]) ?_ 7 _ rfl;(with_reducible repeat (first|refine bn ?_ _|refine bd ?_|refine ba ?_ _));refine bp (cs:=#[.int .i64 0,.int .i64 0,.int .i64 0,.int .i64 0,.int .i64 0,.int .i64 0,.int .i64 0,.int .i64 0]) ?_ 6 _ rfl;(with_reducible repeat (first|refine bn ?_ _|refine bd ?_|refine ba ?_ _));refine bp (cs:=#[.int .i64 0,.int .i64 0,.int .i64 0,.int .i64 0,.int .i64 0,.int .i64 0,.int .i64 0,.int .i64 0]) ?_ 5 _ rfl;(with_reducible repeat (first|refine bn ?_ _|refine bd ?_|refine ba ?_ _));refine bp (cs:=#[.int .i64 0,.int .i64 0,.int .i64 0,.int .i64 0,.int .i64 0,.int .i64 0,.int .i64 0,.int .i64 0]) ?_ 4 _ rfl;(with_reducible repeat (first|refine bn ?_ _|refine bd ?_|refine ba ?_ _));refine bp (cs:=#[.int .i64 0,.int .i64 0,.int .i64 0,.int .i64 0,.int .i64 0,.int .i64 0,.int .i64 0,.int .i64 0]) ?_ 3 _ rfl;(with_reducible repeat (first|refine bn ?_ _|refine bd ?_|refine ba ?_ _));refine bp (cs:=#[.int .i64 0,.int .i64 0,.int .i64 0,.int .i64 0,.int .i64 0,.int .i64 0,.int .i64 0,.int .i64 0]) ?_ 2 _ rfl;(with_reducible repeat (first|refine bn ?_ _|refine bd ?_|refine ba ?_ _));refine bp (cs:=#[.int .i64 0,.int .i64 0,.int .i64 0,.int .i64 0,.int .i64 0,.int .i64 0,.int .i64 0,.int .i64 0]) ?_ 1 _ rfl;(with_reducible repeat (first|refine bn ?_ _|refine bd ?_|refine ba ?_ _));refine bp (cs:=#[.int .i64 0,.int .i64 0,.int .i64 0,.int .i64 0,.int .i64 0,.int .i64 0,.int .i64 0,.int .i64 0]) ?_ 0 _ rfl;(with_reducible repeat (first|refine bn ?_ _|refine bd ?_|refine ba ?_ _));exact BK428.out) Try.underlying41 rfl (by kernel_rfl)) rfl ?_
        exact ⟨by first|rfl|(simp [errW_none,errW_some] <;> rfl)|(simp [*,errW_none,errW_some] <;> rfl),by repeat (first|(with_reducible first|exact HB.out|apply sa|apply sn|apply sd|refine sy ?_ (by assumption))|exact HB.out)⟩
      · replace c21:=Bool.eq_false_iff.mpr c21
        subst c21
        have H1 : (affine_ComposeCx.l0 kj2 0 a0_0 a0_1 a0_2 a0_3 a0_4 a0_5 a0_6 a0_7 a1_0 a1_1 a1_2 a1_3 a1_4 a1_5 a1_6 a1_7 0 0 0 0 0 0 0 0) = some (r1,r2,r3,r4,r5,r6,r7,r8):=by rw [if_neg (show ¬ (false = true) by decide)] at H;exact H
        clear H;have H:=H1;clear H1;have H':=am H;clear H
        go_wp2_with (first|((with_reducible refine gate_dst (N:=5) rfl ?_);refine box_event ?hg (N:=5) ?hd (cs:=#[.int .i64 0,.int .i64 0,.int .i64 0,.int .i64 0,.int .i64 0,.int .i64 0,.int .i64 0,.int .i64 0]) (t:=41) ?hr ?_;(case hd => rfl);(case hg => rfl);(case hr => first|(go_simp;done)|(go_simp;rfl));intro gb431 hg w25 hbox hb;have BK431:=am (hbox);obtain ⟨h1_,GW431⟩:=sg (by repeat (first|(with_reducible first|exact HB.out|apply sa|apply sn|apply sd|refine sy ?_ (by assumption))|exact HB.out)) hb hg;replace HB:=h1_;clear h1_;have GE431:=GW431;have NB426_431:=nb (by exact BK426.out) hg;replace BK426:=am (bw (by exact BK426.out) hb);have NB431_426:=am (Ne.symm NB426_431.out);have NB427_431:=nb (by exact BK427.out) hg;replace BK427:=am (bw (by exact BK427.out) hb);have NB431_427:=am (Ne.symm NB427_431.out);have NB428_431:=nb (by exact BK428.out) hg;have NB431_428:=ng (by exact BK428.out) hg;replace BK428:=am (bw (by exact BK428.out) hb);clear hb hbox hg))
        go_loopg [16] kj2 (fun kq v16 w' => ∃ (x16_2 : Int) (x432000_2 : Int) (x432001_2 : Int) (x432002_2 : Int) (x432003_2 : Int) (x432004_2 : Int) (x432005_2 : Int) (x432006_2 : Int) (x432007_2 : Int),v16 = .int .i64 x16_2 ∧ Aside0 (affine_ComposeCx.l0 kq x16_2 a0_0 a0_1 a0_2 a0_3 a0_4 a0_5 a0_6 a0_7 a1_0 a1_1 a1_2 a1_3 a1_4 a1_5 a1_6 a1_7 x432000_2 x432001_2 x432002_2 x432003_2 x432004_2 x432005_2 x432006_2 x432007_2 = some (r1,r2,r3,r4,r5,r6,r7,r8)) ∧ Aside0 (kq ≤ kj2) ∧ Aside0 (w'.heap[gb426]? = some (.cells #[.int .i64 a0_0,.int .i64 a0_1,.int .i64 a0_2,.int .i64 a0_3,.int .i64 a0_4,.int .i64 a0_5,.int .i64 a0_6,.int .i64 a0_7] 41 (0,0))) ∧ Aside0 (w'.heap[gb427]? = some (.cells #[.int .i64 a1_0,.int .i64 a1_1,.int .i64 a1_2,.int .i64 a1_3,.int .i64 a1_4,.int .i64 a1_5,.int .i64 a1_6,.int .i64 a1_7] 41 (0,0))) ∧ Aside0 (w'.heap[gb428]? = some (.cells #[.int .i64 0,.int .i64 0,.int .i64 0,.int .i64 0,.int .i64 0,.int .i64 0,.int .i64 0,.int .i64 0] 41 (0,0))) ∧ Aside0 (w'.heap[gb431]? = some (.cells #[.int .i64 x432000_2,.int .i64 x432001_2,.int .i64 x432002_2,.int .i64 x432003_2,.int .i64 x432004_2,.int .i64 x432005_2,.int .i64 x432006_2,.int .i64 x432007_2] 41 (0,0))) ∧ Aside0 (Below w.heap.size w w'))
        case atStart => exact ⟨(0),(0),(0),(0),(0),(0),(0),(0),(0),(by first|rfl|(simp;done)|(simp [*];done)),H',⟨Nat.le_refl _⟩,⟨by exact BK426.out⟩,⟨by exact BK427.out⟩,⟨by exact BK428.out⟩,⟨by exact BK431.out⟩,⟨by repeat (first|(with_reducible first|exact HB.out|apply sa|apply sn|apply sd|refine sy ?_ (by assumption))|exact HB.out)⟩⟩
        case round =>
          clear H'
          try clear c1
          try clear c2
          try clear p2
          try clear c4
          try clear c8
          try clear c10
          try clear c11
          try clear c14
          try clear c17
          try clear c18
          try clear c21
          try clear c22
          try clear c23
          try clear hcz12_0
          try clear hcz12_1
          try clear hcz12_2
          try clear hcz12_3
          try clear hcz12_4
          try clear hcz12_5
          try clear hcz12_6
          try clear hcz12_7
          try clear hcz15_0
          try clear hcz15_1
          try clear hcz15_2
          try clear hcz15_3
          try clear hcz15_4
          try clear hcz15_5
          try clear hcz15_6
          try clear hcz15_7
          try clear hcz19_0
          try clear hcz19_1
          try clear hcz19_2
          try clear hcz19_3
          try clear hcz19_4
          try clear hcz19_5
          try clear hcz19_6
          try clear hcz19_7
          try clear hcz24_0
          try clear hcz24_1
          try clear hcz24_2
          try clear hcz24_3
          try clear hcz24_4
          try clear hcz24_5
          try clear hcz24_6
          try clear hcz24_7
          try clear hfz12_0
          try clear hfz12_1
          try clear hfz12_2
          try clear hfz12_3
          try clear hfz12_4
          try clear hfz12_5
          try clear hfz12_6
          try clear hfz12_7
          try clear hfz15_0
          try clear hfz15_1
          try clear hfz15_2
          try clear hfz15_3
          try clear hfz15_4
          try clear hfz15_5
          try clear hfz15_6
          try clear hfz15_7
          try clear hfz19_0
          try clear hfz19_1
          try clear hfz19_2
          try clear hfz19_3
          try clear hfz19_4
          try clear hfz19_5
          try clear hfz19_6
          try clear hfz19_7
          try clear hfz24_0
          try clear hfz24_1
          try clear hfz24_2
          try clear hfz24_3
          try clear hfz24_4
          try clear hfz24_5
          try clear hfz24_6
          try clear hfz24_7
          try clear p2
          obtain ⟨x16_2,x432000_2,x432001_2,x432002_2,x432003_2,x432004_2,x432005_2,x432006_2,x432007_2,rfl,HA,HK2,BK426,BK427,BK428,BK431,HB⟩:=hrel
          cases gk with
          | zero => exact absurd HA.out (by simp [affine_ComposeCx.l0])
          | succ k2 =>
            have H:=HA.out;clear HA;simp only [affine_ComposeCx.l0] at H
            by_cases c26 : x16_2 < 4
            · rw [if_pos c26] at H
              have c26b0 : decide (x16_2 < 4) = true:=decide_eq_true c26;clear c26
              by_cases c27 : x16_2 = 0
              · subst c27
                have H1 : ((affine_clamp.f ((wrap64 (a0_0 * a1_0)) / 256) (-512) 512).bind fun t432 => ((affine_clamp.f (wrap64 (((wrap64 (a1_4 * a0_0)) / 256) + a0_4)) (-255) 255).bind fun t433 => (affine_ComposeCx.l0 k2 (0 + 1) a0_0 a0_1 a0_2 a0_3 a0_4 a0_5 a0_6 a0_7 a1_0 a1_1 a1_2 a1_3 a1_4 a1_5 a1_6 a1_7 t432 x432001_2 x432002_2 x432003_2 t433 x432005_2 x432006_2 x432007_2))) = some (r1,r2,r3,r4,r5,r6,r7,r8):=by rw [if_pos rfl] at H;exact H
                clear H;have H:=H1;clear H1;replace H:=Option.bind_eq_some_iff.mp H;obtain ⟨t432,A280,H⟩:=H;replace H : ((affine_clamp.f (wrap64 (((wrap64 (a1_4 * a0_0)) / 256) + a0_4)) (-255) 255).bind fun t433 => (affine_ComposeCx.l0 k2 (0 + 1) a0_0 a0_1 a0_2 a0_3 a0_4 a0_5 a0_6 a0_7 a1_0 a1_1 a1_2 a1_3 a1_4 a1_5 a1_6 a1_7 t432 x432001_2 x432002_2 x432003_2 t433 x432005_2 x432006_2 x432007_2)) = some (r1,r2,r3,r4,r5,r6,r7,r8):=H;have A28:=am A280;clear A280;replace H:=Option.bind_eq_some_iff.mp H;obtain ⟨t433,A290,H⟩:=H;replace H : (affine_ComposeCx.l0 k2 (0 + 1) a0_0 a0_1 a0_2 a0_3 a0_4 a0_5 a0_6 a0_7 a1_0 a1_1 a1_2 a1_3 a1_4 a1_5 a1_6 a1_7 t432 x432001_2 x432002_2 x432003_2 t433 x432005_2 x432006_2 x432007_2) = some (r1,r2,r3,r4,r5,r6,r7,r8):=H;have A29:=am A290;clear A290;have H':=am H;clear H
                try go_wp2
                replace BK426:=am (bd BK426.out);replace BK427:=am (bd BK427.out);replace BK428:=am (bd BK428.out);replace BK431:=am (bd BK431.out);replace HB:=am (sd HB.out);refine start_ (n:=15) (S:=fun w' => w'.cell? ⟨gb426,0,none⟩ = some (.int .i64 a0_0) ∧ w'.cell? ⟨gb426,1,none⟩ = some (.int .i64 a0_1) ∧ w'.cell? ⟨gb426,2,none⟩ = some (.int .i64 a0_2) ∧ w'.cell? ⟨gb426,3,none⟩ = some (.int .i64 a0_3) ∧ w'.cell? ⟨gb426,4,none⟩ = some (.int .i64 a0_4) ∧ w'.cell? ⟨gb426,5,none⟩ = some (.int .i64 a0_5) ∧ w'.cell? ⟨gb426,6,none⟩ = some (.int .i64 a0_6) ∧ w'.cell? ⟨gb426,7,none⟩ = some (.int .i64 a0_7) ∧ w'.cell? ⟨gb427,0,none⟩ = some (.int .i64 a1_0) ∧ w'.cell? ⟨gb427,1,none⟩ = some (.int .i64 a1_1) ∧ w'.cell? ⟨gb427,2,none⟩ = some (.int .i64 a1_2) ∧ w'.cell? ⟨gb427,3,none⟩ = some (.int .i64 a1_3) ∧ w'.cell? ⟨gb427,4,none⟩ = some (.int .i64 a1_4) ∧ w'.cell? ⟨gb427,5,none⟩ = some (.int .i64 a1_5) ∧ w'.cell? ⟨gb427,6,none⟩ = some (.int .i64 a1_6) ∧ w'.cell? ⟨gb427,7,none⟩ = some (.int .i64 a1_7)) (ds:=[]) #[false,false,false,false,false,false,false,false,false,false,false,false,false,false,false] (by kernel_rfl) rfl rfl ⟨(bc BK426.out 0).trans rfl,(bc BK426.out 1).trans rfl,(bc BK426.out 2).trans rfl,(bc BK426.out 3).trans rfl,(bc BK426.out 4).trans rfl,(bc BK426.out 5).trans rfl,(bc BK426.out 6).trans rfl,(bc BK426.out 7).trans rfl,(bc BK427.out 0).trans rfl,(bc BK427.out 1).trans rfl,(bc BK427.out 2).trans rfl,(bc BK427.out 3).trans rfl,(bc BK427.out 4).trans rfl,(bc BK427.out 5).trans rfl,(bc BK427.out 6).trans rfl,(bc BK427.out 7).trans rfl⟩ (fun hHeld => ?_);refine with_tabW affine_ComposeCx.tab7 affine_ComposeCx.bits7 (fun HT_ HW_ => ?_);generalize wr.drew = w30 at BK426 BK427 BK428 BK431 HB hHeld ⊢;refine pure_ (i:=0) (N:=some 19) (v:=?_) (a':=?_) #[true,false,false,false,false,false,false,false,false,false,false,false,false,false,false] rfl rfl (any_of HT_.out (by kernel_rfl)) (fun _ _ _ h => h) (Or.inl ⟨by rfl,?_⟩) ?_ ?_
                rotate_left
                · intro w'
                  go_simp
                  with_reducible rfl
                rotate_left
                · simp only [Act.put,q1,q2,q3,i64_w,i32_w]
                  rfl
                refine pure_ (i:=1) (N:=some 20) (v:=?_) (a':=?_) #[true,true,false,false,false,false,false,false,false,false,false,false,false,false,false] rfl rfl (any_of HT_.out (by kernel_rfl)) (fun _ _ _ h => h) (Or.inl ⟨by rfl,?_⟩) ?_ ?_
                rotate_left
                · intro w'
                  go_simp
                  with_reducible rfl
                rotate_left
                · simp only [Act.put,q1,q2,q3,i64_w,i32_w]
                  rfl
                refine pure_ (i:=2) (N:=some 21) (v:=?_) (a':=?_) #[true,true,true,false,false,false,false,false,false,false,false,false,false,false,false] rfl rfl (any_of HT_.out (by kernel_rfl)) (fun _ _ _ h => h) (Or.inl ⟨by rfl,?_⟩) ?_ ?_
                rotate_left
                · intro w'
                  go_simp
                  with_reducible rfl
                rotate_left
                · simp only [Act.put,q1,q2,q3,i64_w,i32_w]
                  rfl
                refine pure_ (i:=3) (N:=some 22) (v:=?_) (a':=?_) #[true,true,true,true,false,false,false,false,false,false,false,false,false,false,false] rfl rfl (any_of HT_.out (by kernel_rfl)) (fun _ _ _ h => h) (Or.inl ⟨by rfl,?_⟩) ?_ ?_
                rotate_left
                · intro w'
                  go_simp
                  with_reducible rfl
                rotate_left
                · simp only [Act.put,q1,q2,q3,i64_w,i32_w]
                  rfl
                refine pure_ (i:=5) (N:=some 24) (v:=?_) (a':=?_) #[true,true,true,true,false,true,false,false,false,false,false,false,false,false,false] rfl rfl (any_of HT_.out (by kernel_rfl)) (fun _ _ _ h => h) (Or.inl ⟨by rfl,?_⟩) ?_ ?_
                rotate_left
                · intro w'
                  go_simp
                  with_reducible rfl
                rotate_left
                · simp only [Act.put,q1,q2,q3,i64_w,i32_w]
                  rfl
                refine pure_ (i:=6) (N:=some 25) (v:=?_) (a':=?_) #[true,true,true,true,false,true,true,false,false,false,false,false,false,false,false] rfl rfl (any_of HT_.out (by kernel_rfl)) (fun _ _ _ h => h) (Or.inl ⟨by rfl,?_⟩) ?_ ?_
                rotate_left
                · intro w'
                  go_simp
                  with_reducible rfl
                rotate_left
                · simp only [Act.put,q1,q2,q3,i64_w,i32_w]
                  rfl
                refine pure_ (i:=7) (N:=some 26) (v:=?_) (a':=?_) #[true,true,true,true,false,true,true,true,false,false,false,false,false,false,false] rfl rfl (any_of HT_.out (by kernel_rfl)) (fun _ _ _ h => h) (Or.inl ⟨by rfl,?_⟩) ?_ ?_
                rotate_left
                · intro w'
                  go_simp
                  with_reducible rfl
                rotate_left
                · simp only [Act.put,q1,q2,q3,i64_w,i32_w]
                  rfl
                refine pure_ (i:=12) (N:=some 31) (v:=?_) (a':=?_) #[true,true,true,true,false,true,true,true,false,false,false,false,true,false,false] rfl rfl (any_of HT_.out (by kernel_rfl)) (fun _ _ _ h => h) (Or.inl ⟨by rfl,?_⟩) ?_ ?_
                rotate_left
                · intro w'
                  go_simp
                  with_reducible rfl
                rotate_left
                · simp only [Act.put,q1,q2,q3,i64_w,i32_w]
                  rfl
                refine take_ (i:=4) (N:=some 23) (v:=?_) (a':=?_) #[true,true,true,true,true,true,true,true,false,false,false,false,true,false,false] rfl rfl (take_ofW HT_.out HW_.out (by kernel_rfl)) (fun _ _ _ h => h) (Or.inl ⟨by rfl,?_⟩) hHeld ?_ ?_
                rotate_left
                · rintro w' ⟨s0,s1,s2,s3,s4,s5,s6,s7,s8,s9,s10,s11,s12,s13,s14,s15⟩
                  go_simp
                  with_reducible rfl
                rotate_left
                · simp only [Act.put,q1,q2,q3,i64_w,i32_w]
                  rfl
                refine take_ (i:=8) (N:=some 27) (v:=?_) (a':=?_) #[true,true,true,true,true,true,true,true,true,false,false,false,true,false,false] rfl rfl (take_ofW HT_.out HW_.out (by kernel_rfl)) (fun _ _ _ h => h) (Or.inl ⟨by rfl,?_⟩) hHeld ?_ ?_
                rotate_left
                · rintro w' ⟨s0,s1,s2,s3,s4,s5,s6,s7,s8,s9,s10,s11,s12,s13,s14,s15⟩
                  go_simp
                  with_reducible rfl
                rotate_left
                · simp only [Act.put,q1,q2,q3,i64_w,i32_w]
                  rfl
                refine pure_ (i:=9) (N:=some 28) (v:=?_) (a':=?_) #[true,true,true,true,true,true,true,true,true,true,false,false,true,false,false] rfl rfl (any_of HT_.out (by kernel_rfl)) (fun _ _ _ h => h) (Or.inl ⟨by rfl,?_⟩) ?_ ?_
                rotate_left
                · intro w'
                  go_simp
                  with_reducible rfl
                rotate_left
                · simp only [Act.put,q1,q2,q3,i64_w,i32_w]
                  rfl
                refine pure_ (i:=10) (N:=some 29) (v:=?_) (a':=?_) #[true,true,true,true,true,true,true,true,true,true,true,false,true,false,false] rfl rfl (any_of HT_.out (by kernel_rfl)) (fun _ _ _ h => h) (Or.inl ⟨by rfl,?_⟩) ?_ ?_
                rotate_left
                · intro w'
                  go_simp
                  with_reducible rfl
                rotate_left
                · simp only [Act.put,q1,q2,q3,i64_w,i32_w]
                  rfl
                refine one_ (i:=11) (N:=some 30) #[true,true,true,true,true,true,true,true,true,true,true,true,true,false,false] rfl rfl (one_of HT_.out (by kernel_rfl)) (by decide) (fun K hK => ?_);refine goes_ Try.func43 (by kernel_rfl) rfl #[.int .i64 ((wrap64 (a0_0 * a1_0)) / 256),.int .i64 (-512),.int .i64 512] (by rfl) rfl rfl (by (try simp only [List.map_toArray,List.map_cons,List.map_nil]);first|done|rfl|(simp only [List.length_drop,List.length_take];rfl)) ?_
                with_reducible refine (affine_clamp.calls ((wrap64 (a0_0 * a1_0)) / 256) (-512) 512 t432 _ A28.out).mono ?_
                rintro e w31 ⟨rfl,hb⟩
                refine ⟨_,rfl,?_⟩;replace BK426:=am (bw (by exact BK426.out) hb);replace BK427:=am (bw (by exact BK427.out) hb);replace BK428:=am (bw (by exact BK428.out) hb);replace BK431:=am (bw (by exact BK431.out) hb);replace HB:=am (ss (by repeat (first|(with_reducible first|exact HB.out|apply sa|apply sn|apply sd|refine sy ?_ (by assumption))|exact HB.out)) hb);(try clear hb);(try clear hb2);(try clear hk);(try clear hi);refine hK.out _ _ ⟨(bc BK426.out 0).trans rfl,(bc BK426.out 1).trans rfl,(bc BK426.out 2).trans rfl,(bc BK426.out 3).trans rfl,(bc BK426.out 4).trans rfl,(bc BK426.out 5).trans rfl,(bc BK426.out 6).trans rfl,(bc BK426.out 7).trans rfl,(bc BK427.out 0).trans rfl,(bc BK427.out 1).trans rfl,(bc BK427.out 2).trans rfl,(bc BK427.out 3).trans rfl,(bc BK427.out 4).trans rfl,(bc BK427.out 5).trans rfl,(bc BK427.out 6).trans rfl,(bc BK427.out 7).trans rfl⟩ (fun hHeld => ?_);clear hK K;refine norm_ (a':=?_) ?_ ?_
                rotate_left
                · show Act.put _ (some 30) _ = _
                  simp only [Act.put,q1,q2,q3,i64_w,i32_w]
                  rfl
                refine pure_ (i:=13) (N:=some 32) (v:=?_) (a':=?_) #[true,true,true,true,true,true,true,true,true,true,true,true,true,true,false] rfl rfl (any_of HT_.out (by kernel_rfl)) (fun _ _ _ h => h) (Or.inl ⟨by rfl,?_⟩) ?_ ?_
                rotate_left
                · intro w'
                  go_simp
                  with_reducible rfl
                rotate_left
                · simp only [Act.put,q1,q2,q3,i64_w,i32_w]
                  rfl
                refine one_ (i:=14) (N:=none) #[true,true,true,true,true,true,true,true,true,true,true,true,true,true,true] rfl rfl (one_of HT_.out (by kernel_rfl)) (by decide) (fun K hK => ?_);have hs32 : w31.cell? ⟨gb431,0,none⟩ = some (.int .i64 x432000_2):=(bc BK431.out 0).trans rfl;have hfs32:=bz BK431.out 0;have hns32_0:=NB426_431.out;have hns32_1:=NB427_431.out;have hns32_2:=NB428_431.out;have hms32_0:=NB431_426.out;have hms32_1:=NB431_427.out;have hms32_2:=NB431_428.out;refine skip_ (w1:=?_) (by rfl) rfl ?_ ?_
                rotate_left
                · go_simp
                  rfl
                refine hK.out _ _ ⟨((cell_far (p:=⟨gb431,_,none⟩) NB426_431.out _).trans (hHeld.1)),((cell_far (p:=⟨gb431,_,none⟩) NB426_431.out _).trans (hHeld.2.1)),((cell_far (p:=⟨gb431,_,none⟩) NB426_431.out _).trans (hHeld.2.2.1)),((cell_far (p:=⟨gb431,_,none⟩) NB426_431.out _).trans (hHeld.2.2.2.1)),((cell_far (p:=⟨gb431,_,none⟩) NB426_431.out _).trans (hHeld.2.2.2.2.1)),((cell_far (p:=⟨gb431,_,none⟩) NB426_431.out _).trans (hHeld.2.2.2.2.2.1)),((cell_far (p:=⟨gb431,_,none⟩) NB426_431.out _).trans (hHeld.2.2.2.2.2.2.1)),((cell_far (p:=⟨gb431,_,none⟩) NB426_431.out _).trans (hHeld.2.2.2.2.2.2.2.1)),((cell_far (p:=⟨gb431,_,none⟩) NB427_431.out _).trans (hHeld.2.2.2.2.2.2.2.2.1)),((cell_far (p:=⟨gb431,_,none⟩) NB427_431.out _).trans (hHeld.2.2.2.2.2.2.2.2.2.1)),((cell_far (p:=⟨gb431,_,none⟩) NB427_431.out _).trans (hHeld.2.2.2.2.2.2.2.2.2.2.1)),((cell_far (p:=⟨gb431,_,none⟩) NB427_431.out _).trans (hHeld.2.2.2.2.2.2.2.2.2.2.2.1)),((cell_far (p:=⟨gb431,_,none⟩) NB427_431.out _).trans (hHeld.2.2.2.2.2.2.2.2.2.2.2.2.1)),((cell_far (p:=⟨gb431,_,none⟩) NB427_431.out _).trans (hHeld.2.2.2.2.2.2.2.2.2.2.2.2.2.1)),((cell_far (p:=⟨gb431,_,none⟩) NB427_431.out _).trans (hHeld.2.2.2.2.2.2.2.2.2.2.2.2.2.2.1)),((cell_far (p:=⟨gb431,_,none⟩) NB427_431.out _).trans (hHeld.2.2.2.2.2.2.2.2.2.2.2.2.2.2.2))⟩ (fun hHeld => ?_);clear hK K;refine done_ (done_of HT_.out (by kernel_rfl)) ?_
                try go_wp2
                have n0_ : Aside0 ((w31.setCell ⟨gb431,0,none⟩ (.int .i64 t432)).heap[gb426]? = some (.cells #[.int .i64 a0_0,.int .i64 a0_1,.int .i64 a0_2,.int .i64 a0_3,.int .i64 a0_4,.int .i64 a0_5,.int .i64 a0_6,.int .i64 a0_7] 41 (0,0))):=⟨by (with_reducible repeat (first|refine bn ?_ _|refine bd ?_|refine ba ?_ _|refine bf ?_ NB426_431.out _));exact BK426.out⟩;have n1_ : Aside0 ((w31.setCell ⟨gb431,0,none⟩ (.int .i64 t432)).heap[gb427]? = some (.cells #[.int .i64 a1_0,.int .i64 a1_1,.int .i64 a1_2,.int .i64 a1_3,.int .i64 a1_4,.int .i64 a1_5,.int .i64 a1_6,.int .i64 a1_7] 41 (0,0))):=⟨by (with_reducible repeat (first|refine bn ?_ _|refine bd ?_|refine ba ?_ _|refine bf ?_ NB427_431.out _));exact BK427.out⟩;have n2_ : Aside0 ((w31.setCell ⟨gb431,0,none⟩ (.int .i64 t432)).heap[gb428]? = some (.cells #[.int .i64 0,.int .i64 0,.int .i64 0,.int .i64 0,.int .i64 0,.int .i64 0,.int .i64 0,.int .i64 0] 41 (0,0))):=⟨by (with_reducible repeat (first|refine bn ?_ _|refine bd ?_|refine ba ?_ _|refine bf ?_ NB428_431.out _));exact BK428.out⟩;have n3_ : Aside0 ((w31.setCell ⟨gb431,0,none⟩ (.int .i64 t432)).heap[gb431]? = some (.cells #[.int .i64 t432,.int .i64 x432001_2,.int .i64 x432002_2,.int .i64 x432003_2,.int .i64 x432004_2,.int .i64 x432005_2,.int .i64 x432006_2,.int .i64 x432007_2] 41 (0,0))):=⟨by (with_reducible repeat (first|refine bn ?_ _|refine bd ?_|refine ba ?_ _));refine bp (cs:=#[.int .i64 x432000_2,.int .i64 x432001_2,.int .i64 x432002_2,.int .i64 x432003_2,.int .i64 x432004_2,.int .i64 x432005_2,.int .i64 x432006_2,.int .i64 x432007_2]) ?_ 0 _ rfl;(with_reducible repeat (first|refine bn ?_ _|refine bd ?_|refine ba ?_ _));exact BK431.out⟩;have n4_ : Aside0 (Below w.heap.size w (w31.setCell ⟨gb431,0,none⟩ (.int .i64 t432))):=⟨by repeat (first|(with_reducible first|exact HB.out|apply sa|apply sn|apply sd|refine sy ?_ (by assumption))|exact HB.out)⟩;(try clear BK426);(try clear BK427);(try clear BK428);(try clear BK431);(try clear HB);generalize (w31.setCell ⟨gb431,0,none⟩ (.int .i64 t432)) = w33 at n0_ n1_ n2_ n3_ n4_ ⊢;have BK426:=n0_;have BK427:=n1_;have BK428:=n2_;have BK431:=n3_;have HB:=n4_;clear n0_ n1_ n2_ n3_ n4_;replace BK426:=am (bd BK426.out);replace BK427:=am (bd BK427.out);replace BK428:=am (bd BK428.out);replace BK431:=am (bd BK431.out);replace HB:=am (sd HB.out);refine start_ (n:=20) (S:=fun w' => w'.cell? ⟨gb427,0,none⟩ = some (.int .i64 a1_0) ∧ w'.cell? ⟨gb427,1,none⟩ = some (.int .i64 a1_1) ∧ w'.cell? ⟨gb427,2,none⟩ = some (.int .i64 a1_2) ∧ w'.cell? ⟨gb427,3,none⟩ = some (.int .i64 a1_3) ∧ w'.cell? ⟨gb427,4,none⟩ = some (.int .i64 a1_4) ∧ w'.cell? ⟨gb427,5,none⟩ = some (.int .i64 a1_5) ∧ w'.cell? ⟨gb427,6,none⟩ = some (.int .i64 a1_6) ∧ w'.cell? ⟨gb427,7,none⟩ = some (.int .i64 a1_7) ∧ w'.cell? ⟨gb426,0,none⟩ = some (.int .i64 a0_0) ∧ w'.cell? ⟨gb426,1,none⟩ = some (.int .i64 a0_1) ∧ w'.cell? ⟨gb426,2,none⟩ = some (.int .i64 a0_2) ∧ w'.cell? ⟨gb426,3,none⟩ = some (.int .i64 a0_3) ∧ w'.cell? ⟨gb426,4,none⟩ = some (.int .i64 a0_4) ∧ w'.cell? ⟨gb426,5,none⟩ = some (.int .i64 a0_5) ∧ w'.cell? ⟨gb426,6,none⟩ = some (.int .i64 a0_6) ∧ w'.cell? ⟨gb426,7,none⟩ = some (.int .i64 a0_7)) (ds:=[]) #[false,false,false,false,false,false,false,false,false,false,false,false,false,false,false,false,false,false,false,false] (by kernel_rfl) rfl rfl ⟨(bc BK427.out 0).trans rfl,(bc BK427.out 1).trans rfl,(bc BK427.out 2).trans rfl,(bc BK427.out 3).trans rfl,(bc BK427.out 4).trans rfl,(bc BK427.out 5).trans rfl,(bc BK427.out 6).trans rfl,(bc BK427.out 7).trans rfl,(bc BK426.out 0).trans rfl,(bc BK426.out 1).trans rfl,(bc BK426.out 2).trans rfl,(bc BK426.out 3).trans rfl,(bc BK426.out 4).trans rfl,(bc BK426.out 5).trans rfl,(bc BK426.out 6).trans rfl,(bc BK426.out 7).trans rfl⟩ (fun hHeld => ?_);refine with_tabW affine_ComposeCx.tab8 affine_ComposeCx.bits8 (fun HT_ HW_ => ?_);generalize w33.drew = w34 at BK426 BK427 BK428 BK431 HB hHeld ⊢;refine pure_ (i:=0) (N:=some 33) (v:=?_) (a':=?_) #[true,false,false,false,false,false,false,false,false,false,false,false,false,false,false,false,false,false,false,false] rfl rfl (any_of HT_.out (by kernel_rfl)) (fun _ _ _ h => h) (Or.inl ⟨by rfl,?_⟩) ?_ ?_
                rotate_left
                · intro w'
                  go_simp
                  with_reducible rfl
                rotate_left
                · simp only [Act.put,q1,q2,q3,i64_w,i32_w]
                  rfl
                refine pure_ (i:=1) (N:=some 34) (v:=?_) (a':=?_) #[true,true,false,false,false,false,false,false,false,false,false,false,false,false,false,false,false,false,false,false] rfl rfl (any_of HT_.out (by kernel_rfl)) (fun _ _ _ h => h) (Or.inl ⟨by rfl,?_⟩) ?_ ?_
                rotate_left
                · intro w'
                  go_simp
                  with_reducible rfl
                rotate_left
                · simp only [Act.put,q1,q2,q3,i64_w,i32_w]
                  rfl
                refine pure_ (i:=2) (N:=some 35) (v:=?_) (a':=?_) #[true,true,true,false,false,false,false,false,false,false,false,false,false,false,false,false,false,false,false,false] rfl rfl (any_of HT_.out (by kernel_rfl)) (fun _ _ _ h => h) (Or.inl ⟨by rfl,?_⟩) ?_ ?_
                rotate_left
                · intro w'
                  go_simp
                  with_reducible rfl
                rotate_left
                · simp only [Act.put,q1,q2,q3,i64_w,i32_w]
                  rfl
                refine pure_ (i:=3) (N:=some 36) (v:=?_) (a':=?_) #[true,true,true,true,false,false,false,false,false,false,false,false,false,false,false,false,false,false,false,false] rfl rfl (any_of HT_.out (by kernel_rfl)) (fun _ _ _ h => h) (Or.inl ⟨by rfl,?_⟩) ?_ ?_
                rotate_left
                · intro w'
                  go_simp
                  with_reducible rfl
                rotate_left
                · simp only [Act.put,q1,q2,q3,i64_w,i32_w]
                  rfl
                refine pure_ (i:=5) (N:=some 38) (v:=?_) (a':=?_) #[true,true,true,true,false,true,false,false,false,false,false,false,false,false,false,false,false,false,false,false] rfl rfl (any_of HT_.out (by kernel_rfl)) (fun _ _ _ h => h) (Or.inl ⟨by rfl,?_⟩) ?_ ?_
                rotate_left
                · intro w'
                  go_simp
                  with_reducible rfl
                rotate_left
                · simp only [Act.put,q1,q2,q3,i64_w,i32_w]
                  rfl
                refine pure_ (i:=6) (N:=some 39) (v:=?_) (a':=?_) #[true,true,true,true,false,true,true,false,false,false,false,false,false,false,false,false,false,false,false,false] rfl rfl (any_of HT_.out (by kernel_rfl)) (fun _ _ _ h => h) (Or.inl ⟨by rfl,?_⟩) ?_ ?_
                rotate_left
                · intro w'
                  go_simp
                  with_reducible rfl
                rotate_left
                · simp only [Act.put,q1,q2,q3,i64_w,i32_w]
                  rfl
                refine pure_ (i:=7) (N:=some 40) (v:=?_) (a':=?_) #[true,true,true,true,false,true,true,true,false,false,false,false,false,false,false,false,false,false,false,false] rfl rfl (any_of HT_.out (by kernel_rfl)) (fun _ _ _ h => h) (Or.inl ⟨by rfl,?_⟩) ?_ ?_
                rotate_left
                · intro w'
                  go_simp
                  with_reducible rfl
                rotate_left
                · simp only [Act.put,q1,q2,q3,i64_w,i32_w]
                  rfl
                refine pure_ (i:=11) (N:=some 44) (v:=?_) (a':=?_) #[true,true,true,true,false,true,true,true,false,false,false,true,false,false,false,false,false,false,false,false] rfl rfl (any_of HT_.out (by kernel_rfl)) (fun _ _ _ h => h) (Or.inl ⟨by rfl,?_⟩) ?_ ?_
                rotate_left
                · intro w'
                  go_simp
                  with_reducible rfl
                rotate_left
                · simp only [Act.put,q1,q2,q3,i64_w,i32_w]
                  rfl
                refine pure_ (i:=12) (N:=some 45) (v:=?_) (a':=?_) #[true,true,true,true,false,true,true,true,false,false,false,true,true,false,false,false,false,false,false,false] rfl rfl (any_of HT_.out (by kernel_rfl)) (fun _ _ _ h => h) (Or.inl ⟨by rfl,?_⟩) ?_ ?_
                rotate_left
                · intro w'
                  go_simp
                  with_reducible rfl
                rotate_left
                · simp only [Act.put,q1,q2,q3,i64_w,i32_w]
                  rfl
                refine pure_ (i:=13) (N:=some 46) (v:=?_) (a':=?_) #[true,true,true,true,false,true,true,true,false,false,false,true,true,true,false,false,false,false,false,false] rfl rfl (any_of HT_.out (by kernel_rfl)) (fun _ _ _ h => h) (Or.inl ⟨by rfl,?_⟩) ?_ ?_
                rotate_left
                · intro w'
                  go_simp
                  with_reducible rfl
                rotate_left
                · simp only [Act.put,q1,q2,q3,i64_w,i32_w]
                  rfl
                refine pure_ (i:=17) (N:=some 50) (v:=?_) (a':=?_) #[true,true,true,true,false,true,true,true,false,false,false,true,true,true,false,false,false,true,false,false] rfl rfl (any_of HT_.out (by kernel_rfl)) (fun _ _ _ h => h) (Or.inl ⟨by rfl,?_⟩) ?_ ?_
                rotate_left
                · intro w'
                  go_simp
                  with_reducible rfl
                rotate_left
                · simp only [Act.put,q1,q2,q3,i64_w,i32_w]
                  rfl
                refine take_ (i:=4) (N:=some 37) (v:=?_) (a':=?_) #[true,true,true,true,true,true,true,true,false,false,false,true,true,true,false,false,false,true,false,false] rfl rfl (take_ofW HT_.out HW_.out (by kernel_rfl)) (fun _ _ _ h => h) (Or.inl ⟨by rfl,?_⟩) hHeld ?_ ?_
                rotate_left
                · rintro w' ⟨s0,s1,s2,s3,s4,s5,s6,s7,s8,s9,s10,s11,s12,s13,s14,s15⟩
                  go_simp
                  with_reducible rfl
                rotate_left
                · simp only [Act.put,q1,q2,q3,i64_w,i32_w]
                  rfl
                refine take_ (i:=8) (N:=some 41) (v:=?_) (a':=?_) #[true,true,true,true,true,true,true,true,true,false,false,true,true,true,false,false,false,true,false,false] rfl rfl (take_ofW HT_.out HW_.out (by kernel_rfl)) (fun _ _ _ h => h) (Or.inl ⟨by rfl,?_⟩) hHeld ?_ ?_
                rotate_left
                · rintro w' ⟨s0,s1,s2,s3,s4,s5,s6,s7,s8,s9,s10,s11,s12,s13,s14,s15⟩
                  go_simp
                  with_reducible rfl
                rotate_left
                · simp only [Act.put,q1,q2,q3,i64_w,i32_w]
                  rfl
                refine pure_ (i:=9) (N:=some 42) (v:=?_) (a':=?_) #[true,true,true,true,true,true,true,true,true,true,false,true,true,true,false,false,false,true,false,false] rfl rfl (any_of HT_.out (by kernel_rfl)) (fun _ _ _ h => h) (Or.inl ⟨by rfl,?_⟩) ?_ ?_
                rotate_left
                · intro w'
                  go_simp
                  with_reducible rfl
                rotate_left
                · simp only [Act.put,q1,q2,q3,i64_w,i32_w]
                  rfl
                refine pure_ (i:=10) (N:=some 43) (v:=?_) (a':=?_) #[true,true,true,true,true,true,true,true,true,true,true,true,true,true,false,false,false,true,false,false] rfl rfl (any_of HT_.out (by kernel_rfl)) (fun _ _ _ h => h) (Or.inl ⟨by rfl,?_⟩) ?_ ?_
                rotate_left
                · intro w'
                  go_simp
                  with_reducible rfl
                rotate_left
                · simp only [Act.put,q1,q2,q3,i64_w,i32_w]
                  rfl
                refine take_ (i:=14) (N:=some 47) (v:=?_) (a':=?_) #[true,true,true,true,true,true,true,true,true,true,true,true,true,true,true,false,false,true,false,false] rfl rfl (take_ofW HT_.out HW_.out (by kernel_rfl)) (fun _ _ _ h => h) (Or.inl ⟨by rfl,?_⟩) hHeld ?_ ?_
                rotate_left
                · rintro w' ⟨s0,s1,s2,s3,s4,s5,s6,s7,s8,s9,s10,s11,s12,s13,s14,s15⟩
                  go_simp
                  with_reducible rfl
                rotate_left
                · simp only [Act.put,q1,q2,q3,i64_w,i32_w]
                  rfl
                refine pure_ (i:=15) (N:=some 48) (v:=?_) (a':=?_) #[true,true,true,true,true,true,true,true,true,true,true,true,true,true,true,true,false,true,false,false] rfl rfl (any_of HT_.out (by kernel_rfl)) (fun _ _ _ h => h) (Or.inl ⟨by rfl,?_⟩) ?_ ?_
                rotate_left
                · intro w'
                  go_simp
                  with_reducible rfl
                rotate_left
                · simp only [Act.put,q1,q2,q3,i64_w,i32_w]
                  rfl
                refine one_ (i:=16) (N:=some 49) #[true,true,true,true,true,true,true,true,true,true,true,true,true,true,true,true,true,true,false,false] rfl rfl (one_of HT_.out (by kernel_rfl)) (by decide) (fun K hK => ?_);refine goes_ Try.func43 (by kernel_rfl) rfl #[.int .i64 (wrap64 (((wrap64 (a1_4 * a0_0)) / 256) + a0_4)),.int .i64 (-255),.int .i64 255] (by rfl) rfl rfl (by (try simp only [List.map_toArray,List.map_cons,List.map_nil]);first|done|rfl|(simp only [List.length_drop,List.length_take];rfl)) ?_
                with_reducible refine (affine_clamp.calls (wrap64 (((wrap64 (a1_4 * a0_0)) / 256) + a0_4)) (-255) 255 t433 _ A29.out).mono ?_
                rintro e w35 ⟨rfl,hb⟩
                refine ⟨_,rfl,?_⟩;replace BK426:=am (bw (by exact BK426.out) hb);replace BK427:=am (bw (by exact BK427.out) hb);replace BK428:=am (bw (by exact BK428.out) hb);replace BK431:=am (bw (by exact BK431.out) hb);replace HB:=am (ss (by repeat (first|(with_reducible first|exact HB.out|apply sa|apply sn|apply sd|refine sy ?_ (by assumption))|exact HB.out)) hb);(try clear hb);(try clear hb2);(try clear hk);(try clear hi);refine hK.out _ _ ⟨(bc BK427.out 0).trans rfl,(bc BK427.out 1).trans rfl,(bc BK427.out 2).trans rfl,(bc BK427.out 3).trans rfl,(bc BK427.out 4).trans rfl,(bc BK427.out 5).trans rfl,(bc BK427.out 6).trans rfl,(bc BK427.out 7).trans rfl,(bc BK426.out 0).trans rfl,(bc BK426.out 1).trans rfl,(bc BK426.out 2).trans rfl,(bc BK426.out 3).trans rfl,(bc BK426.out 4).trans rfl,(bc BK426.out 5).trans rfl,(bc BK426.out 6).trans rfl,(bc BK426.out 7).trans rfl⟩ (fun hHeld => ?_);clear hK K;refine norm_ (a':=?_) ?_ ?_
                rotate_left
                · show Act.put _ (some 49) _ = _
                  simp only [Act.put,q1,q2,q3,i64_w,i32_w]
                  rfl
                refine pure_ (i:=18) (N:=some 51) (v:=?_) (a':=?_) #[true,true,true,true,true,true,true,true,true,true,true,true,true,true,true,true,true,true,true,false] rfl rfl (any_of HT_.out (by kernel_rfl)) (fun _ _ _ h => h) (Or.inl ⟨by rfl,?_⟩) ?_ ?_
                rotate_left
                · intro w'
                  go_simp
                  with_reducible rfl
                rotate_left
                · simp only [Act.put,q1,q2,q3,i64_w,i32_w]
                  rfl
                refine one_ (i:=19) (N:=none) #[true,true,true,true,true,true,true,true,true,true,true,true,true,true,true,true,true,true,true,true] rfl rfl (one_of HT_.out (by kernel_rfl)) (by decide) (fun K hK => ?_);have hs36 : w35.cell? ⟨gb431,4,none⟩ = some (.int .i64 x432004_2):=(bc BK431.out 4).trans rfl;have hfs36:=bz BK431.out 4;have hns36_0:=NB426_431.out;have hns36_1:=NB427_431.out;have hns36_2:=NB428_431.out;have hms36_0:=NB431_426.out;have hms36_1:=NB431_427.out;have hms36_2:=NB431_428.out;refine skip_ (w1:=?_) (by rfl) rfl ?_ ?_
                rotate_left
                · go_simp
                  rfl
                refine hK.out _ _ ⟨((cell_far (p:=⟨gb431,_,none⟩) NB427_431.out _).trans (hHeld.1)),((cell_far (p:=⟨gb431,_,none⟩) NB427_431.out _).trans (hHeld.2.1)),((cell_far (p:=⟨gb431,_,none⟩) NB427_431.out _).trans (hHeld.2.2.1)),((cell_far (p:=⟨gb431,_,none⟩) NB427_431.out _).trans (hHeld.2.2.2.1)),((cell_far (p:=⟨gb431,_,none⟩) NB427_431.out _).trans (hHeld.2.2.2.2.1)),((cell_far (p:=⟨gb431,_,none⟩) NB427_431.out _).trans (hHeld.2.2.2.2.2.1)),((cell_far (p:=⟨gb431,_,none⟩) NB427_431.out _).trans (hHeld.2.2.2.2.2.2.1)),((cell_far (p:=⟨gb431,_,none⟩) NB427_431.out _).trans (hHeld.2.2.2.2.2.2.2.1)),((cell_far (p:=⟨gb431,_,none⟩) NB426_431.out _).trans (hHeld.2.2.2.2.2.2.2.2.1)),((cell_far (p:=⟨gb431,_,none⟩) NB426_431.out _).trans (hHeld.2.2.2.2.2.2.2.2.2.1)),((cell_far (p:=⟨gb431,_,none⟩) NB426_431.out _).trans (hHeld.2.2.2.2.2.2.2.2.2.2.1)),((cell_far (p:=⟨gb431,_,none⟩) NB426_431.out _).trans (hHeld.2.2.2.2.2.2.2.2.2.2.2.1)),((cell_far (p:=⟨gb431,_,none⟩) NB426_431.out _).trans (hHeld.2.2.2.2.2.2.2.2.2.2.2.2.1)),((cell_far (p:=⟨gb431,_,none⟩) NB426_431.out _).trans (hHeld.2.2.2.2.2.2.2.2.2.2.2.2.2.1)),((cell_far (p:=⟨gb431,_,none⟩) NB426_431.out _).trans (hHeld.2.2.2.2.2.2.2.2.2.2.2.2.2.2.1)),((cell_far (p:=⟨gb431,_,none⟩) NB426_431.out _).trans (hHeld.2.2.2.2.2.2.2.2.2.2.2.2.2.2.2))⟩ (fun hHeld => ?_);clear hK K;refine done_ (done_of HT_.out (by kernel_rfl)) ?_
                try go_wp2
                go_roundg k2
                case measure => have:=HJ2.out;have:=HK2.out;omega
                case rel => exact ⟨(0 + 1),(t432),(x432001_2),(x432002_2),(x432003_2),(t433),(x432005_2),(x432006_2),(x432007_2),(by first|rfl|(simp;done)|(simp [*];done)),H',⟨by have:=HJ2.out;have:=HK2.out;omega⟩,⟨by (with_reducible repeat (first|refine bn ?_ _|refine bd ?_|refine ba ?_ _|refine bf ?_ NB426_431.out _));exact BK426.out⟩,⟨by (with_reducible repeat (first|refine bn ?_ _|refine bd ?_|refine ba ?_ _|refine bf ?_ NB427_431.out _));exact BK427.out⟩,⟨by (with_reducible repeat (first|refine bn ?_ _|refine bd ?_|refine ba ?_ _|refine bf ?_ NB428_431.out _));exact BK428.out⟩,⟨by (with_reducible repeat (first|refine bn ?_ _|refine bd ?_|refine ba ?_ _));refine bp (cs:=#[.int .i64 t432,.int .i64 x432001_2,.int .i64 x432002_2,.int .i64 x432003_2,.int .i64 x432004_2,.int .i64 x432005_2,.int .i64 x432006_2,.int .i64 x432007_2]) ?_ 4 _ rfl;(with_reducible repeat (first|refine bn ?_ _|refine bd ?_|refine ba ?_ _));exact BK431.out⟩,⟨by repeat (first|(with_reducible first|exact HB.out|apply sa|apply sn|apply sd|refine sy ?_ (by assumption))|exact HB.out)⟩⟩
              · rw [if_neg c27] at H
                by_cases c37 : x16_2 = 1
                · subst c37
                  have H1 : ((affine_clamp.f ((wrap64 (a0_1 * a1_1)) / 256) (-512) 512).bind fun t434 => ((affine_clamp.f (wrap64 (((wrap64 (a1_5 * a0_1)) / 256) + a0_5)) (-255) 255).bind fun t435 => (affine_ComposeCx.l0 k2 (1 + 1) a0_0 a0_1 a0_2 a0_3 a0_4 a0_5 a0_6 a0_7 a1_0 a1_1 a1_2 a1_3 a1_4 a1_5 a1_6 a1_7 x432000_2 t434 x432002_2 x432003_2 x432004_2 t435 x432006_2 x432007_2))) = some (r1,r2,r3,r4,r5,r6,r7,r8):=by rw [if_pos rfl] at H;exact H
                  clear H;have H:=H1;clear H1;replace H:=Option.bind_eq_some_iff.mp H;obtain ⟨t434,A380,H⟩:=H;replace H : ((affine_clamp.f (wrap64 (((wrap64 (a1_5 * a0_1)) / 256) + a0_5)) (-255) 255).bind fun t435 => (affine_ComposeCx.l0 k2 (1 + 1) a0_0 a0_1 a0_2 a0_3 a0_4 a0_5 a0_6 a0_7 a1_0 a1_1 a1_2 a1_3 a1_4 a1_5 a1_6 a1_7 x432000_2 t434 x432002_2 x432003_2 x432004_2 t435 x432006_2 x432007_2)) = some (r1,r2,r3,r4,r5,r6,r7,r8):=H;have A38:=am A380;clear A380;replace H:=Option.bind_eq_some_iff.mp H;obtain ⟨t435,A390,H⟩:=H;replace H : (affine_ComposeCx.l0 k2 (1 + 1) a0_0 a0_1 a0_2 a0_3 a0_4 a0_5 a0_6 a0_7 a1_0 a1_1 a1_2 a1_3 a1_4 a1_5 a1_6 a1_7 x432000_2 t434 x432002_2 x432003_2 x432004_2 t435 x432006_2 x432007_2) = some (r1,r2,r3,r4,r5,r6,r7,r8):=H;have A39:=am A390;clear A390;have H':=am H;clear H
                  try go_wp2
                  replace BK426:=am (bd BK426.out);replace BK427:=am (bd BK427.out);replace BK428:=am (bd BK428.out);replace BK431:=am (bd BK431.out);replace HB:=am (sd HB.out);refine start_ (n:=15) (S:=fun w' => w'.cell? ⟨gb426,0,none⟩ = some (.int .i64 a0_0) ∧ w'.cell? ⟨gb426,1,none⟩ = some (.int .i64 a0_1) ∧ w'.cell? ⟨gb426,2,none⟩ = some (.int .i64 a0_2) ∧ w'.cell? ⟨gb426,3,none⟩ = some (.int .i64 a0_3) ∧ w'.cell? ⟨gb426,4,none⟩ = some (.int .i64 a0_4) ∧ w'.cell? ⟨gb426,5,none⟩ = some (.int .i64 a0_5) ∧ w'.cell? ⟨gb426,6,none⟩ = some (.int .i64 a0_6) ∧ w'.cell? ⟨gb426,7,none⟩ = some (.int .i64 a0_7) ∧ w'.cell? ⟨gb427,0,none⟩ = some (.int .i64 a1_0) ∧ w'.cell? ⟨gb427,1,none⟩ = some (.int .i64 a1_1) ∧ w'.cell? ⟨gb427,2,none⟩ = some (.int .i64 a1_2) ∧ w'.cell? ⟨gb427,3,none⟩ = some (.int .i64 a1_3) ∧ w'.cell? ⟨gb427,4,none⟩ = some (.int .i64 a1_4) ∧ w'.cell? ⟨gb427,5,none⟩ = some (.int .i64 a1_5) ∧ w'.cell? ⟨gb427,6,none⟩ = some (.int .i64 a1_6) ∧ w'.cell? ⟨gb427,7,none⟩ = some (.int .i64 a1_7)) (ds:=[]) #[false,false,false,false,false,false,false,false,false,false,false,false,false,false,false] (by kernel_rfl) rfl rfl ⟨(bc BK426.out 0).trans rfl,(bc BK426.out 1).trans rfl,(bc BK426.out 2).trans rfl,(bc BK426.out 3).trans rfl,(bc BK426.out 4).trans rfl,(bc BK426.out 5).trans rfl,(bc BK426.out 6).trans rfl,(bc BK426.out 7).trans rfl,(bc BK427.out 0).trans rfl,(bc BK427.out 1).trans rfl,(bc BK427.out 2).trans rfl,(bc BK427.out 3).trans rfl,(bc BK427.out 4).trans rfl,(bc BK427.out 5).trans rfl,(bc BK427.out 6).trans rfl,(bc BK427.out 7).trans rfl⟩ (fun hHeld => ?_);refine with_tabW affine_ComposeCx.tab7 affine_ComposeCx.bits7 (fun HT_ HW_ => ?_);generalize wr.drew = w40 at BK426 BK427 BK428 BK431 HB hHeld ⊢;refine pure_ (i:=0) (N:=some 19) (v:=?_) (a':=?_) #[true,false,false,false,false,false,false,false,false,false,false,false,false,false,false] rfl rfl (any_of HT_.out (by kernel_rfl)) (fun _ _ _ h => h) (Or.inl ⟨by rfl,?_⟩) ?_ ?_
                  rotate_left
                  · intro w'
                    go_simp
                    with_reducible rfl
                  rotate_left
                  · simp only [Act.put,q1,q2,q3,i64_w,i32_w]
                    rfl
                  refine pure_ (i:=1) (N:=some 20) (v:=?_) (a':=?_) #[true,true,false,false,false,false,false,false,false,false,false,false,false,false,false] rfl rfl (any_of HT_.out (by kernel_rfl)) (fun _ _ _ h => h) (Or.inl ⟨by rfl,?_⟩) ?_ ?_
                  rotate_left
                  · intro w'
                    go_simp
                    with_reducible rfl
                  rotate_left
                  · simp only [Act.put,q1,q2,q3,i64_w,i32_w]
                    rfl
                  refine pure_ (i:=2) (N:=some 21) (v:=?_) (a':=?_) #[true,true,true,false,false,false,false,false,false,false,false,false,false,false,false] rfl rfl (any_of HT_.out (by kernel_rfl)) (fun _ _ _ h => h) (Or.inl ⟨by rfl,?_⟩) ?_ ?_
                  rotate_left
                  · intro w'
                    go_simp
                    with_reducible rfl
                  rotate_left
                  · simp only [Act.put,q1,q2,q3,i64_w,i32_w]
                    rfl
                  refine pure_ (i:=3) (N:=some 22) (v:=?_) (a':=?_) #[true,true,true,true,false,false,false,false,false,false,false,false,false,false,false] rfl rfl (any_of HT_.out (by kernel_rfl)) (fun _ _ _ h => h) (Or.inl ⟨by rfl,?_⟩) ?_ ?_
                  rotate_left
                  · intro w'
                    go_simp
                    with_reducible rfl
                  rotate_left
                  · simp only [Act.put,q1,q2,q3,i64_w,i32_w]
                    rfl
                  refine pure_ (i:=5) (N:=some 24) (v:=?_) (a':=?_) #[true,true,true,true,false,true,false,false,false,false,false,false,false,false,false] rfl rfl (any_of HT_.out (by kernel_rfl)) (fun _ _ _ h => h) (Or.inl ⟨by rfl,?_⟩) ?_ ?_
                  rotate_left
                  · intro w'
                    go_simp
                    with_reducible rfl
                  rotate_left
                  · simp only [Act.put,q1,q2,q3,i64_w,i32_w]
                    rfl
                  refine pure_ (i:=6) (N:=some 25) (v:=?_) (a':=?_) #[true,true,true,true,false,true,true,false,false,false,false,false,false,false,false] rfl rfl (any_of HT_.out (by kernel_rfl)) (fun _ _ _ h => h) (Or.inl ⟨by rfl,?_⟩) ?_ ?_
                  rotate_left
                  · intro w'
                    go_simp
                    with_reducible rfl
                  rotate_left
                  · simp only [Act.put,q1,q2,q3,i64_w,i32_w]
                    rfl
                  refine pure_ (i:=7) (N:=some 26) (v:=?_) (a':=?_) #[true,true,true,true,false,true,true,true,false,false,false,false,false,false,false] rfl rfl (any_of HT_.out (by kernel_rfl)) (fun _ _ _ h => h) (Or.inl ⟨by rfl,?_⟩) ?_ ?_
                  rotate_left
                  · intro w'
                    go_simp
                    with_reducible rfl
                  rotate_left
                  · simp only [Act.put,q1,q2,q3,i64_w,i32_w]
                    rfl
                  refine pure_ (i:=12) (N:=some 31) (v:=?_) (a':=?_) #[true,true,true,true,false,true,true,true,false,false,false,false,true,false,false] rfl rfl (any_of HT_.out (by kernel_rfl)) (fun _ _ _ h => h) (Or.inl ⟨by rfl,?_⟩) ?_ ?_
                  rotate_left
                  · intro w'
                    go_simp
                    with_reducible rfl
                  rotate_left
                  · simp only [Act.put,q1,q2,q3,i64_w,i32_w]
                    rfl
                  refine take_ (i:=4) (N:=some 23) (v:=?_) (a':=?_) #[true,true,true,true,true,true,true,true,false,false,false,false,true,false,false] rfl rfl (take_ofW HT_.out HW_.out (by kernel_rfl)) (fun _ _ _ h => h) (Or.inl ⟨by rfl,?_⟩) hHeld ?_ ?_
                  rotate_left
                  · rintro w' ⟨s0,s1,s2,s3,s4,s5,s6,s7,s8,s9,s10,s11,s12,s13,s14,s15⟩
                    go_simp
                    with_reducible rfl
                  rotate_left
                  · simp only [Act.put,q1,q2,q3,i64_w,i32_w]
                    rfl
                  refine take_ (i:=8) (N:=some 27) (v:=?_) (a':=?_) #[true,true,true,true,true,true,true,true,true,false,false,false,true,false,false] rfl rfl (take_ofW HT_.out HW_.out (by kernel_rfl)) (fun _ _ _ h => h) (Or.inl ⟨by rfl,?_⟩) hHeld ?_ ?_
                  rotate_left
                  · rintro w' ⟨s0,s1,s2,s3,s4,s5,s6,s7,s8,s9,s10,s11,s12,s13,s14,s15⟩
                    go_simp
                    with_reducible rfl
                  rotate_left
                  · simp only [Act.put,q1,q2,q3,i64_w,i32_w]
                    rfl
                  refine pure_ (i:=9) (N:=some 28) (v:=?_) (a':=?_) #[true,true,true,true,true,true,true,true,true,true,false,false,true,false,false] rfl rfl (any_of HT_.out (by kernel_rfl)) (fun _ _ _ h => h) (Or.inl ⟨by rfl,?_⟩) ?_ ?_
                  rotate_left
                  · intro w'
                    go_simp
                    with_reducible rfl
                  rotate_left
                  · simp only [Act.put,q1,q2,q3,i64_w,i32_w]
                    rfl
                  refine pure_ (i:=10) (N:=some 29) (v:=?_) (a':=?_) #[true,true,true,true,true,true,true,true,true,true,true,false,true,false,false] rfl rfl (any_of HT_.out (by kernel_rfl)) (fun _ _ _ h => h) (Or.inl ⟨by rfl,?_⟩) ?_ ?_
                  rotate_left
                  · intro w'
                    go_simp
                    with_reducible rfl
                  rotate_left
                  · simp only [Act.put,q1,q2,q3,i64_w,i32_w]
                    rfl
                  refine one_ (i:=11) (N:=some 30) #[true,true,true,true,true,true,true,true,true,true,true,true,true,false,false] rfl rfl (one_of HT_.out (by kernel_rfl)) (by decide) (fun K hK => ?_);refine goes_ Try.func43 (by kernel_rfl) rfl #[.int .i64 ((wrap64 (a0_1 * a1_1)) / 256),.int .i64 (-512),.int .i64 512] (by rfl) rfl rfl (by (try simp only [List.map_toArray,List.map_cons,List.map_nil]);first|done|rfl|(simp only [List.length_drop,List.length_take];rfl)) ?_
                  with_reducible refine (affine_clamp.calls ((wrap64 (a0_1 * a1_1)) / 256) (-512) 512 t434 _ A38.out).mono ?_
                  rintro e w41 ⟨rfl,hb⟩
                  refine ⟨_,rfl,?_⟩;replace BK426:=am (bw (by exact BK426.out) hb);replace BK427:=am (bw (by exact BK427.out) hb);replace BK428:=am (bw (by exact BK428.out) hb);replace BK431:=am (bw (by exact BK431.out) hb);replace HB:=am (ss (by repeat (first|(with_reducible first|exact HB.out|apply sa|apply sn|apply sd|refine sy ?_ (by assumption))|exact HB.out)) hb);(try clear hb);(try clear hb2);(try clear hk);(try clear hi);refine hK.out _ _ ⟨(bc BK426.out 0).trans rfl,(bc BK426.out 1).trans rfl,(bc BK426.out 2).trans rfl,(bc BK426.out 3).trans rfl,(bc BK426.out 4).trans rfl,(bc BK426.out 5).trans rfl,(bc BK426.out 6).trans rfl,(bc BK426.out 7).trans rfl,(bc BK427.out 0).trans rfl,(bc BK427.out 1).trans rfl,(bc BK427.out 2).trans rfl,(bc BK427.out 3).trans rfl,(bc BK427.out 4).trans rfl,(bc BK427.out 5).trans rfl,(bc BK427.out 6).trans rfl,(bc BK427.out 7).trans rfl⟩ (fun hHeld => ?_);clear hK K;refine norm_ (a':=?_) ?_ ?_
                  rotate_left
                  · show Act.put _ (some 30) _ = _
                    simp only [Act.put,q1,q2,q3,i64_w,i32_w]
                    rfl
                  refine pure_ (i:=13) (N:=some 32) (v:=?_) (a':=?_) #[true,true,true,true,true,true,true,true,true,true,true,true,true,true,false] rfl rfl (any_of HT_.out (by kernel_rfl)) (fun _ _ _ h => h) (Or.inl ⟨by rfl,?_⟩) ?_ ?_
                  rotate_left
                  · intro w'
                    go_simp
                    with_reducible rfl
                  rotate_left
                  · simp only [Act.put,q1,q2,q3,i64_w,i32_w]
                    rfl
                  refine one_ (i:=14) (N:=none) #[true,true,true,true,true,true,true,true,true,true,true,true,true,true,true] rfl rfl (one_of HT_.out (by kernel_rfl)) (by decide) (fun K hK => ?_);have hs42 : w41.cell? ⟨gb431,1,none⟩ = some (.int .i64 x432001_2):=(bc BK431.out 1).trans rfl;have hfs42:=bz BK431.out 1;have hns42_0:=NB426_431.out;have hns42_1:=NB427_431.out;have hns42_2:=NB428_431.out;have hms42_0:=NB431_426.out;have hms42_1:=NB431_427.out;have hms42_2:=NB431_428.out;refine skip_ (w1:=?_) (by rfl) rfl ?_ ?_
                  rotate_left
                  · go_simp
                    rfl
                  refine hK.out _ _ ⟨((cell_far (p:=⟨gb431,_,none⟩) NB426_431.out _).trans (hHeld.1)),((cell_far (p:=⟨gb431,_,none⟩) NB426_431.out _).trans (hHeld.2.1)),((cell_far (p:=⟨gb431,_,none⟩) NB426_431.out _).trans (hHeld.2.2.1)),((cell_far (p:=⟨gb431,_,none⟩) NB426_431.out _).trans (hHeld.2.2.2.1)),((cell_far (p:=⟨gb431,_,none⟩) NB426_431.out _).trans (hHeld.2.2.2.2.1)),((cell_far (p:=⟨gb431,_,none⟩) NB426_431.out _).trans (hHeld.2.2.2.2.2.1)),((cell_far (p:=⟨gb431,_,none⟩) NB426_431.out _).trans (hHeld.2.2.2.2.2.2.1)),((cell_far (p:=⟨gb431,_,none⟩) NB426_431.out _).trans (hHeld.2.2.2.2.2.2.2.1)),((cell_far (p:=⟨gb431,_,none⟩) NB427_431.out _).trans (hHeld.2.2.2.2.2.2.2.2.1)),((cell_far (p:=⟨gb431,_,none⟩) NB427_431.out _).trans (hHeld.2.2.2.2.2.2.2.2.2.1)),((cell_far (p:=⟨gb431,_,none⟩) NB427_431.out _).trans (hHeld.2.2.2.2.2.2.2.2.2.2.1)),((cell_far (p:=⟨gb431,_,none⟩) NB427_431.out _).trans (hHeld.2.2.2.2.2.2.2.2.2.2.2.1)),((cell_far (p:=⟨gb431,_,none⟩) NB427_431.out _).trans (hHeld.2.2.2.2.2.2.2.2.2.2.2.2.1)),((cell_far (p:=⟨gb431,_,none⟩) NB427_431.out _).trans (hHeld.2.2.2.2.2.2.2.2.2.2.2.2.2.1)),((cell_far (p:=⟨gb431,_,none⟩) NB427_431.out _).trans (hHeld.2.2.2.2.2.2.2.2.2.2.2.2.2.2.1)),((cell_far (p:=⟨gb431,_,none⟩) NB427_431.out _).trans (hHeld.2.2.2.2.2.2.2.2.2.2.2.2.2.2.2))⟩ (fun hHeld => ?_);clear hK K;refine done_ (done_of HT_.out (by kernel_rfl)) ?_
                  try go_wp2
                  have n0_ : Aside0 ((w41.setCell ⟨gb431,1,none⟩ (.int .i64 t434)).heap[gb426]? = some (.cells #[.int .i64 a0_0,.int .i64 a0_1,.int .i64 a0_2,.int .i64 a0_3,.int .i64 a0_4,.int .i64 a0_5,.int .i64 a0_6,.int .i64 a0_7] 41 (0,0))):=⟨by (with_reducible repeat (first|refine bn ?_ _|refine bd ?_|refine ba ?_ _|refine bf ?_ NB426_431.out _));exact BK426.out⟩;have n1_ : Aside0 ((w41.setCell ⟨gb431,1,none⟩ (.int .i64 t434)).heap[gb427]? = some (.cells #[.int .i64 a1_0,.int .i64 a1_1,.int .i64 a1_2,.int .i64 a1_3,.int .i64 a1_4,.int .i64 a1_5,.int .i64 a1_6,.int .i64 a1_7] 41 (0,0))):=⟨by (with_reducible repeat (first|refine bn ?_ _|refine bd ?_|refine ba ?_ _|refine bf ?_ NB427_431.out _));exact BK427.out⟩;have n2_ : Aside0 ((w41.setCell ⟨gb431,1,none⟩ (.int .i64 t434)).heap[gb428]? = some (.cells #[.int .i64 0,.int .i64 0,.int .i64 0,.int .i64 0,.int .i64 0,.int .i64 0,.int .i64 0,.int .i64 0] 41 (0,0))):=⟨by (with_reducible repeat (first|refine bn ?_ _|refine bd ?_|refine ba ?_ _|refine bf ?_ NB428_431.out _));exact BK428.out⟩;have n3_ : Aside0 ((w41.setCell ⟨gb431,1,none⟩ (.int .i64 t434)).heap[gb431]? = some (.cells #[.int .i64 x432000_2,.int .i64 t434,.int .i64 x432002_2,.int .i64 x432003_2,.int .i64 x432004_2,.int .i64 x432005_2,.int .i64 x432006_2,.int .i64 x432007_2] 41 (0,0))):=⟨by (with_reducible repeat (first|refine bn ?_ _|refine bd ?_|refine ba ?_ _));refine bp (cs:=#[.int .i64 x432000_2,.int .i64 x432001_2,.int .i64 x432002_2,.int .i64 x432003_2,.int .i64 x432004_2,.int .i64 x432005_2,.int .i64 x432006_2,.int .i64 x432007_2]) ?_ 1 _ rfl;(with_reducible repeat (first|refine bn ?_ _|refine bd ?_|refine ba ?_ _));exact BK431.out⟩;have n4_ : Aside0 (Below w.heap.size w (w41.setCell ⟨gb431,1,none⟩ (.int .i64 t434))):=⟨by repeat (first|(with_reducible first|exact HB.out|apply sa|apply sn|apply sd|refine sy ?_ (by assumption))|exact HB.out)⟩;(try clear BK426);(try clear BK427);(try clear BK428);(try clear BK431);(try clear HB);generalize (w41.setCell ⟨gb431,1,none⟩ (.int .i64 t434)) = w43 at n0_ n1_ n2_ n3_ n4_ ⊢;have BK426:=n0_;have BK427:=n1_;have BK428:=n2_;have BK431:=n3_;have HB:=n4_;clear n0_ n1_ n2_ n3_ n4_;replace BK426:=am (bd BK426.out);replace BK427:=am (bd BK427.out);replace BK428:=am (bd BK428.out);replace BK431:=am (bd BK431.out);replace HB:=am (sd HB.out);refine start_ (n:=20) (S:=fun w' => w'.cell? ⟨gb427,0,none⟩ = some (.int .i64 a1_0) ∧ w'.cell? ⟨gb427,1,none⟩ = some (.int .i64 a1_1) ∧ w'.cell? ⟨gb427,2,none⟩ = some (.int .i64 a1_2) ∧ w'.cell? ⟨gb427,3,none⟩ = some (.int .i64 a1_3) ∧ w'.cell? ⟨gb427,4,none⟩ = some (.int .i64 a1_4) ∧ w'.cell? ⟨gb427,5,none⟩ = some (.int .i64 a1_5) ∧ w'.cell? ⟨gb427,6,none⟩ = some (.int .i64 a1_6) ∧ w'.cell? ⟨gb427,7,none⟩ = some (.int .i64 a1_7) ∧ w'.cell? ⟨gb426,0,none⟩ = some (.int .i64 a0_0) ∧ w'.cell? ⟨gb426,1,none⟩ = some (.int .i64 a0_1) ∧ w'.cell? ⟨gb426,2,none⟩ = some (.int .i64 a0_2) ∧ w'.cell? ⟨gb426,3,none⟩ = some (.int .i64 a0_3) ∧ w'.cell? ⟨gb426,4,none⟩ = some (.int .i64 a0_4) ∧ w'.cell? ⟨gb426,5,none⟩ = some (.int .i64 a0_5) ∧ w'.cell? ⟨gb426,6,none⟩ = some (.int .i64 a0_6) ∧ w'.cell? ⟨gb426,7,none⟩ = some (.int .i64 a0_7)) (ds:=[]) #[false,false,false,false,false,false,false,false,false,false,false,false,false,false,false,false,false,false,false,false] (by kernel_rfl) rfl rfl ⟨(bc BK427.out 0).trans rfl,(bc BK427.out 1).trans rfl,(bc BK427.out 2).trans rfl,(bc BK427.out 3).trans rfl,(bc BK427.out 4).trans rfl,(bc BK427.out 5).trans rfl,(bc BK427.out 6).trans rfl,(bc BK427.out 7).trans rfl,(bc BK426.out 0).trans rfl,(bc BK426.out 1).trans rfl,(bc BK426.out 2).trans rfl,(bc BK426.out 3).trans rfl,(bc BK426.out 4).trans rfl,(bc BK426.out 5).trans rfl,(bc BK426.out 6).trans rfl,(bc BK426.out 7).trans rfl⟩ (fun hHeld => ?_);refine with_tabW affine_ComposeCx.tab8 affine_ComposeCx.bits8 (fun HT_ HW_ => ?_);generalize w43.drew = w44 at BK426 BK427 BK428 BK431 HB hHeld ⊢;refine pure_ (i:=0) (N:=some 33) (v:=?_) (a':=?_) #[true,false,false,false,false,false,false,false,false,false,false,false,false,false,false,false,false,false,false,false] rfl rfl (any_of HT_.out (by kernel_rfl)) (fun _ _ _ h => h) (Or.inl ⟨by rfl,?_⟩) ?_ ?_
                  rotate_left
                  · intro w'
                    go_simp
                    with_reducible rfl
                  rotate_left
                  · simp only [Act.put,q1,q2,q3,i64_w,i32_w]
                    rfl
                  refine pure_ (i:=1) (N:=some 34) (v:=?_) (a':=?_) #[true,true,false,false,false,false,false,false,false,false,false,false,false,false,false,false,false,false,false,false] rfl rfl (any_of HT_.out (by kernel_rfl)) (fun _ _ _ h => h) (Or.inl ⟨by rfl,?_⟩) ?_ ?_
                  rotate_left
                  · intro w'
                    go_simp
                    with_reducible rfl
                  rotate_left
                  · simp only [Act.put,q1,q2,q3,i64_w,i32_w]
                    rfl
                  refine pure_ (i:=2) (N:=some 35) (v:=?_) (a':=?_) #[true,true,true,false,false,false,false,false,false,false,false,false,false,false,false,false,false,false,false,false] rfl rfl (any_of HT_.out (by kernel_rfl)) (fun _ _ _ h => h) (Or.inl ⟨by rfl,?_⟩) ?_ ?_
                  rotate_left
                  · intro w'
                    go_simp
                    with_reducible rfl
                  rotate_left
                  · simp only [Act.put,q1,q2,q3,i64_w,i32_w]
                    rfl
                  refine pure_ (i:=3) (N:=some 36) (v:=?_) (a':=?_) #[true,true,true,true,false,false,false,false,false,false,false,false,false,false,false,false,false,false,false,false] rfl rfl (any_of HT_.out (by kernel_rfl)) (fun _ _ _ h => h) (Or.inl ⟨by rfl,?_⟩) ?_ ?_
                  rotate_left
                  · intro w'
                    go_simp
                    with_reducible rfl
                  rotate_left
                  · simp only [Act.put,q1,q2,q3,i64_w,i32_w]
                    rfl
                  refine pure_ (i:=5) (N:=some 38) (v:=?_) (a':=?_) #[true,true,true,true,false,true,false,false,false,false,false,false,false,false,false,false,false,false,false,false] rfl rfl (any_of HT_.out (by kernel_rfl)) (fun _ _ _ h => h) (Or.inl ⟨by rfl,?_⟩) ?_ ?_
                  rotate_left
                  · intro w'
                    go_simp
                    with_reducible rfl
                  rotate_left
                  · simp only [Act.put,q1,q2,q3,i64_w,i32_w]
                    rfl
                  refine pure_ (i:=6) (N:=some 39) (v:=?_) (a':=?_) #[true,true,true,true,false,true,true,false,false,false,false,false,false,false,false,false,false,false,false,false] rfl rfl (any_of HT_.out (by kernel_rfl)) (fun _ _ _ h => h) (Or.inl ⟨by rfl,?_⟩) ?_ ?_
                  rotate_left
                  · intro w'
                    go_simp
                    with_reducible rfl
                  rotate_left
                  · simp only [Act.put,q1,q2,q3,i64_w,i32_w]
                    rfl
                  refine pure_ (i:=7) (N:=some 40) (v:=?_) (a':=?_) #[true,true,true,true,false,true,true,true,false,false,false,false,false,false,false,false,false,false,false,false] rfl rfl (any_of HT_.out (by kernel_rfl)) (fun _ _ _ h => h) (Or.inl ⟨by rfl,?_⟩) ?_ ?_
                  rotate_left
                  · intro w'
                    go_simp
                    with_reducible rfl
                  rotate_left
                  · simp only [Act.put,q1,q2,q3,i64_w,i32_w]
                    rfl
                  refine pure_ (i:=11) (N:=some 44) (v:=?_) (a':=?_) #[true,true,true,true,false,true,true,true,false,false,false,true,false,false,false,false,false,false,false,false] rfl rfl (any_of HT_.out (by kernel_rfl)) (fun _ _ _ h => h) (Or.inl ⟨by rfl,?_⟩) ?_ ?_
                  rotate_left
                  · intro w'
                    go_simp
                    with_reducible rfl
                  rotate_left
                  · simp only [Act.put,q1,q2,q3,i64_w,i32_w]
                    rfl
                  refine pure_ (i:=12) (N:=some 45) (v:=?_) (a':=?_) #[true,true,true,true,false,true,true,true,false,false,false,true,true,false,false,false,false,false,false,false] rfl rfl (any_of HT_.out (by kernel_rfl)) (fun _ _ _ h => h) (Or.inl ⟨by rfl,?_⟩) ?_ ?_
                  rotate_left
                  · intro w'
                    go_simp
                    with_reducible rfl
                  rotate_left
                  · simp only [Act.put,q1,q2,q3,i64_w,i32_w]
                    rfl
                  refine pure_ (i:=13) (N:=some 46) (v:=?_) (a':=?_) #[true,true,true,true,false,true,true,true,false,false,false,true,true,true,false,false,false,false,false,false] rfl rfl (any_of HT_.out (by kernel_rfl)) (fun _ _ _ h => h) (Or.inl ⟨by rfl,?_⟩) ?_ ?_
                  rotate_left
                  · intro w'
                    go_simp
                    with_reducible rfl
                  rotate_left
                  · simp only [Act.put,q1,q2,q3,i64_w,i32_w]
                    rfl
                  refine pure_ (i:=17) (N:=some 50) (v:=?_) (a':=?_) #[true,true,true,true,false,true,true,true,false,false,false,true,true,true,false,false,false,true,false,false] rfl rfl (any_of HT_.out (by kernel_rfl)) (fun _ _ _ h => h) (Or.inl ⟨by rfl,?_⟩) ?_ ?_
                  rotate_left
                  · intro w'
                    go_simp
                    with_reducible rfl
                  rotate_left
                  · simp only [Act.put,q1,q2,q3,i64_w,i32_w]
                    rfl
                  refine take_ (i:=4) (N:=some 37) (v:=?_) (a':=?_) #[true,true,true,true,true,true,true,true,false,false,false,true,true,true,false,false,false,true,false,false] rfl rfl (take_ofW HT_.out HW_.out (by kernel_rfl)) (fun _ _ _ h => h) (Or.inl ⟨by rfl,?_⟩) hHeld ?_ ?_
                  rotate_left
                  · rintro w' ⟨s0,s1,s2,s3,s4,s5,s6,s7,s8,s9,s10,s11,s12,s13,s14,s15⟩
                    go_simp
                    with_reducible rfl
                  rotate_left
                  · simp only [Act.put,q1,q2,q3,i64_w,i32_w]
                    rfl
                  refine take_ (i:=8) (N:=some 41) (v:=?_) (a':=?_) #[true,true,true,true,true,true,true,true,true,false,false,true,true,true,false,false,false,true,false,false] rfl rfl (take_ofW HT_.out HW_.out (by kernel_rfl)) (fun _ _ _ h => h) (Or.inl ⟨by rfl,?_⟩) hHeld ?_ ?_
                  rotate_left
                  · rintro w' ⟨s0,s1,s2,s3,s4,s5,s6,s7,s8,s9,s10,s11,s12,s13,s14,s15⟩
                    go_simp
                    with_reducible rfl
                  rotate_left
                  · simp only [Act.put,q1,q2,q3,i64_w,i32_w]
                    rfl
                  refine pure_ (i:=9) (N:=some 42) (v:=?_) (a':=?_) #[true,true,true,true,true,true,true,true,true,true,false,true,true,true,false,false,false,true,false,false] rfl rfl (any_of HT_.out (by kernel_rfl)) (fun _ _ _ h => h) (Or.inl ⟨by rfl,?_⟩) ?_ ?_
                  rotate_left
                  · intro w'
                    go_simp
                    with_reducible rfl
                  rotate_left
                  · simp only [Act.put,q1,q2,q3,i64_w,i32_w]
                    rfl
                  refine pure_ (i:=10) (N:=some 43) (v:=?_) (a':=?_) #[true,true,true,true,true,true,true,true,true,true,true,true,true,true,false,false,false,true,false,false] rfl rfl (any_of HT_.out (by kernel_rfl)) (fun _ _ _ h => h) (Or.inl ⟨by rfl,?_⟩) ?_ ?_
                  rotate_left
                  · intro w'
                    go_simp
                    with_reducible rfl
                  rotate_left
                  · simp only [Act.put,q1,q2,q3,i64_w,i32_w]
                    rfl
                  refine take_ (i:=14) (N:=some 47) (v:=?_) (a':=?_) #[true,true,true,true,true,true,true,true,true,true,true,true,true,true,true,false,false,true,false,false] rfl rfl (take_ofW HT_.out HW_.out (by kernel_rfl)) (fun _ _ _ h => h) (Or.inl ⟨by rfl,?_⟩) hHeld ?_ ?_
                  rotate_left
                  · rintro w' ⟨s0,s1,s2,s3,s4,s5,s6,s7,s8,s9,s10,s11,s12,s13,s14,s15⟩
                    go_simp
                    with_reducible rfl
                  rotate_left
                  · simp only [Act.put,q1,q2,q3,i64_w,i32_w]
                    rfl
                  refine pure_ (i:=15) (N:=some 48) (v:=?_) (a':=?_) #[true,true,true,true,true,true,true,true,true,true,true,true,true,true,true,true,false,true,false,false] rfl rfl (any_of HT_.out (by kernel_rfl)) (fun _ _ _ h => h) (Or.inl ⟨by rfl,?_⟩) ?_ ?_
                  rotate_left
                  · intro w'
                    go_simp
                    with_reducible rfl
                  rotate_left
                  · simp only [Act.put,q1,q2,q3,i64_w,i32_w]
                    rfl
                  refine one_ (i:=16) (N:=some 49) #[true,true,true,true,true,true,true,true,true,true,true,true,true,true,true,true,true,true,false,false] rfl rfl (one_of HT_.out (by kernel_rfl)) (by decide) (fun K hK => ?_);refine goes_ Try.func43 (by kernel_rfl) rfl #[.int .i64 (wrap64 (((wrap64 (a1_5 * a0_1)) / 256) + a0_5)),.int .i64 (-255),.int .i64 255] (by rfl) rfl rfl (by (try simp only [List.map_toArray,List.map_cons,List.map_nil]);first|done|rfl|(simp only [List.length_drop,List.length_take];rfl)) ?_
                  with_reducible refine (affine_clamp.calls (wrap64 (((wrap64 (a1_5 * a0_1)) / 256) + a0_5)) (-255) 255 t435 _ A39.out).mono ?_
                  rintro e w45 ⟨rfl,hb⟩
                  refine ⟨_,rfl,?_⟩;replace BK426:=am (bw (by exact BK426.out) hb);replace BK427:=am (bw (by exact BK427.out) hb);replace BK428:=am (bw (by exact BK428.out) hb);replace BK431:=am (bw (by exact BK431.out) hb);replace HB:=am (ss (by repeat (first|(with_reducible first|exact HB.out|apply sa|apply sn|apply sd|refine sy ?_ (by assumption))|exact HB.out)) hb);(try clear hb);(try clear hb2);(try clear hk);(try clear hi);refine hK.out _ _ ⟨(bc BK427.out 0).trans rfl,(bc BK427.out 1).trans rfl,(bc BK427.out 2).trans rfl,(bc BK427.out 3).trans rfl,(bc BK427.out 4).trans rfl,(bc BK427.out 5).trans rfl,(bc BK427.out 6).trans rfl,(bc BK427.out 7).trans rfl,(bc BK426.out 0).trans rfl,(bc BK426.out 1).trans rfl,(bc BK426.out 2).trans rfl,(bc BK426.out 3).trans rfl,(bc BK426.out 4).trans rfl,(bc BK426.out 5).trans rfl,(bc BK426.out 6).trans rfl,(bc BK426.out 7).trans rfl⟩ (fun hHeld => ?_);clear hK K;refine norm_ (a':=?_) ?_ ?_
                  rotate_left
                  · show Act.put _ (some 49) _ = _
                    simp only [Act.put,q1,q2,q3,i64_w,i32_w]
                    rfl
                  refine pure_ (i:=18) (N:=some 51) (v:=?_) (a':=?_) #[true,true,true,true,true,true,true,true,true,true,true,true,true,true,true,true,true,true,true,false] rfl rfl (any_of HT_.out (by kernel_rfl)) (fun _ _ _ h => h) (Or.inl ⟨by rfl,?_⟩) ?_ ?_
                  rotate_left
                  · intro w'
                    go_simp
                    with_reducible rfl
                  rotate_left
                  · simp only [Act.put,q1,q2,q3,i64_w,i32_w]
                    rfl
                  refine one_ (i:=19) (N:=none) #[true,true,true,true,true,true,true,true,true,true,true,true,true,true,true,true,true,true,true,true] rfl rfl (one_of HT_.out (by kernel_rfl)) (by decide) (fun K hK => ?_);have hs46 : w45.cell? ⟨gb431,5,none⟩ = some (.int .i64 x432005_2):=(bc BK431.out 5).trans rfl;have hfs46:=bz BK431.out 5;have hns46_0:=NB426_431.out;have hns46_1:=NB427_431.out;have hns46_2:=NB428_431.out;have hms46_0:=NB431_426.out;have hms46_1:=NB431_427.out;have hms46_2:=NB431_428.out;refine skip_ (w1:=?_) (by rfl) rfl ?_ ?_
                  rotate_left
                  · go_simp
                    rfl
                  refine hK.out _ _ ⟨((cell_far (p:=⟨gb431,_,none⟩) NB427_431.out _).trans (hHeld.1)),((cell_far (p:=⟨gb431,_,none⟩) NB427_431.out _).trans (hHeld.2.1)),((cell_far (p:=⟨gb431,_,none⟩) NB427_431.out _).trans (hHeld.2.2.1)),((cell_far (p:=⟨gb431,_,none⟩) NB427_431.out _).trans (hHeld.2.2.2.1)),((cell_far (p:=⟨gb431,_,none⟩) NB427_431.out _).trans (hHeld.2.2.2.2.1)),((cell_far (p:=⟨gb431,_,none⟩) NB427_431.out _).trans (hHeld.2.2.2.2.2.1)),((cell_far (p:=⟨gb431,_,none⟩) NB427_431.out _).trans (hHeld.2.2.2.2.2.2.1)),((cell_far (p:=⟨gb431,_,none⟩) NB427_431.out _).trans (hHeld.2.2.2.2.2.2.2.1)),((cell_far (p:=⟨gb431,_,none⟩) NB426_431.out _).trans (hHeld.2.2.2.2.2.2.2.2.1)),((cell_far (p:=⟨gb431,_,none⟩) NB426_431.out _).trans (hHeld.2.2.2.2.2.2.2.2.2.1)),((cell_far (p:=⟨gb431,_,none⟩) NB426_431.out _).trans (hHeld.2.2.2.2.2.2.2.2.2.2.1)),((cell_far (p:=⟨gb431,_,none⟩) NB426_431.out _).trans (hHeld.2.2.2.2.2.2.2.2.2.2.2.1)),((cell_far (p:=⟨gb431,_,none⟩) NB426_431.out _).trans (hHeld.2.2.2.2.2.2.2.2.2.2.2.2.1)),((cell_far (p:=⟨gb431,_,none⟩) NB426_431.out _).trans (hHeld.2.2.2.2.2.2.2.2.2.2.2.2.2.1)),((cell_far (p:=⟨gb431,_,none⟩) NB426_431.out _).trans (hHeld.2.2.2.2.2.2.2.2.2.2.2.2.2.2.1)),((cell_far (p:=⟨gb431,_,none⟩) NB426_431.out _).trans (hHeld.2.2.2.2.2.2.2.2.2.2.2.2.2.2.2))⟩ (fun hHeld => ?_);clear hK K;refine done_ (done_of HT_.out (by kernel_rfl)) ?_
                  try go_wp2
                  go_roundg k2
                  case measure => have:=HJ2.out;have:=HK2.out;omega
                  case rel => exact ⟨(1 + 1),(x432000_2),(t434),(x432002_2),(x432003_2),(x432004_2),(t435),(x432006_2),(x432007_2),(by first|rfl|(simp;done)|(simp [*];done)),H',⟨by have:=HJ2.out;have:=HK2.out;omega⟩,⟨by (with_reducible repeat (first|refine bn ?_ _|refine bd ?_|refine ba ?_ _|refine bf ?_ NB426_431.out _));exact BK426.out⟩,⟨by (with_reducible repeat (first|refine bn ?_ _|refine bd ?_|refine ba ?_ _|refine bf ?_ NB427_431.out _));exact BK427.out⟩,⟨by (with_reducible repeat (first|refine bn ?_ _|refine bd ?_|refine ba ?_ _|refine bf ?_ NB428_431.out _));exact BK428.out⟩,⟨by (with_reducible repeat (first|refine bn ?_ _|refine bd ?_|refine ba ?_ _));refine bp (cs:=#[.int .i64 x432000_2,.int .i64 t434,.int .i64 x432002_2,.int .i64 x432003_2,.int .i64 x432004_2,.int .i64 x432005_2,.int .i64 x432006_2,.int .i64 x432007_2]) ?_ 5 _ rfl;(with_reducible repeat (first|refine bn ?_ _|refine bd ?_|refine ba ?_ _));exact BK431.out⟩,⟨by repeat (first|(with_reducible first|exact HB.out|apply sa|apply sn|apply sd|refine sy ?_ (by assumption))|exact HB.out)⟩⟩
                · rw [if_neg c37] at H
                  by_cases c47 : x16_2 = 2
                  · subst c47
                    have H1 : ((affine_clamp.f ((wrap64 (a0_2 * a1_2)) / 256) (-512) 512).bind fun t436 => ((affine_clamp.f (wrap64 (((wrap64 (a1_6 * a0_2)) / 256) + a0_6)) (-255) 255).bind fun t437 => (affine_ComposeCx.l0 k2 (2 + 1) a0_0 a0_1 a0_2 a0_3 a0_4 a0_5 a0_6 a0_7 a1_0 a1_1 a1_2 a1_3 a1_4 a1_5 a1_6 a1_7 x432000_2 x432001_2 t436 x432003_2 x432004_2 x432005_2 t437 x432007_2))) = some (r1,r2,r3,r4,r5,r6,r7,r8):=by rw [if_pos rfl] at H;exact H
                    clear H;have H:=H1;clear H1;replace H:=Option.bind_eq_some_iff.mp H;obtain ⟨t436,A480,H⟩:=H;replace H : ((affine_clamp.f (wrap64 (((wrap64 (a1_6 * a0_2)) / 256) + a0_6)) (-255) 255).bind fun t437 => (affine_ComposeCx.l0 k2 (2 + 1) a0_0 a0_1 a0_2 a0_3 a0_4 a0_5 a0_6 a0_7 a1_0 a1_1 a1_2 a1_3 a1_4 a1_5 a1_6 a1_7 x432000_2 x432001_2 t436 x432003_2 x432004_2 x432005_2 t437 x432007_2)) = some (r1,r2,r3,r4,r5,r6,r7,r8):=H;have A48:=am A480;clear A480;replace H:=Option.bind_eq_some_iff.mp H;obtain ⟨t437,A490,H⟩:=H;replace H : (affine_ComposeCx.l0 k2 (2 + 1) a0_0 a0_1 a0_2 a0_3 a0_4 a0_5 a0_6 a0_7 a1_0 a1_1 a1_2 a1_3 a1_4 a1_5 a1_6 a1_7 x432000_2 x432001_2 t436 x432003_2 x432004_2 x432005_2 t437 x432007_2) = some (r1,r2,r3,r4,r5,r6,r7,r8):=H;have A49:=am A490;clear A490;have H':=am H;clear H
                    try go_wp2
                    replace BK426:=am (bd BK426.out);replace BK427:=am (bd BK427.out);replace BK428:=am (bd BK428.out);replace BK431:=am (bd BK431.out);replace HB:=am (sd HB.out);refine start_ (n:=15) (S:=fun w' => w'.cell? ⟨gb426,0,none⟩ = some (.int .i64 a0_0) ∧ w'.cell? ⟨gb426,1,none⟩ = some (.int .i64 a0_1) ∧ w'.cell? ⟨gb426,2,none⟩ = some (.int .i64 a0_2) ∧ w'.cell? ⟨gb426,3,none⟩ = some (.int .i64 a0_3) ∧ w'.cell? ⟨gb426,4,none⟩ = some (.int .i64 a0_4) ∧ w'.cell? ⟨gb426,5,none⟩ = some (.int .i64 a0_5) ∧ w'.cell? ⟨gb426,6,none⟩ = some (.int .i64 a0_6) ∧ w'.cell? ⟨gb426,7,none⟩ = some (.int .i64 a0_7) ∧ w'.cell? ⟨gb427,0,none⟩ = some (.int .i64 a1_0) ∧ w'.cell? ⟨gb427,1,none⟩ = some (.int .i64 a1_1) ∧ w'.cell? ⟨gb427,2,none⟩ = some (.int .i64 a1_2) ∧ w'.cell? ⟨gb427,3,none⟩ = some (.int .i64 a1_3) ∧ w'.cell? ⟨gb427,4,none⟩ = some (.int .i64 a1_4) ∧ w'.cell? ⟨gb427,5,none⟩ = some (.int .i64 a1_5) ∧ w'.cell? ⟨gb427,6,none⟩ = some (.int .i64 a1_6) ∧ w'.cell? ⟨gb427,7,none⟩ = some (.int .i64 a1_7)) (ds:=[]) #[false,false,false,false,false,false,false,false,false,false,false,false,false,false,false] (by kernel_rfl) rfl rfl ⟨(bc BK426.out 0).trans rfl,(bc BK426.out 1).trans rfl,(bc BK426.out 2).trans rfl,(bc BK426.out 3).trans rfl,(bc BK426.out 4).trans rfl,(bc BK426.out 5).trans rfl,(bc BK426.out 6).trans rfl,(bc BK426.out 7).trans rfl,(bc BK427.out 0).trans rfl,(bc BK427.out 1).trans rfl,(bc BK427.out 2).trans rfl,(bc BK427.out 3).trans rfl,(bc BK427.out 4).trans rfl,(bc BK427.out 5).trans rfl,(bc BK427.out 6).trans rfl,(bc BK427.out 7).trans rfl⟩ (fun hHeld => ?_);refine with_tabW affine_ComposeCx.tab7 affine_ComposeCx.bits7 (fun HT_ HW_ => ?_);generalize wr.drew = w50 at BK426 BK427 BK428 BK431 HB hHeld ⊢;refine pure_ (i:=0) (N:=some 19) (v:=?_) (a':=?_) #[true,false,false,false,false,false,false,false,false,false,false,false,false,false,false] rfl rfl (any_of HT_.out (by kernel_rfl)) (fun _ _ _ h => h) (Or.inl ⟨by rfl,?_⟩) ?_ ?_
                    rotate_left
                    · intro w'
                      go_simp
                      with_reducible rfl
                    rotate_left
                    · simp only [Act.put,q1,q2,q3,i64_w,i32_w]
                      rfl
                    refine pure_ (i:=1) (N:=some 20) (v:=?_) (a':=?_) #[true,true,false,false,false,false,false,false,false,false,false,false,false,false,false] rfl rfl (any_of HT_.out (by kernel_rfl)) (fun _ _ _ h => h) (Or.inl ⟨by rfl,?_⟩) ?_ ?_
                    rotate_left
                    · intro w'
                      go_simp
                      with_reducible rfl
                    rotate_left
                    · simp only [Act.put,q1,q2,q3,i64_w,i32_w]
                      rfl
                    refine pure_ (i:=2) (N:=some 21) (v:=?_) (a':=?_) #[true,true,true,false,false,false,false,false,false,false,false,false,false,false,false] rfl rfl (any_of HT_.out (by kernel_rfl)) (fun _ _ _ h => h) (Or.inl ⟨by rfl,?_⟩) ?_ ?_
                    rotate_left
                    · intro w'
                      go_simp
                      with_reducible rfl
                    rotate_left
                    · simp only [Act.put,q1,q2,q3,i64_w,i32_w]
                      rfl
                    refine pure_ (i:=3) (N:=some 22) (v:=?_) (a':=?_) #[true,true,true,true,false,false,false,false,false,false,false,false,false,false,false] rfl rfl (any_of HT_.out (by kernel_rfl)) (fun _ _ _ h => h) (Or.inl ⟨by rfl,?_⟩) ?_ ?_
                    rotate_left
                    · intro w'
                      go_simp
                      with_reducible rfl
                    rotate_left
                    · simp only [Act.put,q1,q2,q3,i64_w,i32_w]
                      rfl
                    refine pure_ (i:=5) (N:=some 24) (v:=?_) (a':=?_) #[true,true,true,true,false,true,false,false,false,false,false,false,false,false,false] rfl rfl (any_of HT_.out (by kernel_rfl)) (fun _ _ _ h => h) (Or.inl ⟨by rfl,?_⟩) ?_ ?_
                    rotate_left
                    · intro w'
                      go_simp
                      with_reducible rfl
                    rotate_left
                    · simp only [Act.put,q1,q2,q3,i64_w,i32_w]
                      rfl
                    refine pure_ (i:=6) (N:=some 25) (v:=?_) (a':=?_) #[true,true,true,true,false,true,true,false,false,false,false,false,false,false,false] rfl rfl (any_of HT_.out (by kernel_rfl)) (fun _ _ _ h => h) (Or.inl ⟨by rfl,?_⟩) ?_ ?_
                    rotate_left
                    · intro w'
                      go_simp
                      with_reducible rfl
                    rotate_left
                    · simp only [Act.put,q1,q2,q3,i64_w,i32_w]
                      rfl
                    refine pure_ (i:=7) (N:=some 26) (v:=?_) (a':=?_) #[true,true,true,true,false,true,true,true,false,false,false,false,false,false,false] rfl rfl (any_of HT_.out (by kernel_rfl)) (fun _ _ _ h => h) (Or.inl ⟨by rfl,?_⟩) ?_ ?_
                    rotate_left
                    · intro w'
                      go_simp
                      with_reducible rfl
                    rotate_left
                    · simp only [Act.put,q1,q2,q3,i64_w,i32_w]
                      rfl
                    refine pure_ (i:=12) (N:=some 31) (v:=?_) (a':=?_) #[true,true,true,true,false,true,true,true,false,false,false,false,true,false,false] rfl rfl (any_of HT_.out (by kernel_rfl)) (fun _ _ _ h => h) (Or.inl ⟨by rfl,?_⟩) ?_ ?_
                    rotate_left
                    · intro w'
                      go_simp
                      with_reducible rfl
                    rotate_left
                    · simp only [Act.put,q1,q2,q3,i64_w,i32_w]
                      rfl
                    refine take_ (i:=4) (N:=some 23) (v:=?_) (a':=?_) #[true,true,true,true,true,true,true,true,false,false,false,false,true,false,false] rfl rfl (take_ofW HT_.out HW_.out (by kernel_rfl)) (fun _ _ _ h => h) (Or.inl ⟨by rfl,?_⟩) hHeld ?_ ?_
                    rotate_left
                    · rintro w' ⟨s0,s1,s2,s3,s4,s5,s6,s7,s8,s9,s10,s11,s12,s13,s14,s15⟩
                      go_simp
                      with_reducible rfl
                    rotate_left
                    · simp only [Act.put,q1,q2,q3,i64_w,i32_w]
                      rfl
                    refine take_ (i:=8) (N:=some 27) (v:=?_) (a':=?_) #[true,true,true,true,true,true,true,true,true,false,false,false,true,false,false] rfl rfl (take_ofW HT_.out HW_.out (by kernel_rfl)) (fun _ _ _ h => h) (Or.inl ⟨by rfl,?_⟩) hHeld ?_ ?_
                    rotate_left
                    · rintro w' ⟨s0,s1,s2,s3,s4,s5,s6,s7,s8,s9,s10,s11,s12,s13,s14,s15⟩
                      go_simp
                      with_reducible rfl
                    rotate_left
                    · simp only [Act.put,q1,q2,q3,i64_w,i32_w]
                      rfl
                    refine pure_ (i:=9) (N:=some 28) (v:=?_) (a':=?_) #[true,true,true,true,true,true,true,true,true,true,false,false,true,false,false] rfl rfl (any_of HT_.out (by kernel_rfl)) (fun _ _ _ h => h) (Or.inl ⟨by rfl,?_⟩) ?_ ?_
                    rotate_left
                    · intro w'
                      go_simp
                      with_reducible rfl
                    rotate_left
                    · simp only [Act.put,q1,q2,q3,i64_w,i32_w]
                      rfl
                    refine pure_ (i:=10) (N:=some 29) (v:=?_) (a':=?_) #[true,true,true,true,true,true,true,true,true,true,true,false,true,false,false] rfl rfl (any_of HT_.out (by kernel_rfl)) (fun _ _ _ h => h) (Or.inl ⟨by rfl,?_⟩) ?_ ?_
                    rotate_left
                    · intro w'
                      go_simp
                      with_reducible rfl
                    rotate_left
                    · simp only [Act.put,q1,q2,q3,i64_w,i32_w]
                      rfl
                    refine one_ (i:=11) (N:=some 30) #[true,true,true,true,true,true,true,true,true,true,true,true,true,false,false] rfl rfl (one_of HT_.out (by kernel_rfl)) (by decide) (fun K hK => ?_);refine goes_ Try.func43 (by kernel_rfl) rfl #[.int .i64 ((wrap64 (a0_2 * a1_2)) / 256),.int .i64 (-512),.int .i64 512] (by rfl) rfl rfl (by (try simp only [List.map_toArray,List.map_cons,List.map_nil]);first|done|rfl|(simp only [List.length_drop,List.length_take];rfl)) ?_
                    with_reducible refine (affine_clamp.calls ((wrap64 (a0_2 * a1_2)) / 256) (-512) 512 t436 _ A48.out).mono ?_
                    rintro e w51 ⟨rfl,hb⟩
                    refine ⟨_,rfl,?_⟩;replace BK426:=am (bw (by exact BK426.out) hb);replace BK427:=am (bw (by exact BK427.out) hb);replace BK428:=am (bw (by exact BK428.out) hb);replace BK431:=am (bw (by exact BK431.out) hb);replace HB:=am (ss (by repeat (first|(with_reducible first|exact HB.out|apply sa|apply sn|apply sd|refine sy ?_ (by assumption))|exact HB.out)) hb);(try clear hb);(try clear hb2);(try clear hk);(try clear hi);refine hK.out _ _ ⟨(bc BK426.out 0).trans rfl,(bc BK426.out 1).trans rfl,(bc BK426.out 2).trans rfl,(bc BK426.out 3).trans rfl,(bc BK426.out 4).trans rfl,(bc BK426.out 5).trans rfl,(bc BK426.out 6).trans rfl,(bc BK426.out 7).trans rfl,(bc BK427.out 0).trans rfl,(bc BK427.out 1).trans rfl,(bc BK427.out 2).trans rfl,(bc BK427.out 3).trans rfl,(bc BK427.out 4).trans rfl,(bc BK427.out 5).trans rfl,(bc BK427.out 6).trans rfl,(bc BK427.out 7).trans rfl⟩ (fun hHeld => ?_);clear hK K;refine norm_ (a':=?_) ?_ ?_
                    rotate_left
                    · show Act.put _ (some 30) _ = _
                      simp only [Act.put,q1,q2,q3,i64_w,i32_w]
                      rfl
                    refine pure_ (i:=13) (N:=some 32) (v:=?_) (a':=?_) #[true,true,true,true,true,true,true,true,true,true,true,true,true,true,false] rfl rfl (any_of HT_.out (by kernel_rfl)) (fun _ _ _ h => h) (Or.inl ⟨by rfl,?_⟩) ?_ ?_
                    rotate_left
                    · intro w'
                      go_simp
                      with_reducible rfl
                    rotate_left
                    · simp only [Act.put,q1,q2,q3,i64_w,i32_w]
                      rfl
                    refine one_ (i:=14) (N:=none) #[true,true,true,true,true,true,true,true,true,true,true,true,true,true,true] rfl rfl (one_of HT_.out (by kernel_rfl)) (by decide) (fun K hK => ?_);have hs52 : w51.cell? ⟨gb431,2,none⟩ = some (.int .i64 x432002_2):=(bc BK431.out 2).trans rfl;have hfs52:=bz BK431.out 2;have hns52_0:=NB426_431.out;have hns52_1:=NB427_431.out;have hns52_2:=NB428_431.out;have hms52_0:=NB431_426.out;have hms52_1:=NB431_427.out;have hms52_2:=NB431_428.out;refine skip_ (w1:=?_) (by rfl) rfl ?_ ?_
                    rotate_left
                    · go_simp
                      rfl
                    refine hK.out _ _ ⟨((cell_far (p:=⟨gb431,_,none⟩) NB426_431.out _).trans (hHeld.1)),((cell_far (p:=⟨gb431,_,none⟩) NB426_431.out _).trans (hHeld.2.1)),((cell_far (p:=⟨gb431,_,none⟩) NB426_431.out _).trans (hHeld.2.2.1)),((cell_far (p:=⟨gb431,_,none⟩) NB426_431.out _).trans (hHeld.2.2.2.1)),((cell_far (p:=⟨gb431,_,none⟩) NB426_431.out _).trans (hHeld.2.2.2.2.1)),((cell_far (p:=⟨gb431,_,none⟩) NB426_431.out _).trans (hHeld.2.2.2.2.2.1)),((cell_far (p:=⟨gb431,_,none⟩) NB426_431.out _).trans (hHeld.2.2.2.2.2.2.1)),((cell_far (p:=⟨gb431,_,none⟩) NB426_431.out _).trans (hHeld.2.2.2.2.2.2.2.1)),((cell_far (p:=⟨gb431,_,none⟩) NB427_431.out _).trans (hHeld.2.2.2.2.2.2.2.2.1)),((cell_far (p:=⟨gb431,_,none⟩) NB427_431.out _).trans (hHeld.2.2.2.2.2.2.2.2.2.1)),((cell_far (p:=⟨gb431,_,none⟩) NB427_431.out _).trans (hHeld.2.2.2.2.2.2.2.2.2.2.1)),((cell_far (p:=⟨gb431,_,none⟩) NB427_431.out _).trans (hHeld.2.2.2.2.2.2.2.2.2.2.2.1)),((cell_far (p:=⟨gb431,_,none⟩) NB427_431.out _).trans (hHeld.2.2.2.2.2.2.2.2.2.2.2.2.1)),((cell_far (p:=⟨gb431,_,none⟩) NB427_431.out _).trans (hHeld.2.2.2.2.2.2.2.2.2.2.2.2.2.1)),((cell_far (p:=⟨gb431,_,none⟩) NB427_431.out _).trans (hHeld.2.2.2.2.2.2.2.2.2.2.2.2.2.2.1)),((cell_far (p:=⟨gb431,_,none⟩) NB427_431.out _).trans (hHeld.2.2.2.2.2.2.2.2.2.2.2.2.2.2.2))⟩ (fun hHeld => ?_);clear hK K;refine done_ (done_of HT_.out (by kernel_rfl)) ?_
                    try go_wp2
                    have n0_ : Aside0 ((w51.setCell ⟨gb431,2,none⟩ (.int .i64 t436)).heap[gb426]? = some (.cells #[.int .i64 a0_0,.int .i64 a0_1,.int .i64 a0_2,.int .i64 a0_3,.int .i64 a0_4,.int .i64 a0_5,.int .i64 a0_6,.int .i64 a0_7] 41 (0,0))):=⟨by (with_reducible repeat (first|refine bn ?_ _|refine bd ?_|refine ba ?_ _|refine bf ?_ NB426_431.out _));exact BK426.out⟩;have n1_ : Aside0 ((w51.setCell ⟨gb431,2,none⟩ (.int .i64 t436)).heap[gb427]? = some (.cells #[.int .i64 a1_0,.int .i64 a1_1,.int .i64 a1_2,.int .i64 a1_3,.int .i64 a1_4,.int .i64 a1_5,.int .i64 a1_6,.int .i64 a1_7] 41 (0,0))):=⟨by (with_reducible repeat (first|refine bn ?_ _|refine bd ?_|refine ba ?_ _|refine bf ?_ NB427_431.out _));exact BK427.out⟩;have n2_ : Aside0 ((w51.setCell ⟨gb431,2,none⟩ (.int .i64 t436)).heap[gb428]? = some (.cells #[.int .i64 0,.int .i64 0,.int .i64 0,.int .i64 0,.int .i64 0,.int .i64 0,.int .i64 0,.int .i64 0] 41 (0,0))):=⟨by (with_reducible repeat (first|refine bn ?_ _|refine bd ?_|refine ba ?_ _|refine bf ?_ NB428_431.out _));exact BK428.out⟩;have n3_ : Aside0 ((w51.setCell ⟨gb431,2,none⟩ (.int .i64 t436)).heap[gb431]? = some (.cells #[.int .i64 x432000_2,.int .i64 x432001_2,.int .i64 t436,.int .i64 x432003_2,.int .i64 x432004_2,.int .i64 x432005_2,.int .i64 x432006_2,.int .i64 x432007_2] 41 (0,0))):=⟨by (with_reducible repeat (first|refine bn ?_ _|refine bd ?_|refine ba ?_ _));refine bp (cs:=#[.int .i64 x432000_2,.int .i64 x432001_2,.int .i64 x432002_2,.int .i64 x432003_2,.int .i64 x432004_2,.int .i64 x432005_2,.int .i64 x432006_2,.int .i64 x432007_2]) ?_ 2 _ rfl;(with_reducible repeat (first|refine bn ?_ _|refine bd ?_|refine ba ?_ _));exact BK431.out⟩;have n4_ : Aside0 (Below w.heap.size w (w51.setCell ⟨gb431,2,none⟩ (.int .i64 t436))):=⟨by repeat (first|(with_reducible first|exact HB.out|apply sa|apply sn|apply sd|refine sy ?_ (by assumption))|exact HB.out)⟩;(try clear BK426);(try clear BK427);(try clear BK428);(try clear BK431);(try clear HB);generalize (w51.setCell ⟨gb431,2,none⟩ (.int .i64 t436)) = w53 at n0_ n1_ n2_ n3_ n4_ ⊢;have BK426:=n0_;have BK427:=n1_;have BK428:=n2_;have BK431:=n3_;have HB:=n4_;clear n0_ n1_ n2_ n3_ n4_;replace BK426:=am (bd BK426.out);replace BK427:=am (bd BK427.out);replace BK428:=am (bd BK428.out);replace BK431:=am (bd BK431.out);replace HB:=am (sd HB.out);refine start_ (n:=20) (S:=fun w' => w'.cell? ⟨gb427,0,none⟩ = some (.int .i64 a1_0) ∧ w'.cell? ⟨gb427,1,none⟩ = some (.int .i64 a1_1) ∧ w'.cell? ⟨gb427,2,none⟩ = some (.int .i64 a1_2) ∧ w'.cell? ⟨gb427,3,none⟩ = some (.int .i64 a1_3) ∧ w'.cell? ⟨gb427,4,none⟩ = some (.int .i64 a1_4) ∧ w'.cell? ⟨gb427,5,none⟩ = some (.int .i64 a1_5) ∧ w'.cell? ⟨gb427,6,none⟩ = some (.int .i64 a1_6) ∧ w'.cell? ⟨gb427,7,none⟩ = some (.int .i64 a1_7) ∧ w'.cell? ⟨gb426,0,none⟩ = some (.int .i64 a0_0) ∧ w'.cell? ⟨gb426,1,none⟩ = some (.int .i64 a0_1) ∧ w'.cell? ⟨gb426,2,none⟩ = some (.int .i64 a0_2) ∧ w'.cell? ⟨gb426,3,none⟩ = some (.int .i64 a0_3) ∧ w'.cell? ⟨gb426,4,none⟩ = some (.int .i64 a0_4) ∧ w'.cell? ⟨gb426,5,none⟩ = some (.int .i64 a0_5) ∧ w'.cell? ⟨gb426,6,none⟩ = some (.int .i64 a0_6) ∧ w'.cell? ⟨gb426,7,none⟩ = some (.int .i64 a0_7)) (ds:=[]) #[false,false,false,false,false,false,false,false,false,false,false,false,false,false,false,false,false,false,false,false] (by kernel_rfl) rfl rfl ⟨(bc BK427.out 0).trans rfl,(bc BK427.out 1).trans rfl,(bc BK427.out 2).trans rfl,(bc BK427.out 3).trans rfl,(bc BK427.out 4).trans rfl,(bc BK427.out 5).trans rfl,(bc BK427.out 6).trans rfl,(bc BK427.out 7).trans rfl,(bc BK426.out 0).trans rfl,(bc BK426.out 1).trans rfl,(bc BK426.out 2).trans rfl,(bc BK426.out 3).trans rfl,(bc BK426.out 4).trans rfl,(bc BK426.out 5).trans rfl,(bc BK426.out 6).trans rfl,(bc BK426.out 7).trans rfl⟩ (fun hHeld => ?_);refine with_tabW affine_ComposeCx.tab8 affine_ComposeCx.bits8 (fun HT_ HW_ => ?_);generalize w53.drew = w54 at BK426 BK427 BK428 BK431 HB hHeld ⊢;refine pure_ (i:=0) (N:=some 33) (v:=?_) (a':=?_) #[true,false,false,false,false,false,false,false,false,false,false,false,false,false,false,false,false,false,false,false] rfl rfl (any_of HT_.out (by kernel_rfl)) (fun _ _ _ h => h) (Or.inl ⟨by rfl,?_⟩) ?_ ?_
                    rotate_left
                    · intro w'
                      go_simp
                      with_reducible rfl
                    rotate_left
                    · simp only [Act.put,q1,q2,q3,i64_w,i32_w]
                      rfl
                    refine pure_ (i:=1) (N:=some 34) (v:=?_) (a':=?_) #[true,true,false,false,false,false,false,false,false,false,false,false,false,false,false,false,false,false,false,false] rfl rfl (any_of HT_.out (by kernel_rfl)) (fun _ _ _ h => h) (Or.inl ⟨by rfl,?_⟩) ?_ ?_
                    rotate_left
                    · intro w'
                      go_simp
                      with_reducible rfl
                    rotate_left
                    · simp only [Act.put,q1,q2,q3,i64_w,i32_w]
                      rfl
                    refine pure_ (i:=2) (N:=some 35) (v:=?_) (a':=?_) #[true,true,true,false,false,false,false,false,false,false,false,false,false,false,false,false,false,false,false,false] rfl rfl (any_of HT_.out (by kernel_rfl)) (fun _ _ _ h => h) (Or.inl ⟨by rfl,?_⟩) ?_ ?_
                    rotate_left
                    · intro w'
                      go_simp
                      with_reducible rfl
                    rotate_left
                    · simp only [Act.put,q1,q2,q3,i64_w,i32_w]
                      rfl
                    refine pure_ (i:=3) (N:=some 36) (v:=?_) (a':=?_) #[true,true,true,true,false,false,false,false,false,false,false,false,false,false,false,false,false,false,false,false] rfl rfl (any_of HT_.out (by kernel_rfl)) (fun _ _ _ h => h) (Or.inl ⟨by rfl,?_⟩) ?_ ?_
                    rotate_left
                    · intro w'
                      go_simp
                      with_reducible rfl
                    rotate_left
                    · simp only [Act.put,q1,q2,q3,i64_w,i32_w]
                      rfl
                    refine pure_ (i:=5) (N:=some 38) (v:=?_) (a':=?_) #[true,true,true,true,false,true,false,false,false,false,false,false,false,false,false,false,false,false,false,false] rfl rfl (any_of HT_.out (by kernel_rfl)) (fun _ _ _ h => h) (Or.inl ⟨by rfl,?_⟩) ?_ ?_
                    rotate_left
                    · intro w'
                      go_simp
                      with_reducible rfl
                    rotate_left
                    · simp only [Act.put,q1,q2,q3,i64_w,i32_w]
                      rfl
                    refine pure_ (i:=6) (N:=some 39) (v:=?_) (a':=?_) #[true,true,true,true,false,true,true,false,false,false,false,false,false,false,false,false,false,false,false,false] rfl rfl (any_of HT_.out (by kernel_rfl)) (fun _ _ _ h => h) (Or.inl ⟨by rfl,?_⟩) ?_ ?_
                    rotate_left
                    · intro w'
                      go_simp
                      with_reducible rfl
                    rotate_left
                    · simp only [Act.put,q1,q2,q3,i64_w,i32_w]
                      rfl
                    refine pure_ (i:=7) (N:=some 40) (v:=?_) (a':=?_) #[true,true,true,true,false,true,true,true,false,false,false,false,false,false,false,false,false,false,false,false] rfl rfl (any_of HT_.out (by kernel_rfl)) (fun _ _ _ h => h) (Or.inl ⟨by rfl,?_⟩) ?_ ?_
                    rotate_left
                    · intro w'
                      go_simp
                      with_reducible rfl
                    rotate_left
                    · simp only [Act.put,q1,q2,q3,i64_w,i32_w]
                      rfl
                    refine pure_ (i:=11) (N:=some 44) (v:=?_) (a':=?_) #[true,true,true,true,false,true,true,true,false,false,false,true,false,false,false,false,false,false,false,false] rfl rfl (any_of HT_.out (by kernel_rfl)) (fun _ _ _ h => h) (Or.inl ⟨by rfl,?_⟩) ?_ ?_
                    rotate_left
                    · intro w'
                      go_simp
                      with_reducible rfl
                    rotate_left
                    · simp only [Act.put,q1,q2,q3,i64_w,i32_w]
                      rfl
                    refine pure_ (i:=12) (N:=some 45) (v:=?_) (a':=?_) #[true,true,true,true,false,true,true,true,false,false,false,true,true,false,false,false,false,false,false,false] rfl rfl (any_of HT_.out (by kernel_rfl)) (fun _ _ _ h => h) (Or.inl ⟨by rfl,?_⟩) ?_ ?_
                    rotate_left
                    · intro w'
                      go_simp
                      with_reducible rfl
                    rotate_left
                    · simp only [Act.put,q1,q2,q3,i64_w,i32_w]
                      rfl
                    refine pure_ (i:=13) (N:=some 46) (v:=?_) (a':=?_) #[true,true,true,true,false,true,true,true,false,false,false,true,true,true,false,false,false,false,false,false] rfl rfl (any_of HT_.out (by kernel_rfl)) (fun _ _ _ h => h) (Or.inl ⟨by rfl,?_⟩) ?_ ?_
                    rotate_left
                    · intro w'
                      go_simp
                      with_reducible rfl
                    rotate_left
                    · simp only [Act.put,q1,q2,q3,i64_w,i32_w]
                      rfl
                    refine pure_ (i:=17) (N:=some 50) (v:=?_) (a':=?_) #[true,true,true,true,false,true,true,true,false,false,false,true,true,true,false,false,false,true,false,false] rfl rfl (any_of HT_.out (by kernel_rfl)) (fun _ _ _ h => h) (Or.inl ⟨by rfl,?_⟩) ?_ ?_
                    rotate_left
                    · intro w'
                      go_simp
                      with_reducible rfl
                    rotate_left
                    · simp only [Act.put,q1,q2,q3,i64_w,i32_w]
                      rfl
                    refine take_ (i:=4) (N:=some 37) (v:=?_) (a':=?_) #[true,true,true,true,true,true,true,true,false,false,false,true,true,true,false,false,false,true,false,false] rfl rfl (take_ofW HT_.out HW_.out (by kernel_rfl)) (fun _ _ _ h => h) (Or.inl ⟨by rfl,?_⟩) hHeld ?_ ?_
                    rotate_left
                    · rintro w' ⟨s0,s1,s2,s3,s4,s5,s6,s7,s8,s9,s10,s11,s12,s13,s14,s15⟩
                      go_simp
                      with_reducible rfl
                    rotate_left
                    · simp only [Act.put,q1,q2,q3,i64_w,i32_w]
                      rfl
                    refine take_ (i:=8) (N:=some 41) (v:=?_) (a':=?_) #[true,true,true,true,true,true,true,true,true,false,false,true,true,true,false,false,false,true,false,false] rfl rfl (take_ofW HT_.out HW_.out (by kernel_rfl)) (fun _ _ _ h => h) (Or.inl ⟨by rfl,?_⟩) hHeld ?_ ?_
                    rotate_left
                    · rintro w' ⟨s0,s1,s2,s3,s4,s5,s6,s7,s8,s9,s10,s11,s12,s13,s14,s15⟩
                      go_simp
                      with_reducible rfl
                    rotate_left
                    · simp only [Act.put,q1,q2,q3,i64_w,i32_w]
                      rfl
                    refine pure_ (i:=9) (N:=some 42) (v:=?_) (a':=?_) #[true,true,true,true,true,true,true,true,true,true,false,true,true,true,false,false,false,true,false,false] rfl rfl (any_of HT_.out (by kernel_rfl)) (fun _ _ _ h => h) (Or.inl ⟨by rfl,?_⟩) ?_ ?_
                    rotate_left
                    · intro w'
                      go_simp
                      with_reducible rfl
                    rotate_left
                    · simp only [Act.put,q1,q2,q3,i64_w,i32_w]
                      rfl
                    refine pure_ (i:=10) (N:=some 43) (v:=?_) (a':=?_) #[true,true,true,true,true,true,true,true,true,true,true,true,true,true,false,false,false,true,false,false] rfl rfl (any_of HT_.out (by kernel_rfl)) (fun _ _ _ h => h) (Or.inl ⟨by rfl,?_⟩) ?_ ?_
                    rotate_left
                    · intro w'
                      go_simp
                      with_reducible rfl
                    rotate_left
                    · simp only [Act.put,q1,q2,q3,i64_w,i32_w]
                      rfl
                    refine take_ (i:=14) (N:=some 47) (v:=?_) (a':=?_) #[true,true,true,true,true,true,true,true,true,true,true,true,true,true,true,false,false,true,false,false] rfl rfl (take_ofW HT_.out HW_.out (by kernel_rfl)) (fun _ _ _ h => h) (Or.inl ⟨by rfl,?_⟩) hHeld ?_ ?_
                    rotate_left
                    · rintro w' ⟨s0,s1,s2,s3,s4,s5,s6,s7,s8,s9,s10,s11,s12,s13,s14,s15⟩
                      go_simp
                      with_reducible rfl
                    rotate_left
                    · simp only [Act.put,q1,q2,q3,i64_w,i32_w]
                      rfl
                    refine pure_ (i:=15) (N:=some 48) (v:=?_) (a':=?_) #[true,true,true,true,true,true,true,true,true,true,true,true,true,true,true,true,false,true,false,false] rfl rfl (any_of HT_.out (by kernel_rfl)) (fun _ _ _ h => h) (Or.inl ⟨by rfl,?_⟩) ?_ ?_
                    rotate_left
                    · intro w'
                      go_simp
                      with_reducible rfl
                    rotate_left
                    · simp only [Act.put,q1,q2,q3,i64_w,i32_w]
                      rfl
                    refine one_ (i:=16) (N:=some 49) #[true,true,true,true,true,true,true,true,true,true,true,true,true,true,true,true,true,true,false,false] rfl rfl (one_of HT_.out (by kernel_rfl)) (by decide) (fun K hK => ?_);refine goes_ Try.func43 (by kernel_rfl) rfl #[.int .i64 (wrap64 (((wrap64 (a1_6 * a0_2)) / 256) + a0_6)),.int .i64 (-255),.int .i64 255] (by rfl) rfl rfl (by (try simp only [List.map_toArray,List.map_cons,List.map_nil]);first|done|rfl|(simp only [List.length_drop,List.length_take];rfl)) ?_
                    with_reducible refine (affine_clamp.calls (wrap64 (((wrap64 (a1_6 * a0_2)) / 256) + a0_6)) (-255) 255 t437 _ A49.out).mono ?_
                    rintro e w55 ⟨rfl,hb⟩
                    refine ⟨_,rfl,?_⟩;replace BK426:=am (bw (by exact BK426.out) hb);replace BK427:=am (bw (by exact BK427.out) hb);replace BK428:=am (bw (by exact BK428.out) hb);replace BK431:=am (bw (by exact BK431.out) hb);replace HB:=am (ss (by repeat (first|(with_reducible first|exact HB.out|apply sa|apply sn|apply sd|refine sy ?_ (by assumption))|exact HB.out)) hb);(try clear hb);(try clear hb2);(try clear hk);(try clear hi);refine hK.out _ _ ⟨(bc BK427.out 0).trans rfl,(bc BK427.out 1).trans rfl,(bc BK427.out 2).trans rfl,(bc BK427.out 3).trans rfl,(bc BK427.out 4).trans rfl,(bc BK427.out 5).trans rfl,(bc BK427.out 6).trans rfl,(bc BK427.out 7).trans rfl,(bc BK426.out 0).trans rfl,(bc BK426.out 1).trans rfl,(bc BK426.out 2).trans rfl,(bc BK426.out 3).trans rfl,(bc BK426.out 4).trans rfl,(bc BK426.out 5).trans rfl,(bc BK426.out 6).trans rfl,(bc BK426.out 7).trans rfl⟩ (fun hHeld => ?_);clear hK K;refine norm_ (a':=?_) ?_ ?_
                    rotate_left
                    · show Act.put _ (some 49) _ = _
                      simp only [Act.put,q1,q2,q3,i64_w,i32_w]
                      rfl
                    refine pure_ (i:=18) (N:=some 51) (v:=?_) (a':=?_) #[true,true,true,true,true,true,true,true,true,true,true,true,true,true,true,true,true,true,true,false] rfl rfl (any_of HT_.out (by kernel_rfl)) (fun _ _ _ h => h) (Or.inl ⟨by rfl,?_⟩) ?_ ?_
                    rotate_left
                    · intro w'
                      go_simp
                      with_reducible rfl
                    rotate_left
                    · simp only [Act.put,q1,q2,q3,i64_w,i32_w]
                      rfl
                    refine one_ (i:=19) (N:=none) #[true,true,true,true,true,true,true,true,true,true,true,true,true,true,true,true,true,true,true,true] rfl rfl (one_of HT_.out (by kernel_rfl)) (by decide) (fun K hK => ?_);have hs56 : w55.cell? ⟨gb431,6,none⟩ = some (.int .i64 x432006_2):=(bc BK431.out 6).trans rfl;have hfs56:=bz BK431.out 6;have hns56_0:=NB426_431.out;have hns56_1:=NB427_431.out;have hns56_2:=NB428_431.out;have hms56_0:=NB431_426.out;have hms56_1:=NB431_427.out;have hms56_2:=NB431_428.out;refine skip_ (w1:=?_) (by rfl) rfl ?_ ?_
                    rotate_left
                    · go_simp
                      rfl
                    refine hK.out _ _ ⟨((cell_far (p:=⟨gb431,_,none⟩) NB427_431.out _).trans (hHeld.1)),((cell_far (p:=⟨gb431,_,none⟩) NB427_431.out _).trans (hHeld.2.1)),((cell_far (p:=⟨gb431,_,none⟩) NB427_431.out _).trans (hHeld.2.2.1)),((cell_far (p:=⟨gb431,_,none⟩) NB427_431.out _).trans (hHeld.2.2.2.1)),((cell_far (p:=⟨gb431,_,none⟩) NB427_431.out _).trans (hHeld.2.2.2.2.1)),((cell_far (p:=⟨gb431,_,none⟩) NB427_431.out _).trans (hHeld.2.2.2.2.2.1)),((cell_far (p:=⟨gb431,_,none⟩) NB427_431.out _).trans (hHeld.2.2.2.2.2.2.1)),((cell_far (p:=⟨gb431,_,none⟩) NB427_431.out _).trans (hHeld.2.2.2.2.2.2.2.1)),((cell_far (p:=⟨gb431,_,none⟩) NB426_431.out _).trans (hHeld.2.2.2.2.2.2.2.2.1)),((cell_far (p:=⟨gb431,_,none⟩) NB426_431.out _).trans (hHeld.2.2.2.2.2.2.2.2.2.1)),((cell_far (p:=⟨gb431,_,none⟩) NB426_431.out _).trans (hHeld.2.2.2.2.2.2.2.2.2.2.1)),((cell_far (p:=⟨gb431,_,none⟩) NB426_431.out _).trans (hHeld.2.2.2.2.2.2.2.2.2.2.2.1)),((cell_far (p:=⟨gb431,_,none⟩) NB426_431.out _).trans (hHeld.2.2.2.2.2.2.2.2.2.2.2.2.1)),((cell_far (p:=⟨gb431,_,none⟩) NB426_431.out _).trans (hHeld.2.2.2.2.2.2.2.2.2.2.2.2.2.1)),((cell_far (p:=⟨gb431,_,none⟩) NB426_431.out _).trans (hHeld.2.2.2.2.2.2.2.2.2.2.2.2.2.2.1)),((cell_far (p:=⟨gb431,_,none⟩) NB426_431.out _).trans (hHeld.2.2.2.2.2.2.2.2.2.2.2.2.2.2.2))⟩ (fun hHeld => ?_);clear hK K;refine done_ (done_of HT_.out (by kernel_rfl)) ?_
                    try go_wp2
                    go_roundg k2
                    case measure => have:=HJ2.out;have:=HK2.out;omega
                    case rel => exact ⟨(2 + 1),(x432000_2),(x432001_2),(t436),(x432003_2),(x432004_2),(x432005_2),(t437),(x432007_2),(by first|rfl|(simp;done)|(simp [*];done)),H',⟨by have:=HJ2.out;have:=HK2.out;omega⟩,⟨by (with_reducible repeat (first|refine bn ?_ _|refine bd ?_|refine ba ?_ _|refine bf ?_ NB426_431.out _));exact BK426.out⟩,⟨by (with_reducible repeat (first|refine bn ?_ _|refine bd ?_|refine ba ?_ _|refine bf ?_ NB427_431.out _));exact BK427.out⟩,⟨by (with_reducible repeat (first|refine bn ?_ _|refine bd ?_|refine ba ?_ _|refine bf ?_ NB428_431.out _));exact BK428.out⟩,⟨by (with_reducible repeat (first|refine bn ?_ _|refine bd ?_|refine ba ?_ _));refine bp (cs:=#[.int .i64 x432000_2,.int .i64 x432001_2,.int .i64 t436,.int .i64 x432003_2,.int .i64 x432004_2,.int .i64 x432005_2,.int .i64 x432006_2,.int .i64 x432007_2]) ?_ 6 _ rfl;(with_reducible repeat (first|refine bn ?_ _|refine bd ?_|refine ba ?_ _));exact BK431.out⟩,⟨by repeat (first|(with_reducible first|exact HB.out|apply sa|apply sn|apply sd|refine sy ?_ (by assumption))|exact HB.out)⟩⟩
                  · rw [if_neg c47] at H
                    by_cases c57 : x16_2 = 3
                    · subst c57
                      have H1 : ((affine_clamp.f ((wrap64 (a0_3 * a1_3)) / 256) (-512) 512).bind fun t438 => ((affine_clamp.f (wrap64 (((wrap64 (a1_7 * a0_3)) / 256) + a0_7)) (-255) 255).bind fun t439 => (affine_ComposeCx.l0 k2 (3 + 1) a0_0 a0_1 a0_2 a0_3 a0_4 a0_5 a0_6 a0_7 a1_0 a1_1 a1_2 a1_3 a1_4 a1_5 a1_6 a1_7 x432000_2 x432001_2 x432002_2 t438 x432004_2 x432005_2 x432006_2 t439))) = some (r1,r2,r3,r4,r5,r6,r7,r8):=by rw [if_pos rfl] at H;exact H
                      clear H;have H:=H1;clear H1;replace H:=Option.bind_eq_some_iff.mp H;obtain ⟨t438,A580,H⟩:=H;replace H : ((affine_clamp.f (wrap64 (((wrap64 (a1_7 * a0_3)) / 256) + a0_7)) (-255) 255).bind fun t439 => (affine_ComposeCx.l0 k2 (3 + 1) a0_0 a0_1 a0_2 a0_3 a0_4 a0_5 a0_6 a0_7 a1_0 a1_1 a1_2 a1_3 a1_4 a1_5 a1_6 a1_7 x432000_2 x432001_2 x432002_2 t438 x432004_2 x432005_2 x432006_2 t439)) = some (r1,r2,r3,r4,r5,r6,r7,r8):=H;have A58:=am A580;clear A580;replace H:=Option.bind_eq_some_iff.mp H;obtain ⟨t439,A590,H⟩:=H;replace H : (affine_ComposeCx.l0 k2 (3 + 1) a0_0 a0_1 a0_2 a0_3 a0_4 a0_5 a0_6 a0_7 a1_0 a1_1 a1_2 a1_3 a1_4 a1_5 a1_6 a1_7 x432000_2 x432001_2 x432002_2 t438 x432004_2 x432005_2 x432006_2 t439) = some (r1,r2,r3,r4,r5,r6,r7,r8):=H;have A59:=am A590;clear A590;have H':=am H;clear H
                      try go_wp2
                      replace BK426:=am (bd BK426.out);replace BK427:=am (bd BK427.out);replace BK428:=am (bd BK428.out);replace BK431:=am (bd BK431.out);replace HB:=am (sd HB.out);refine start_ (n:=15) (S:=fun w' => w'.cell? ⟨gb426,0,none⟩ = some (.int .i64 a0_0) ∧ w'.cell? ⟨gb426,1,none⟩ = some (.int .i64 a0_1) ∧ w'.cell? ⟨gb426,2,none⟩ = some (.int .i64 a0_2) ∧ w'.cell? ⟨gb426,3,none⟩ = some (.int .i64 a0_3) ∧ w'.cell? ⟨gb426,4,none⟩ = some (.int .i64 a0_4) ∧ w'.cell? ⟨gb426,5,none⟩ = some (.int .i64 a0_5) ∧ w'.cell? ⟨gb426,6,none⟩ = some (.int .i64 a0_6) ∧ w'.cell? ⟨gb426,7,none⟩ = some (.int .i64 a0_7) ∧ w'.cell? ⟨gb427,0,none⟩ = some (.int .i64 a1_0) ∧ w'.cell? ⟨gb427,1,none⟩ = some (.int .i64 a1_1) ∧ w'.cell? ⟨gb427,2,none⟩ = some (.int .i64 a1_2) ∧ w'.cell? ⟨gb427,3,none⟩ = some (.int .i64 a1_3) ∧ w'.cell? ⟨gb427,4,none⟩ = some (.int .i64 a1_4) ∧ w'.cell? ⟨gb427,5,none⟩ = some (.int .i64 a1_5) ∧ w'.cell? ⟨gb427,6,none⟩ = some (.int .i64 a1_6) ∧ w'.cell? ⟨gb427,7,none⟩ = some (.int .i64 a1_7)) (ds:=[]) #[false,false,false,false,false,false,false,false,false,false,false,false,false,false,false] (by kernel_rfl) rfl rfl ⟨(bc BK426.out 0).trans rfl,(bc BK426.out 1).trans rfl,(bc BK426.out 2).trans rfl,(bc BK426.out 3).trans rfl,(bc BK426.out 4).trans rfl,(bc BK426.out 5).trans rfl,(bc BK426.out 6).trans rfl,(bc BK426.out 7).trans rfl,(bc BK427.out 0).trans rfl,(bc BK427.out 1).trans rfl,(bc BK427.out 2).trans rfl,(bc BK427.out 3).trans rfl,(bc BK427.out 4).trans rfl,(bc BK427.out 5).trans rfl,(bc BK427.out 6).trans rfl,(bc BK427.out 7).trans rfl⟩ (fun hHeld => ?_);refine with_tabW affine_ComposeCx.tab7 affine_ComposeCx.bits7 (fun HT_ HW_ => ?_);generalize wr.drew = w60 at BK426 BK427 BK428 BK431 HB hHeld ⊢;refine pure_ (i:=0) (N:=some 19) (v:=?_) (a':=?_) #[true,false,false,false,false,false,false,false,false,false,false,false,false,false,false] rfl rfl (any_of HT_.out (by kernel_rfl)) (fun _ _ _ h => h) (Or.inl ⟨by rfl,?_⟩) ?_ ?_
                      rotate_left
                      · intro w'
                        go_simp
                        with_reducible rfl
                      rotate_left
                      · simp only [Act.put,q1,q2,q3,i64_w,i32_w]
                        rfl
                      refine pure_ (i:=1) (N:=some 20) (v:=?_) (a':=?_) #[true,true,false,false,false,false,false,false,false,false,false,false,false,false,false] rfl rfl (any_of HT_.out (by kernel_rfl)) (fun _ _ _ h => h) (Or.inl ⟨by rfl,?_⟩) ?_ ?_
                      rotate_left
                      · intro w'
                        go_simp
                        with_reducible rfl
                      rotate_left
                      · simp only [Act.put,q1,q2,q3,i64_w,i32_w]
                        rfl
                      refine pure_ (i:=2) (N:=some 21) (v:=?_) (a':=?_) #[true,true,true,false,false,false,false,false,false,false,false,false,false,false,false] rfl rfl (any_of HT_.out (by kernel_rfl)) (fun _ _ _ h => h) (Or.inl ⟨by rfl,?_⟩) ?_ ?_
                      rotate_left
                      · intro w'
                        go_simp
                        with_reducible rfl
                      rotate_left
                      · simp only [Act.put,q1,q2,q3,i64_w,i32_w]
                        rfl
                      refine pure_ (i:=3) (N:=some 22) (v:=?_) (a':=?_) #[true,true,true,true,false,false,false,false,false,false,false,false,false,false,false] rfl rfl (any_of HT_.out (by kernel_rfl)) (fun _ _ _ h => h) (Or.inl ⟨by rfl,?_⟩) ?_ ?_
                      rotate_left
                      · intro w'
                        go_simp
                        with_reducible rfl
                      rotate_left
                      · simp only [Act.put,q1,q2,q3,i64_w,i32_w]
                        rfl
                      refine pure_ (i:=5) (N:=some 24) (v:=?_) (a':=?_) #[true,true,true,true,false,true,false,false,false,false,false,false,false,false,false] rfl rfl (any_of HT_.out (by kernel_rfl)) (fun _ _ _ h => h) (Or.inl ⟨by rfl,?_⟩) ?_ ?_
                      rotate_left
                      · intro w'
                        go_simp
                        with_reducible rfl
                      rotate_left
                      · simp only [Act.put,q1,q2,q3,i64_w,i32_w]
                        rfl
                      refine pure_ (i:=6) (N:=some 25) (v:=?_) (a':=?_) #[true,true,true,true,false,true,true,false,false,false,false,false,false,false,false] rfl rfl (any_of HT_.out (by kernel_rfl)) (fun _ _ _ h => h) (Or.inl ⟨by rfl,?_⟩) ?_ ?_
                      rotate_left
                      · intro w'
                        go_simp
                        with_reducible rfl
                      rotate_left
                      · simp only [Act.put,q1,q2,q3,i64_w,i32_w]
                        rfl
                      refine pure_ (i:=7) (N:=some 26) (v:=?_) (a':=?_) #[true,true,true,true,false,true,true,true,false,false,false,false,false,false,false] rfl rfl (any_of HT_.out (by kernel_rfl)) (fun _ _ _ h => h) (Or.inl ⟨by rfl,?_⟩) ?_ ?_
                      rotate_left
                      · intro w'
                        go_simp
                        with_reducible rfl
                      rotate_left
                      · simp only [Act.put,q1,q2,q3,i64_w,i32_w]
                        rfl
                      refine pure_ (i:=12) (N:=some 31) (v:=?_) (a':=?_) #[true,true,true,true,false,true,true,true,false,false,false,false,true,false,false] rfl rfl (any_of HT_.out (by kernel_rfl)) (fun _ _ _ h => h) (Or.inl ⟨by rfl,?_⟩) ?_ ?_
                      rotate_left
                      · intro w'
                        go_simp
                        with_reducible rfl
                      rotate_left
                      · simp only [Act.put,q1,q2,q3,i64_w,i32_w]
                        rfl
                      refine take_ (i:=4) (N:=some 23) (v:=?_) (a':=?_) #[true,true,true,true,true,true,true,true,false,false,false,false,true,false,false] rfl rfl (take_ofW HT_.out HW_.out (by kernel_rfl)) (fun _ _ _ h => h) (Or.inl ⟨by rfl,?_⟩) hHeld ?_ ?_
                      rotate_left
                      · rintro w' ⟨s0,s1,s2,s3,s4,s5,s6,s7,s8,s9,s10,s11,s12,s13,s14,s15⟩
                        go_simp
                        with_reducible rfl
                      rotate_left
                      · simp only [Act.put,q1,q2,q3,i64_w,i32_w]
                        rfl
                      refine take_ (i:=8) (N:=some 27) (v:=?_) (a':=?_) #[true,true,true,true,true,true,true,true,true,false,false,false,true,false,false] rfl rfl (take_ofW HT_.out HW_.out (by kernel_rfl)) (fun _ _ _ h => h) (Or.inl ⟨by rfl,?_⟩) hHeld ?_ ?_
                      rotate_left
                      · rintro w' ⟨s0,s1,s2,s3,s4,s5,s6,s7,s8,s9,s10,s11,s12,s13,s14,s15⟩
                        go_simp
                        with_reducible rfl
                      rotate_left
                      · simp only [Act.put,q1,q2,q3,i64_w,i32_w]
                        rfl
                      refine pure_ (i:=9) (N:=some 28) (v:=?_) (a':=?_) #[true,true,true,true,true,true,true,true,true,true,false,false,true,false,false] rfl rfl (any_of HT_.out (by kernel_rfl)) (fun _ _ _ h => h) (Or.inl ⟨by rfl,?_⟩) ?_ ?_
                      rotate_left
                      · intro w'
                        go_simp
                        with_reducible rfl
                      rotate_left
                      · simp only [Act.put,q1,q2,q3,i64_w,i32_w]
                        rfl
                      refine pure_ (i:=10) (N:=some 29) (v:=?_) (a':=?_) #[true,true,true,true,true,true,true,true,true,true,true,false,true,false,false] rfl rfl (any_of HT_.out (by kernel_rfl)) (fun _ _ _ h => h) (Or.inl ⟨by rfl,?_⟩) ?_ ?_
                      rotate_left
                      · intro w'
                        go_simp
                        with_reducible rfl
                      rotate_left
                      · simp only [Act.put,q1,q2,q3,i64_w,i32_w]
                        rfl
                      refine one_ (i:=11) (N:=some 30) #[true,true,true,true,true,true,true,true,true,true,true,true,true,false,false] rfl rfl (one_of HT_.out (by kernel_rfl)) (by decide) (fun K hK => ?_);refine goes_ Try.func43 (by kernel_rfl) rfl #[.int .i64 ((wrap64 (a0_3 * a1_3)) / 256),.int .i64 (-512),.int .i64 512] (by rfl) rfl rfl (by (try simp only [List.map_toArray,List.map_cons,List.map_nil]);first|done|rfl|(simp only [List.length_drop,List.length_take];rfl)) ?_
                      with_reducible refine (affine_clamp.calls ((wrap64 (a0_3 * a1_3)) / 256) (-512) 512 t438 _ A58.out).mono ?_
                      rintro e w61 ⟨rfl,hb⟩
                      refine ⟨_,rfl,?_⟩;replace BK426:=am (bw (by exact BK426.out) hb);replace BK427:=am (bw (by exact BK427.out) hb);replace BK428:=am (bw (by exact BK428.out) hb);replace BK431:=am (bw (by exact BK431.out) hb);replace HB:=am (ss (by repeat (first|(with_reducible first|exact HB.out|apply sa|apply sn|apply sd|refine sy ?_ (by assumption))|exact HB.out)) hb);(try clear hb);(try clear hb2);(try clear hk);(try clear hi);refine hK.out _ _ ⟨(bc BK426.out 0).trans rfl,(bc BK426.out 1).trans rfl,(bc BK426.out 2).trans rfl,(bc BK426.out 3).trans rfl,(bc BK426.out 4).trans rfl,(bc BK426.out 5).trans rfl,(bc BK426.out 6).trans rfl,(bc BK426.out 7).trans rfl,(bc BK427.out 0).trans rfl,(bc BK427.out 1).trans rfl,(bc BK427.out 2).trans rfl,(bc BK427.out 3).trans rfl,(bc BK427.out 4).trans rfl,(bc BK427.out 5).trans rfl,(bc BK427.out 6).trans rfl,(bc BK427.out 7).trans rfl⟩ (fun hHeld => ?_);clear hK K;refine norm_ (a':=?_) ?_ ?_
                      rotate_left
                      · show Act.put _ (some 30) _ = _
                        simp only [Act.put,q1,q2,q3,i64_w,i32_w]
                        rfl
                      refine pure_ (i:=13) (N:=some 32) (v:=?_) (a':=?_) #[true,true,true,true,true,true,true,true,true,true,true,true,true,true,false] rfl rfl (any_of HT_.out (by kernel_rfl)) (fun _ _ _ h => h) (Or.inl ⟨by rfl,?_⟩) ?_ ?_
                      rotate_left
                      · intro w'
                        go_simp
                        with_reducible rfl
                      rotate_left
                      · simp only [Act.put,q1,q2,q3,i64_w,i32_w]
                        rfl
                      refine one_ (i:=14) (N:=none) #[true,true,true,true,true,true,true,true,true,true,true,true,true,true,true] rfl rfl (one_of HT_.out (by kernel_rfl)) (by decide) (fun K hK => ?_);have hs62 : w61.cell? ⟨gb431,3,none⟩ = some (.int .i64 x432003_2):=(bc BK431.out 3).trans rfl;have hfs62:=bz BK431.out 3;have hns62_0:=NB426_431.out;have hns62_1:=NB427_431.out;have hns62_2:=NB428_431.out;have hms62_0:=NB431_426.out;have hms62_1:=NB431_427.out;have hms62_2:=NB431_428.out;refine skip_ (w1:=?_) (by rfl) rfl ?_ ?_
                      rotate_left
                      · go_simp
                        rfl
                      refine hK.out _ _ ⟨((cell_far (p:=⟨gb431,_,none⟩) NB426_431.out _).trans (hHeld.1)),((cell_far (p:=⟨gb431,_,none⟩) NB426_431.out _).trans (hHeld.2.1)),((cell_far (p:=⟨gb431,_,none⟩) NB426_431.out _).trans (hHeld.2.2.1)),((cell_far (p:=⟨gb431,_,none⟩) NB426_431.out _).trans (hHeld.2.2.2.1)),((cell_far (p:=⟨gb431,_,none⟩) NB426_431.out _).trans (hHeld.2.2.2.2.1)),((cell_far (p:=⟨gb431,_,none⟩) NB426_431.out _).trans (hHeld.2.2.2.2.2.1)),((cell_far (p:=⟨gb431,_,none⟩) NB426_431.out _).trans (hHeld.2.2.2.2.2.2.1)),((cell_far (p:=⟨gb431,_,none⟩) NB426_431.out _).trans (hHeld.2.2.2.2.2.2.2.1)),((cell_far (p:=⟨gb431,_,none⟩) NB427_431.out _).trans (hHeld.2.2.2.2.2.2.2.2.1)),((cell_far (p:=⟨gb431,_,none⟩) NB427_431.out _).trans (hHeld.2.2.2.2.2.2.2.2.2.1)),((cell_far (p:=⟨gb431,_,none⟩) NB427_431.out _).trans (hHeld.2.2.2.2.2.2.2.2.2.2.1)),((cell_far (p:=⟨gb431,_,none⟩) NB427_431.out _).trans (hHeld.2.2.2.2.2.2.2.2.2.2.2.1)),((cell_far (p:=⟨gb431,_,none⟩) NB427_431.out _).trans (hHeld.2.2.2.2.2.2.2.2.2.2.2.2.1)),((cell_far (p:=⟨gb431,_,none⟩) NB427_431.out _).trans (hHeld.2.2.2.2.2.2.2.2.2.2.2.2.2.1)),((cell_far (p:=⟨gb431,_,none⟩) NB427_431.out _).trans (hHeld.2.2.2.2.2.2.2.2.2.2.2.2.2.2.1)),((cell_far (p:=⟨gb431,_,none⟩) NB427_431.out _).trans (hHeld.2.2.2.2.2.2.2.2.2.2.2.2.2.2.2))⟩ (fun hHeld => ?_);clear hK K;refine done_ (done_of HT_.out (by kernel_rfl)) ?_
                      try go_wp2
                      have n0_ : Aside0 ((w61.setCell ⟨gb431,3,none⟩ (.int .i64 t438)).heap[gb426]? = some (.cells #[.int .i64 a0_0,.int .i64 a0_1,.int .i64 a0_2,.int .i64 a0_3,.int .i64 a0_4,.int .i64 a0_5,.int .i64 a0_6,.int .i64 a0_7] 41 (0,0))):=⟨by (with_reducible repeat (first|refine bn ?_ _|refine bd ?_|refine ba ?_ _|refine bf ?_ NB426_431.out _));exact BK426.out⟩;have n1_ : Aside0 ((w61.setCell ⟨gb431,3,none⟩ (.int .i64 t438)).heap[gb427]? = some (.cells #[.int .i64 a1_0,.int .i64 a1_1,.int .i64 a1_2,.int .i64 a1_3,.int .i64 a1_4,.int .i64 a1_5,.int .i64 a1_6,.int .i64 a1_7] 41 (0,0))):=⟨by (with_reducible repeat (first|refine bn ?_ _|refine bd ?_|refine ba ?_ _|refine bf ?_ NB427_431.out _));exact BK427.out⟩;have n2_ : Aside0 ((w61.setCell ⟨gb431,3,none⟩ (.int .i64 t438)).heap[gb428]? = some (.cells #[.int .i64 0,.int .i64 0,.int .i64 0,.int .i64 0,.int .i64 0,.int .i64 0,.int .i64 0,.int .i64 0] 41 (0,0))):=⟨by (with_reducible repeat (first|refine bn ?_ _|refine bd ?_|refine ba ?_ _|refine bf ?_ NB428_431.out _));exact BK428.out⟩;have n3_ : Aside0 ((w61.setCell ⟨gb431,3,none⟩ (.int .i64 t438)).heap[gb431]? = some (.cells #[.int .i64 x432000_2,.int .i64 x432001_2,.int .i64 x432002_2,.int .i64 t438,.int .i64 x432004_2,.int .i64 x432005_2,.int .i64 x432006_2,.int .i64 x432007_2] 41 (0,0))):=⟨by (with_reducible repeat (first|refine bn ?_ _|refine bd ?_|refine ba ?_ _));refine bp (cs:=#[.int .i64 x432000_2,.int .i64 x432001_2,.int .i64 x432002_2,.int .i64 x432003_2,.int .i64 x432004_2,.int .i64 x432005_2,.int .i64 x432006_2,.int .i64 x432007_2]) ?_ 3 _ rfl;(with_reducible repeat (first|refine bn ?_ _|refine bd ?_|refine ba ?_ _));exact BK431.out⟩;have n4_ : Aside0 (Below w.heap.size w (w61.setCell ⟨gb431,3,none⟩ (.int .i64 t438))):=⟨by repeat (first|(with_reducible first|exact HB.out|apply sa|apply sn|apply sd|refine sy ?_ (by assumption))|exact HB.out)⟩;(try clear BK426);(try clear BK427);(try clear BK428);(try clear BK431);(try clear HB);generalize (w61.setCell ⟨gb431,3,none⟩ (.int .i64 t438)) = w63 at n0_ n1_ n2_ n3_ n4_ ⊢;have BK426:=n0_;have BK427:=n1_;have BK428:=n2_;have BK431:=n3_;have HB:=n4_;clear n0_ n1_ n2_ n3_ n4_;replace BK426:=am (bd BK426.out);replace BK427:=am (bd BK427.out);replace BK428:=am (bd BK428.out);replace BK431:=am (bd BK431.out);replace HB:=am (sd HB.out);refine start_ (n:=20) (S:=fun w' => w'.cell? ⟨gb427,0,none⟩ = some (.int .i64 a1_0) ∧ w'.cell? ⟨gb427,1,none⟩ = some (.int .i64 a1_1) ∧ w'.cell? ⟨gb427,2,none⟩ = some (.int .i64 a1_2) ∧ w'.cell? ⟨gb427,3,none⟩ = some (.int .i64 a1_3) ∧ w'.cell? ⟨gb427,4,none⟩ = some (.int .i64 a1_4) ∧ w'.cell? ⟨gb427,5,none⟩ = some (.int .i64 a1_5) ∧ w'.cell? ⟨gb427,6,none⟩ = some (.int .i64 a1_6) ∧ w'.cell? ⟨gb427,7,none⟩ = some (.int .i64 a1_7) ∧ w'.cell? ⟨gb426,0,none⟩ = some (.int .i64 a0_0) ∧ w'.cell? ⟨gb426,1,none⟩ = some (.int .i64 a0_1) ∧ w'.cell? ⟨gb426,2,none⟩ = some (.int .i64 a0_2) ∧ w'.cell? ⟨gb426,3,none⟩ = some (.int .i64 a0_3) ∧ w'.cell? ⟨gb426,4,none⟩ = some (.int .i64 a0_4) ∧ w'.cell? ⟨gb426,5,none⟩ = some (.int .i64 a0_5) ∧ w'.cell? ⟨gb426,6,none⟩ = some (.int .i64 a0_6) ∧ w'.cell? ⟨gb426,7,none⟩ = some (.int .i64 a0_7)) (ds:=[]) #[false,false,false,false,false,false,false,false,false,false,false,false,false,false,false,false,false,false,false,false] (by kernel_rfl) rfl rfl ⟨(bc BK427.out 0).trans rfl,(bc BK427.out 1).trans rfl,(bc BK427.out 2).trans rfl,(bc BK427.out 3).trans rfl,(bc BK427.out 4).trans rfl,(bc BK427.out 5).trans rfl,(bc BK427.out 6).trans rfl,(bc BK427.out 7).trans rfl,(bc BK426.out 0).trans rfl,(bc BK426.out 1).trans rfl,(bc BK426.out 2).trans rfl,(bc BK426.out 3).trans rfl,(bc BK426.out 4).trans rfl,(bc BK426.out 5).trans rfl,(bc BK426.out 6).trans rfl,(bc BK426.out 7).trans rfl⟩ (fun hHeld => ?_);refine with_tabW affine_ComposeCx.tab8 affine_ComposeCx.bits8 (fun HT_ HW_ => ?_);generalize w63.drew = w64 at BK426 BK427 BK428 BK431 HB hHeld ⊢;refine pure_ (i:=0) (N:=some 33) (v:=?_) (a':=?_) #[true,false,false,false,false,false,false,false,false,false,false,false,false,false,false,false,false,false,false,false] rfl rfl (any_of HT_.out (by kernel_rfl)) (fun _ _ _ h => h) (Or.inl ⟨by rfl,?_⟩) ?_ ?_
                      rotate_left
                      · intro w'
                        go_simp
                        with_reducible rfl
                      rotate_left
                      · simp only [Act.put,q1,q2,q3,i64_w,i32_w]
                        rfl
                      refine pure_ (i:=1) (N:=some 34) (v:=?_) (a':=?_) #[true,true,false,false,false,false,false,false,false,false,false,false,false,false,false,false,false,false,false,false] rfl rfl (any_of HT_.out (by kernel_rfl)) (fun _ _ _ h => h) (Or.inl ⟨by rfl,?_⟩) ?_ ?_
                      rotate_left
                      · intro w'
                        go_simp
                        with_reducible rfl
                      rotate_left
                      · simp only [Act.put,q1,q2,q3,i64_w,i32_w]
                        rfl
                      refine pure_ (i:=2) (N:=some 35) (v:=?_) (a':=?_) #[true,true,true,false,false,false,false,false,false,false,false,false,false,false,false,false,false,false,false,false] rfl rfl (any_of HT_.out (by kernel_rfl)) (fun _ _ _ h => h) (Or.inl ⟨by rfl,?_⟩) ?_ ?_
                      rotate_left
                      · intro w'
                        go_simp
                        with_reducible rfl
                      rotate_left
                      · simp only [Act.put,q1,q2,q3,i64_w,i32_w]
                        rfl
                      refine pure_ (i:=3) (N:=some 36) (v:=?_) (a':=?_) #[true,true,true,true,false,false,false,false,false,false,false,false,false,false,false,false,false,false,false,false] rfl rfl (any_of HT_.out (by kernel_rfl)) (fun _ _ _ h => h) (Or.inl ⟨by rfl,?_⟩) ?_ ?_
                      rotate_left
                      · intro w'
                        go_simp
                        with_reducible rfl
                      rotate_left
                      · simp only [Act.put,q1,q2,q3,i64_w,i32_w]
                        rfl
                      refine pure_ (i:=5) (N:=some 38) (v:=?_) (a':=?_) #[true,true,true,true,false,true,false,false,false,false,false,false,false,false,false,false,false,false,false,false] rfl rfl (any_of HT_.out (by kernel_rfl)) (fun _ _ _ h => h) (Or.inl ⟨by rfl,?_⟩) ?_ ?_
                      rotate_left
                      · intro w'
                        go_simp
                        with_reducible rfl
                      rotate_left
                      · simp only [Act.put,q1,q2,q3,i64_w,i32_w]
                        rfl
                      refine pure_ (i:=6) (N:=some 39) (v:=?_) (a':=?_) #[true,true,true,true,false,true,true,false,false,false,false,false,false,false,false,false,false,false,false,false] rfl rfl (any_of HT_.out (by kernel_rfl)) (fun _ _ _ h => h) (Or.inl ⟨by rfl,?_⟩) ?_ ?_
                      rotate_left
                      · intro w'
                        go_simp
                        with_reducible rfl
                      rotate_left
                      · simp only [Act.put,q1,q2,q3,i64_w,i32_w]
                        rfl
                      refine pure_ (i:=7) (N:=some 40) (v:=?_) (a':=?_) #[true,true,true,true,false,true,true,true,false,false,false,false,false,false,false,false,false,false,false,false] rfl rfl (any_of HT_.out (by kernel_rfl)) (fun _ _ _ h => h) (Or.inl ⟨by rfl,?_⟩) ?_ ?_
                      rotate_left
                      · intro w'
                        go_simp
                        with_reducible rfl
                      rotate_left
                      · simp only [Act.put,q1,q2,q3,i64_w,i32_w]
                        rfl
                      refine pure_ (i:=11) (N:=some 44) (v:=?_) (a':=?_) #[true,true,true,true,false,true,true,true,false,false,false,true,false,false,false,false,false,false,false,false] rfl rfl (any_of HT_.out (by kernel_rfl)) (fun _ _ _ h => h) (Or.inl ⟨by rfl,?_⟩) ?_ ?_
                      rotate_left
                      · intro w'
                        go_simp
                        with_reducible rfl
                      rotate_left
                      · simp only [Act.put,q1,q2,q3,i64_w,i32_w]
                        rfl
                      refine pure_ (i:=12) (N:=some 45) (v:=?_) (a':=?_) #[true,true,true,true,false,true,true,true,false,false,false,true,true,false,false,false,false,false,false,false] rfl rfl (any_of HT_.out (by kernel_rfl)) (fun _ _ _ h => h) (Or.inl ⟨by rfl,?_⟩) ?_ ?_
                      rotate_left
                      · intro w'
                        go_simp
                        with_reducible rfl
                      rotate_left
                      · simp only [Act.put,q1,q2,q3,i64_w,i32_w]
                        rfl
                      refine pure_ (i:=13) (N:=some 46) (v:=?_) (a':=?_) #[true,true,true,true,false,true,true,true,false,false,false,true,true,true,false,false,false,false,false,false] rfl rfl (any_of HT_.out (by kernel_rfl)) (fun _ _ _ h => h) (Or.inl ⟨by rfl,?_⟩) ?_ ?_
                      rotate_left
                      · intro w'
                        go_simp
                        with_reducible rfl
                      rotate_left
                      · simp only [Act.put,q1,q2,q3,i64_w,i32_w]
                        rfl
                      refine pure_ (i:=17) (N:=some 50) (v:=?_) (a':=?_) #[true,true,true,true,false,true,true,true,false,false,false,true,true,true,false,false,false,true,false,false] rfl rfl (any_of HT_.out (by kernel_rfl)) (fun _ _ _ h => h) (Or.inl ⟨by rfl,?_⟩) ?_ ?_
                      rotate_left
                      · intro w'
                        go_simp
                        with_reducible rfl
                      rotate_left
                      · simp only [Act.put,q1,q2,q3,i64_w,i32_w]
                        rfl
                      refine take_ (i:=4) (N:=some 37) (v:=?_) (a':=?_) #[true,true,true,true,true,true,true,true,false,false,false,true,true,true,false,false,false,true,false,false] rfl rfl (take_ofW HT_.out HW_.out (by kernel_rfl)) (fun _ _ _ h => h) (Or.inl ⟨by rfl,?_⟩) hHeld ?_ ?_
                      rotate_left
                      · rintro w' ⟨s0,s1,s2,s3,s4,s5,s6,s7,s8,s9,s10,s11,s12,s13,s14,s15⟩
                        go_simp
                        with_reducible rfl
                      rotate_left
                      · simp only [Act.put,q1,q2,q3,i64_w,i32_w]
                        rfl
                      refine take_ (i:=8) (N:=some 41) (v:=?_) (a':=?_) #[true,true,true,true,true,true,true,true,true,false,false,true,true,true,false,false,false,true,false,false] rfl rfl (take_ofW HT_.out HW_.out (by kernel_rfl)) (fun _ _ _ h => h) (Or.inl ⟨by rfl,?_⟩) hHeld ?_ ?_
                      rotate_left
                      · rintro w' ⟨s0,s1,s2,s3,s4,s5,s6,s7,s8,s9,s10,s11,s12,s13,s14,s15⟩
                        go_simp
                        with_reducible rfl
                      rotate_left
                      · simp only [Act.put,q1,q2,q3,i64_w,i32_w]
                        rfl
                      refine pure_ (i:=9) (N:=some 42) (v:=?_) (a':=?_) #[true,true,true,true,true,true,true,true,true,true,false,true,true,true,false,false,false,true,false,false] rfl rfl (any_of HT_.out (by kernel_rfl)) (fun _ _ _ h => h) (Or.inl ⟨by rfl,?_⟩) ?_ ?_
                      rotate_left
                      · intro w'
                        go_simp
                        with_reducible rfl
                      rotate_left
                      · simp only [Act.put,q1,q2,q3,i64_w,i32_w]
                        rfl
                      refine pure_ (i:=10) (N:=some 43) (v:=?_) (a':=?_) #[true,true,true,true,true,true,true,true,true,true,true,true,true,true,false,false,false,true,false,false] rfl rfl (any_of HT_.out (by kernel_rfl)) (fun _ _ _ h => h) (Or.inl ⟨by rfl,?_⟩) ?_ ?_
                      rotate_left
                      · intro w'
                        go_simp
                        with_reducible rfl
                      rotate_left
                      · simp only [Act.put,q1,q2,q3,i64_w,i32_w]
                        rfl
                      refine take_ (i:=14) (N:=some 47) (v:=?_) (a':=?_) #[true,true,true,true,true,true,true,true,true,true,true,true,true,true,true,false,false,true,false,false] rfl rfl (take_ofW HT_.out HW_.out (by kernel_rfl)) (fun _ _ _ h => h) (Or.inl ⟨by rfl,?_⟩) hHeld ?_ ?_
                      rotate_left
                      · rintro w' ⟨s0,s1,s2,s3,s4,s5,s6,s7,s8,s9,s10,s11,s12,s13,s14,s15⟩
                        go_simp
                        with_reducible rfl
                      rotate_left
                      · simp only [Act.put,q1,q2,q3,i64_w,i32_w]
                        rfl
                      refine pure_ (i:=15) (N:=some 48) (v:=?_) (a':=?_) #[true,true,true,true,true,true,true,true,true,true,true,true,true,true,true,true,false,true,false,false] rfl rfl (any_of HT_.out (by kernel_rfl)) (fun _ _ _ h => h) (Or.inl ⟨by rfl,?_⟩) ?_ ?_
                      rotate_left
                      · intro w'
                        go_simp
                        with_reducible rfl
                      rotate_left
                      · simp only [Act.put,q1,q2,q3,i64_w,i32_w]
                        rfl
                      refine one_ (i:=16) (N:=some 49) #[true,true,true,true,true,true,true,true,true,true,true,true,true,true,true,true,true,true,false,false] rfl rfl (one_of HT_.out (by kernel_rfl)) (by decide) (fun K hK => ?_);refine goes_ Try.func43 (by kernel_rfl) rfl #[.int .i64 (wrap64 (((wrap64 (a1_7 * a0_3)) / 256) + a0_7)),.int .i64 (-255),.int .i64 255] (by rfl) rfl rfl (by (try simp only [List.map_toArray,List.map_cons,List.map_nil]);first|done|rfl|(simp only [List.length_drop,List.length_take];rfl)) ?_
                      with_reducible refine (affine_clamp.calls (wrap64 (((wrap64 (a1_7 * a0_3)) / 256) + a0_7)) (-255) 255 t439 _ A59.out).mono ?_
                      rintro e w65 ⟨rfl,hb⟩
                      refine ⟨_,rfl,?_⟩;replace BK426:=am (bw (by exact BK426.out) hb);replace BK427:=am (bw (by exact BK427.out) hb);replace BK428:=am (bw (by exact BK428.out) hb);replace BK431:=am (bw (by exact BK431.out) hb);replace HB:=am (ss (by repeat (first|(with_reducible first|exact HB.out|apply sa|apply sn|apply sd|refine sy ?_ (by assumption))|exact HB.out)) hb);(try clear hb);(try clear hb2);(try clear hk);(try clear hi);refine hK.out _ _ ⟨(bc BK427.out 0).trans rfl,(bc BK427.out 1).trans rfl,(bc BK427.out 2).trans rfl,(bc BK427.out 3).trans rfl,(bc BK427.out 4).trans rfl,(bc BK427.out 5).trans rfl,(bc BK427.out 6).trans rfl,(bc BK427.out 7).trans rfl,(bc BK426.out 0).trans rfl,(bc BK426.out 1).trans rfl,(bc BK426.out 2).trans rfl,(bc BK426.out 3).trans rfl,(bc BK426.out 4).trans rfl,(bc BK426.out 5).trans rfl,(bc BK426.out 6).trans rfl,(bc BK426.out 7).trans rfl⟩ (fun hHeld => ?_);clear hK K;refine norm_ (a':=?_) ?_ ?_
                      rotate_left
                      · show Act.put _ (some 49) _ = _
                        simp only [Act.put,q1,q2,q3,i64_w,i32_w]
                        rfl
                      refine pure_ (i:=18) (N:=some 51) (v:=?_) (a':=?_) #[true,true,true,true,true,true,true,true,true,true,true,true,true,true,true,true,true,true,true,false] rfl rfl (any_of HT_.out (by kernel_rfl)) (fun _ _ _ h => h) (Or.inl ⟨by rfl,?_⟩) ?_ ?_
                      rotate_left
                      · intro w'
                        go_simp
                        with_reducible rfl
                      rotate_left
                      · simp only [Act.put,q1,q2,q3,i64_w,i32_w]
                        rfl
                      refine one_ (i:=19) (N:=none) #[true,true,true,true,true,true,true,true,true,true,true,true,true,true,true,true,true,true,true,true] rfl rfl (one_of HT_.out (by kernel_rfl)) (by decide) (fun K hK => ?_);have hs66 : w65.cell? ⟨gb431,7,none⟩ = some (.int .i64 x432007_2):=(bc BK431.out 7).trans rfl;have hfs66:=bz BK431.out 7;have hns66_0:=NB426_431.out;have hns66_1:=NB427_431.out;have hns66_2:=NB428_431.out;have hms66_0:=NB431_426.out;have hms66_1:=NB431_427.out;have hms66_2:=NB431_428.out;refine skip_ (w1:=?_) (by rfl) rfl ?_ ?_
                      rotate_left
                      · go_simp
                        rfl
                      refine hK.out _ _ ⟨((cell_far (p:=⟨gb431,_,none⟩) NB427_431.out _).trans (hHeld.1)),((cell_far (p:=⟨gb431,_,none⟩) NB427_431.out _).trans (hHeld.2.1)),((cell_far (p:=⟨gb431,_,none⟩) NB427_431.out _).trans (hHeld.2.2.1)),((cell_far (p:=⟨gb431,_,none⟩) NB427_431.out _).trans (hHeld.2.2.2.1)),((cell_far (p:=⟨gb431,_,none⟩) NB427_431.out _).trans (hHeld.2.2.2.2.1)),((cell_far (p:=⟨gb431,_,none⟩) NB427_431.out _).trans (hHeld.2.2.2.2.2.1)),((cell_far (p:=⟨gb431,_,none⟩) NB427_431.out _).trans (hHeld.2.2.2.2.2.2.1)),((cell_far (p:=⟨gb431,_,none⟩) NB427_431.out _).trans (hHeld.2.2.2.2.2.2.2.1)),((cell_far (p:=⟨gb431,_,none⟩) NB426_431.out _).trans (hHeld.2.2.2.2.2.2.2.2.1)),((cell_far (p:=⟨gb431,_,none⟩) NB426_431.out _).trans (hHeld.2.2.2.2.2.2.2.2.2.1)),((cell_far (p:=⟨gb431,_,none⟩) NB426_431.out _).trans (hHeld.2.2.2.2.2.2.2.2.2.2.1)),((cell_far (p:=⟨gb431,_,none⟩) NB426_431.out _).trans (hHeld.2.2.2.2.2.2.2.2.2.2.2.1)),((cell_far (p:=⟨gb431,_,none⟩) NB426_431.out _).trans (hHeld.2.2.2.2.2.2.2.2.2.2.2.2.1)),((cell_far (p:=⟨gb431,_,none⟩) NB426_431.out _).trans (hHeld.2.2.2.2.2.2.2.2.2.2.2.2.2.1)),((cell_far (p:=⟨gb431,_,none⟩) NB426_431.out _).trans (hHeld.2.2.2.2.2.2.2.2.2.2.2.2.2.2.1)),((cell_far (p:=⟨gb431,_,none⟩) NB426_431.out _).trans (hHeld.2.2.2.2.2.2.2.2.2.2.2.2.2.2.2))⟩ (fun hHeld => ?_);clear hK K;refine done_ (done_of HT_.out (by kernel_rfl)) ?_
                      try go_wp2
                      go_roundg k2
                      case measure => have:=HJ2.out;have:=HK2.out;omega
                      case rel => exact ⟨(3 + 1),(x432000_2),(x432001_2),(x432002_2),(t438),(x432004_2),(x432005_2),(x432006_2),(t439),(by first|rfl|(simp;done)|(simp [*];done)),H',⟨by have:=HJ2.out;have:=HK2.out;omega⟩,⟨by (with_reducible repeat (first|refine bn ?_ _|refine bd ?_|refine ba ?_ _|refine bf ?_ NB426_431.out _));exact BK426.out⟩,⟨by (with_reducible repeat (first|refine bn ?_ _|refine bd ?_|refine ba ?_ _|refine bf ?_ NB427_431.out _));exact BK427.out⟩,⟨by (with_reducible repeat (first|refine bn ?_ _|refine bd ?_|refine ba ?_ _|refine bf ?_ NB428_431.out _));exact BK428.out⟩,⟨by (with_reducible repeat (first|refine bn ?_ _|refine bd ?_|refine ba ?_ _));refine bp (cs:=#[.int .i64 x432000_2,.int .i64 x432001_2,.int .i64 x432002_2,.int .i64 t438,.int .i64 x432004_2,.int .i64 x432005_2,.int .i64 x432006_2,.int .i64 x432007_2]) ?_ 7 _ rfl;(with_reducible repeat (first|refine bn ?_ _|refine bd ?_|refine ba ?_ _));exact BK431.out⟩,⟨by repeat (first|(with_reducible first|exact HB.out|apply sa|apply sn|apply sd|refine sy ?_ (by assumption))|exact HB.out)⟩⟩
                    · rw [if_neg c57] at H
                      exact absurd H (by simp)
            · rw [if_neg c26] at H
              have c26b0 : decide (x16_2 < 4) = false:=decide_eq_false c26;clear c26;simp only [Option.some.injEq,Prod.mk.injEq] at H;obtain ⟨rfl,rfl,rfl,rfl,rfl,rfl,rfl,rfl⟩:=H;have hnb67:=NB431_426.out;have hnc67:=NB426_431.out;have hnb68:=NB431_427.out;have hnc68:=NB427_431.out;have hnb69:=NB431_428.out;have hnc69:=NB428_431.out;have hcz70_0 : wr.cell? ⟨gb431,0,none⟩ = some (.int .i64 x432000_2):=(bc BK431.out 0).trans rfl;have hcz70_1 : wr.cell? ⟨gb431,1,none⟩ = some (.int .i64 x432001_2):=(bc BK431.out 1).trans rfl;have hcz70_2 : wr.cell? ⟨gb431,2,none⟩ = some (.int .i64 x432002_2):=(bc BK431.out 2).trans rfl;have hcz70_3 : wr.cell? ⟨gb431,3,none⟩ = some (.int .i64 x432003_2):=(bc BK431.out 3).trans rfl;have hcz70_4 : wr.cell? ⟨gb431,4,none⟩ = some (.int .i64 x432004_2):=(bc BK431.out 4).trans rfl;have hcz70_5 : wr.cell? ⟨gb431,5,none⟩ = some (.int .i64 x432005_2):=(bc BK431.out 5).trans rfl;have hcz70_6 : wr.cell? ⟨gb431,6,none⟩ = some (.int .i64 x432006_2):=(bc BK431.out 6).trans rfl;have hcz70_7 : wr.cell? ⟨gb431,7,none⟩ = some (.int .i64 x432007_2):=(bc BK431.out 7).trans rfl;have hfz70_0:=bz BK431.out 0;have hfz70_1:=bz BK431.out 1;have hfz70_2:=bz BK431.out 2;have hfz70_3:=bz BK431.out 3;have hfz70_4:=bz BK431.out 4;have hfz70_5:=bz BK431.out 5;have hfz70_6:=bz BK431.out 6;have hfz70_7:=bz BK431.out 7;have hnb71:=NB428_426.out;have hnc71:=NB426_428.out;have hnb72:=NB428_427.out;have hnc72:=NB427_428.out;have hcz73_0 : wr.cell? ⟨gb428,0,none⟩ = some (.int .i64 0):=(bc BK428.out 0).trans rfl;have hcz73_1 : wr.cell? ⟨gb428,1,none⟩ = some (.int .i64 0):=(bc BK428.out 1).trans rfl;have hcz73_2 : wr.cell? ⟨gb428,2,none⟩ = some (.int .i64 0):=(bc BK428.out 2).trans rfl;have hcz73_3 : wr.cell? ⟨gb428,3,none⟩ = some (.int .i64 0):=(bc BK428.out 3).trans rfl;have hcz73_4 : wr.cell? ⟨gb428,4,none⟩ = some (.int .i64 0):=(bc BK428.out 4).trans rfl;have hcz73_5 : wr.cell? ⟨gb428,5,none⟩ = some (.int .i64 0):=(bc BK428.out 5).trans rfl;have hcz73_6 : wr.cell? ⟨gb428,6,none⟩ = some (.int .i64 0):=(bc BK428.out 6).trans rfl;have hcz73_7 : wr.cell? ⟨gb428,7,none⟩ = some (.int .i64 0):=(bc BK428.out 7).trans rfl;have hfz73_0:=bz BK428.out 0;have hfz73_1:=bz BK428.out 1;have hfz73_2:=bz BK428.out 2;have hfz73_3:=bz BK428.out 3;have hfz73_4:=bz BK428.out 4;have hfz73_5:=bz BK428.out 5;have hfz73_6:=bz BK428.out 6;have hfz73_7:=bz BK428.out 7
              go_wp2
              refine bodyPost_ret (results_cell_row rfl _ _ gb428 41 #[.int .i64 x432000_2,.int .i64 x432001_2,.int .i64 x432002_2,.int .i64 x432003_2,.int .i64 x432004_2,.int .i64 x432005_2,.int .i64 x432006_2,.int .i64 x432007_2] (0,0) _ rfl (by (with_reducible repeat (first|refine bn ?_ _|refine bd ?_|refine ba ?_ _));refine bp (cs:=#[.int .i64 x432000_2,.int .i64 x432001_2,.int .i64 x432002_2,.int .i64 x432003_2,.int .i64 x432004_2,.int .i64 x432005_2,.int .i64 x432006_2,.int .i64 0]) ?_ 7 _ rfl;(with_reducible repeat (first|refine bn ?_ _|refine bd ?_|refine ba ?_ _));refine bp (cs:=#[.int .i64 x432000_2,.int .i64 x432001_2,.int .i64 x432002_2,.int .i64 x432003_2,.int .i64 x432004_2,.int .i64 x432005_2,.int .i64 0,.int .i64 0]) ?_ 6 _ rfl;(with_reducible repeat (first|refine bn ?_ _|refine bd ?_|refine ba ?_ _));refine bp (cs:=#[.int .i64 x432000_2,.int .i64 x432001_2,.int .i64 x432002_2,.int .i64 x432003_2,.int .i64 x432004_2,.int .i64 0,.int .i64 0,.int .i64 0]) ?_ 5 _ rfl;(with_reducible repeat (first|refine bn ?_ _|refine bd ?_|refine ba ?_ _));refine bp (cs:=#[.int .i64 x432000_2,.int .i64 x432001_2,.int .i64 x432002_2,.int .i64 x432003_2,.int .i64 0,.int .i64 0,.int .i64 0,.int .i64 0]) ?_ 4 _ rfl;(with_reducible repeat (first|refine bn ?_ _|refine bd ?_|refine ba ?_ _));refine bp (cs:=#[.int .i64 x432000_2,.int .i64 x432001_2,.int .i64 x432002_2,.int .i64 0,.int .i64 0,.int .i64 0,.int .i64 0,.int .i64 0]) ?_ 3 _ rfl;(with_reducible repeat (first|refine bn ?_ _|refine bd ?_|refine ba ?_ _));refine bp (cs:=#[.int .i64 x432000_2,.int .i64 x432001_2,.int .i64 0,.int .i64 0,.int .i64 0,.int .i64 0,.int .i64 0,.int .i64 0]) ?_ 2 _ rfl;(with_reducible repeat (first|refine bn ?_ _|refine bd ?_|refine ba ?_ _));refine bp (cs:=#[.int .i64 x432000_2,.int .i64 0,.int .i64 0,.int .i64 0,.int .i64 0,.int .i64 0,.int .i64 0,.int .i64 0]) ?_ 1 _ rfl;(with_reducible repeat (first|refine bn ?_ _|refine bd ?_|refine ba ?_ _));refine bp (cs:=#[.int .i64 0,.int .i64 0,.int .i64 0,.int .i64 0,.int .i64 0,.int .i64 0,.int .i64 0,.int .i64 0]) ?_ 0 _ rfl;(with_reducible repeat (first|refine bn ?_ _|refine bd ?_|refine ba ?_ _));exact BK428.out) Try.underlying41 rfl (by kernel_rfl)) rfl ?_
              exact ⟨by first|rfl|(simp [errW_none,errW_some] <;> rfl)|(simp [*,errW_none,errW_some] <;> rfl),by repeat (first|(with_reducible first|exact HB.out|apply sa|apply sn|apply sd|refine sy ?_ (by assumption))|exact HB.out)⟩

end Go.Proofs.Ytaognlikgbcejaa.P
