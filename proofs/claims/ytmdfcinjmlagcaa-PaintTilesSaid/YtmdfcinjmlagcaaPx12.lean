/- Printed by printx.py (wip/tool) out of the translation: plain functions that tell what the program answers,and the proofs that the program comes to these answers,for all arguments of their kinds. Lean checks it. -/
import Derived.Test.YtmdfcinjmlagcaaShort
import Derived.Test.YtmdfcinjmlagcaaPx0
import Derived.Test.YtmdfcinjmlagcaaPx4
import Derived.Test.YtmdfcinjmlagcaaPx11
namespace Go.Proofs.Ytmdfcinjmlagcaa.P
open Go.RowKit Go.Proofs.YtmdfcinjmlagcaaW.PrintWords Go.Proofs.YtmdfcinjmlagcaaW.PrintLast Go.Proofs.YtmdfcinjmlagcaaW.PrintMore
attribute [local go_sem] max2_int min2_int max_two min_two max_three min_three max_four min_four max_five min_five max_six min_six   -- for this text's walks alone
set_option linter.unusedVariables false
set_option linter.unusedSimpArgs false

/-! ### affine_Color: function 29 -/
mutual
def affine_Color.j0 : Nat → Bool → Int → Int → Int → Int → Int → Int → Int → Int → Int → Int → Int → Int → Option (Int × Int × Int × Int)
  | 0,_,_,_,_,_,_,_,_,_,_,_,_,_ => none
  | k + 1,x15,x224000,x224001,x224002,x224003,x224004,x224005,x224006,x224007,x225000,x225001,x225002,x225003 => if x15 = true then (some (0,0,0,0)) else (affine_Color.l0 k 0 x225000 x225001 x225002 x225003 x224000 x224001 x224002 x224003 x224004 x224005 x224006 x224007 x225000 x225001 x225002 x225003)
def affine_Color.l0 : Nat → Int → Int → Int → Int → Int → Int → Int → Int → Int → Int → Int → Int → Int → Int → Int → Int → Int → Option (Int × Int × Int × Int)
  | 0,_,_,_,_,_,_,_,_,_,_,_,_,_,_,_,_,_ => none
  | k + 1,x27,x808,x809,x810,x811,x224000,x224001,x224002,x224003,x224004,x224005,x224006,x224007,x229000,x229001,x229002,x229003 => if x27 < 4 then (if x27 = 0 then ((affine_clamp.f (wrap64 (((wrap64 (x808 * x224000)) / 256) + x224004)) 0 255).bind fun t229 => (affine_Color.l0 k (0 + 1) x808 x809 x810 x811 x224000 x224001 x224002 x224003 x224004 x224005 x224006 x224007 t229 x229001 x229002 x229003)) else (if x27 = 1 then ((affine_clamp.f (wrap64 (((wrap64 (x809 * x224001)) / 256) + x224005)) 0 255).bind fun t230 => (affine_Color.l0 k (1 + 1) x808 x809 x810 x811 x224000 x224001 x224002 x224003 x224004 x224005 x224006 x224007 x229000 t230 x229002 x229003)) else (if x27 = 2 then ((affine_clamp.f (wrap64 (((wrap64 (x810 * x224002)) / 256) + x224006)) 0 255).bind fun t231 => (affine_Color.l0 k (2 + 1) x808 x809 x810 x811 x224000 x224001 x224002 x224003 x224004 x224005 x224006 x224007 x229000 x229001 t231 x229003)) else (if x27 = 3 then ((affine_clamp.f (wrap64 (((wrap64 (x811 * x224003)) / 256) + x224007)) 0 255).bind fun t232 => (affine_Color.l0 k (3 + 1) x808 x809 x810 x811 x224000 x224001 x224002 x224003 x224004 x224005 x224006 x224007 x229000 x229001 x229002 t232)) else (none))))) else (some (x229000,x229001,x229002,x229003))
end
def affine_Color.f (k : Nat) (a0_0 : Int) (a0_1 : Int) (a0_2 : Int) (a0_3 : Int) (a0_4 : Int) (a0_5 : Int) (a0_6 : Int) (a0_7 : Int) (a1_0 : Int) (a1_1 : Int) (a1_2 : Int) (a1_3 : Int) : Option (Int × Int × Int × Int):=(field_RightCx.f k a0_0 a0_1 a0_2 a0_3 a0_4 a0_5 a0_6 a0_7).bind fun t226 => (if t226 = true then ((field_RightRGBA.f k a1_0 a1_1 a1_2 a1_3).bind fun t227 => (affine_Color.j0 k (!t227) a0_0 a0_1 a0_2 a0_3 a0_4 a0_5 a0_6 a0_7 a1_0 a1_1 a1_2 a1_3)) else (affine_Color.j0 k true a0_0 a0_1 a0_2 a0_3 a0_4 a0_5 a0_6 a0_7 a1_0 a1_1 a1_2 a1_3))
theorem affine_Color.mono_l : ∀ k,(∀ y0 y1 y2 y3 y4 y5 y6 y7 y8 y9 y10 y11 y12,LeO (affine_Color.j0 k y0 y1 y2 y3 y4 y5 y6 y7 y8 y9 y10 y11 y12) (affine_Color.j0 (k + 1) y0 y1 y2 y3 y4 y5 y6 y7 y8 y9 y10 y11 y12)) ∧ (∀ y0 y1 y2 y3 y4 y5 y6 y7 y8 y9 y10 y11 y12 y13 y14 y15 y16,LeO (affine_Color.l0 k y0 y1 y2 y3 y4 y5 y6 y7 y8 y9 y10 y11 y12 y13 y14 y15 y16) (affine_Color.l0 (k + 1) y0 y1 y2 y3 y4 y5 y6 y7 y8 y9 y10 y11 y12 y13 y14 y15 y16))
  | 0 => ⟨fun _ _ _ _ _ _ _ _ _ _ _ _ _ r h => by simp [affine_Color.j0] at h,fun _ _ _ _ _ _ _ _ _ _ _ _ _ _ _ _ _ r h => by simp [affine_Color.l0] at h⟩
  | k + 1 => by
    obtain ⟨ih0,ih1⟩:=affine_Color.mono_l k;refine ⟨?_,?_⟩
    · intro y0 y1 y2 y3 y4 y5 y6 y7 y8 y9 y10 y11 y12
      unfold affine_Color.j0
      repeat' first
      | (with_reducible exact ih0 _ _ _ _ _ _ _ _ _ _ _ _ _)
      | (with_reducible exact ih1 _ _ _ _ _ _ _ _ _ _ _ _ _ _ _ _ _)
      | (with_reducible exact field_RightCx.mono _ _ _ _ _ _ _ _ _)
      | (with_reducible exact field_RightRGBA.mono _ _ _ _ _)
      | (with_reducible exact LeO.refl _)
      | (with_reducible exact LeO.none _)
      | (with_reducible refine LeO.ite ?_ ?_)
      | (with_reducible refine LeO.bind ?_ (fun _ => ?_))
      | exact ih0 _ _ _ _ _ _ _ _ _ _ _ _ _
      | exact ih1 _ _ _ _ _ _ _ _ _ _ _ _ _ _ _ _ _
      | exact field_RightCx.mono _ _ _ _ _ _ _ _ _
      | exact field_RightRGBA.mono _ _ _ _ _
      | exact LeO.none _
      | refine LeO.ite ?_ ?_
      | refine LeO.bind ?_ (fun _ => ?_)
    · intro y0 y1 y2 y3 y4 y5 y6 y7 y8 y9 y10 y11 y12 y13 y14 y15 y16
      unfold affine_Color.l0
      repeat' first
      | (with_reducible exact ih0 _ _ _ _ _ _ _ _ _ _ _ _ _)
      | (with_reducible exact ih1 _ _ _ _ _ _ _ _ _ _ _ _ _ _ _ _ _)
      | (with_reducible exact field_RightCx.mono _ _ _ _ _ _ _ _ _)
      | (with_reducible exact field_RightRGBA.mono _ _ _ _ _)
      | (with_reducible exact LeO.refl _)
      | (with_reducible exact LeO.none _)
      | (with_reducible refine LeO.ite ?_ ?_)
      | (with_reducible refine LeO.bind ?_ (fun _ => ?_))
      | exact ih0 _ _ _ _ _ _ _ _ _ _ _ _ _
      | exact ih1 _ _ _ _ _ _ _ _ _ _ _ _ _ _ _ _ _
      | exact field_RightCx.mono _ _ _ _ _ _ _ _ _
      | exact field_RightRGBA.mono _ _ _ _ _
      | exact LeO.none _
      | refine LeO.ite ?_ ?_
      | refine LeO.bind ?_ (fun _ => ?_)
theorem affine_Color.mono : ∀ a0 a1 a2 a3 a4 a5 a6 a7 a8 a9 a10 a11 k,LeO (affine_Color.f k a0 a1 a2 a3 a4 a5 a6 a7 a8 a9 a10 a11) (affine_Color.f (k + 1) a0 a1 a2 a3 a4 a5 a6 a7 a8 a9 a10 a11):=by
  intro a0 a1 a2 a3 a4 a5 a6 a7 a8 a9 a10 a11 k
  obtain ⟨ih0,ih1⟩:=affine_Color.mono_l k
  unfold affine_Color.f
  repeat' first
      | (with_reducible exact ih0 _ _ _ _ _ _ _ _ _ _ _ _ _)
      | (with_reducible exact ih1 _ _ _ _ _ _ _ _ _ _ _ _ _ _ _ _ _)
      | (with_reducible exact field_RightCx.mono _ _ _ _ _ _ _ _ _)
      | (with_reducible exact field_RightRGBA.mono _ _ _ _ _)
      | (with_reducible exact LeO.refl _)
      | (with_reducible exact LeO.none _)
      | (with_reducible refine LeO.ite ?_ ?_)
      | (with_reducible refine LeO.bind ?_ (fun _ => ?_))
      | exact ih0 _ _ _ _ _ _ _ _ _ _ _ _ _
      | exact ih1 _ _ _ _ _ _ _ _ _ _ _ _ _ _ _ _ _
      | exact field_RightCx.mono _ _ _ _ _ _ _ _ _
      | exact field_RightRGBA.mono _ _ _ _ _
      | exact LeO.none _
      | refine LeO.ite ?_ ?_
      | refine LeO.bind ?_ (fun _ => ?_)
def affine_Color.T7 : Bool × List (List Nat × List Nat):=(true,[([],[]),([],[]),([],[]),([],[]),([3,2],[2,3]),([4],[4]),([1,5],[1,5]),([6],[6]),([],[]),([],[]),([9,8],[8,9]),([10],[10]),([7,11],[7,11]),([12],[12]),([0,0,1,2,3,4,5,6,7,8,9,10,11,12,13],[0]),([14,13,13,0,1,2,3,4,5,6,7,8,9,10,11,12,13],[13,14])])
def affine_Color.B7 : List Nat:=[0,0,0,0,12,28,62,126,0,0,768,1792,4094,8190,16383,32767]
theorem affine_Color.tab7 : rtab .any (opsOf Try.f29 7) = affine_Color.T7:=by kernel_rfl
theorem affine_Color.bits7 : waitsOk affine_Color.T7.2 affine_Color.B7 = true:=by kernel_rfl
set_option maxHeartbeats 8000000 in
set_option maxRecDepth 100000 in
theorem affine_Color.calls (k : Nat) (a0_0 : Int) (a0_1 : Int) (a0_2 : Int) (a0_3 : Int) (a0_4 : Int) (a0_5 : Int) (a0_6 : Int) (a0_7 : Int) (a1_0 : Int) (a1_1 : Int) (a1_2 : Int) (a1_3 : Int) (r1 : Int) (r2 : Int) (r3 : Int) (r4 : Int) (w : World) (h : affine_Color.f k a0_0 a0_1 a0_2 a0_3 a0_4 a0_5 a0_6 a0_7 a1_0 a1_1 a1_2 a1_3 = some (r1,r2,r3,r4)) :
    Calls Try.prog 29 #[.agg #[.int .i64 a0_0,.int .i64 a0_1,.int .i64 a0_2,.int .i64 a0_3,.int .i64 a0_4,.int .i64 a0_5,.int .i64 a0_6,.int .i64 a0_7],.agg #[.int .i64 a1_0,.int .i64 a1_1,.int .i64 a1_2,.int .i64 a1_3]] w fun e w' => e = .returned (.agg #[.int .i64 r1,.int .i64 r2,.int .i64 r3,.int .i64 r4]) ∧ Below w.heap.size w w':=by
  have hu34:=Try.underlying34;have hu23:=Try.underlying23;have hu32:=Try.underlying32
  have hix32_0 : ∀ (c0_ c1_ c2_ c3_ : Value) (W : World),(Instr.index 32 (.agg #[c0_,c1_,c2_,c3_]) (.int .i64 0)).run Try.prog W = .ok (c0_) W:=fun c0_ c1_ c2_ c3_ W => by kernel_rfl
  have hix32_1 : ∀ (c0_ c1_ c2_ c3_ : Value) (W : World),(Instr.index 32 (.agg #[c0_,c1_,c2_,c3_]) (.int .i64 1)).run Try.prog W = .ok (c1_) W:=fun c0_ c1_ c2_ c3_ W => by kernel_rfl
  have hix32_2 : ∀ (c0_ c1_ c2_ c3_ : Value) (W : World),(Instr.index 32 (.agg #[c0_,c1_,c2_,c3_]) (.int .i64 2)).run Try.prog W = .ok (c2_) W:=fun c0_ c1_ c2_ c3_ W => by kernel_rfl
  have hix32_3 : ∀ (c0_ c1_ c2_ c3_ : Value) (W : World),(Instr.index 32 (.agg #[c0_,c1_,c2_,c3_]) (.int .i64 3)).run Try.prog W = .ok (c3_) W:=fun c0_ c1_ c2_ c3_ W => by kernel_rfl
  have HB:=am (Below.refl w.heap.size w);have H : ((field_RightCx.f k a0_0 a0_1 a0_2 a0_3 a0_4 a0_5 a0_6 a0_7).bind fun t226 => (if t226 = true then ((field_RightRGBA.f k a1_0 a1_1 a1_2 a1_3).bind fun t227 => (affine_Color.j0 k (!t227) a0_0 a0_1 a0_2 a0_3 a0_4 a0_5 a0_6 a0_7 a1_0 a1_1 a1_2 a1_3)) else (affine_Color.j0 k true a0_0 a0_1 a0_2 a0_3 a0_4 a0_5 a0_6 a0_7 a1_0 a1_1 a1_2 a1_3))) = some (r1,r2,r3,r4):=h;clear h;have HC3:=am H;clear H
  go_enter Try.func29,Try.ntmps29
  go_upto_region 1 with (first|((with_reducible refine gate_dst (N:=2) rfl ?_);refine box_event ?hg (N:=2) ?hd (cs:=#[.int .i64 a0_0,.int .i64 a0_1,.int .i64 a0_2,.int .i64 a0_3,.int .i64 a0_4,.int .i64 a0_5,.int .i64 a0_6,.int .i64 a0_7]) (t:=34) ?hr ?_;(case hd => rfl);(case hg => rfl);(case hr => first|(go_simp;done)|(go_simp;rfl));intro gb223 hg w4 hbox hb;have n0_:=am (ss (by repeat (first|(with_reducible first|exact HB.out|apply sa|apply sn|apply sd)|exact HB.out)) hb);have n1_:=am (hbox);have n2_:=am ((by rw [hg];exact (sz (by repeat (first|(with_reducible first|exact HB.out|apply sa|apply sn|apply sd)|exact HB.out))) : w.heap.size ≤ gb223));have n3_:=am ((by rw [hg];exact (sz (by repeat (first|(with_reducible first|exact HB.out|apply sa|apply sn|apply sd)|exact HB.out))) : w.heap.size ≤ gb223));clear HB;have HB:=n0_;have BK223:=n1_;have GW223:=n2_;have GE223:=n3_;clear n0_ n1_ n2_ n3_;clear hb hbox hg)|((with_reducible refine gate_dst (N:=3) rfl ?_);refine box_event ?hg (N:=3) ?hd (cs:=#[.int .i64 a1_0,.int .i64 a1_1,.int .i64 a1_2,.int .i64 a1_3]) (t:=23) ?hr ?_;(case hd => rfl);(case hg => rfl);(case hr => first|(go_simp;done)|(go_simp;rfl));intro gb224 hg w5 hbox hb;have n0_:=am (bw (by exact BK223.out) hb);have n1_:=am (ss (by repeat (first|(with_reducible first|exact HB.out|apply sa|apply sn|apply sd|refine sx ?_ GE223.out)|exact HB.out)) hb);have n2_:=am (hbox);have n3_:=am ((by rw [hg];exact (sz (by repeat (first|(with_reducible first|exact HB.out|apply sa|apply sn|apply sd|refine sx ?_ GE223.out)|exact HB.out))) : w.heap.size ≤ gb224));have n4_:=n3_;have n5_:=nb (by exact BK223.out) hg;have n6_:=ng (by exact BK223.out) hg;clear BK223;clear HB;have BK223:=n0_;have HB:=n1_;have BK224:=n2_;have GW224:=n3_;have GE224:=n4_;have NB223_224:=n5_;have NB224_223:=n6_;clear n0_ n1_ n2_ n3_ n4_ n5_ n6_;clear hb hbox hg)|((with_reducible refine gate_dst (N:=4) rfl ?_);refine box_event ?hg (N:=4) ?hd (cs:=#[.int .i64 0,.int .i64 0,.int .i64 0,.int .i64 0]) (t:=23) ?hr ?_;(case hd => rfl);(case hg => rfl);(case hr => first|(go_simp;done)|(go_simp;rfl));intro gb225 hg w6 hbox hb;have n0_:=am (bw (by exact BK223.out) hb);have n1_:=am (bw (by exact BK224.out) hb);have n2_:=am (ss (by repeat (first|(with_reducible first|exact HB.out|apply sa|apply sn|apply sd|refine sy ?_ (by assumption))|exact HB.out)) hb);have n3_:=am (hbox);have n4_:=am ((by rw [hg];exact (sz (by repeat (first|(with_reducible first|exact HB.out|apply sa|apply sn|apply sd|refine sy ?_ (by assumption))|exact HB.out))) : w.heap.size ≤ gb225));have n5_:=n4_;have n6_:=nb (by exact BK223.out) hg;have n7_:=am (Ne.symm n6_.out);have n8_:=nb (by exact BK224.out) hg;have n9_:=ng (by exact BK224.out) hg;clear BK223;clear BK224;clear HB;have BK223:=n0_;have BK224:=n1_;have HB:=n2_;have BK225:=n3_;have GW225:=n4_;have GE225:=n5_;have NB223_225:=n6_;have NB225_223:=n7_;have NB224_225:=n8_;have NB225_224:=n9_;clear n0_ n1_ n2_ n3_ n4_ n5_ n6_ n7_ n8_ n9_;clear hb hbox hg))
  (try simp only [Act.put,q1,q2,q3])
  go_cut [15] (fun v15 wc => ∃ (kq : Nat) (x15_2 : Bool),v15 = .bool x15_2 ∧ Aside0 (affine_Color.j0 kq x15_2 a0_0 a0_1 a0_2 a0_3 a0_4 a0_5 a0_6 a0_7 a1_0 a1_1 a1_2 a1_3 = some (r1,r2,r3,r4)) ∧ Aside0 (kq ≤ k) ∧ Aside0 (wc.heap[gb223]? = some (.cells #[.int .i64 a0_0,.int .i64 a0_1,.int .i64 a0_2,.int .i64 a0_3,.int .i64 a0_4,.int .i64 a0_5,.int .i64 a0_6,.int .i64 a0_7] 34 (0,0))) ∧ Aside0 (wc.heap[gb224]? = some (.cells #[.int .i64 a1_0,.int .i64 a1_1,.int .i64 a1_2,.int .i64 a1_3] 23 (0,0))) ∧ Aside0 (wc.heap[gb225]? = some (.cells #[.int .i64 0,.int .i64 0,.int .i64 0,.int .i64 0] 23 (0,0))) ∧ Aside0 (Below w.heap.size w wc))
  case first =>
    have H:=HC3.out;clear HC3;replace H:=Option.bind_eq_some_iff.mp H;obtain ⟨t226,A70,H⟩:=H;replace H : (if t226 = true then ((field_RightRGBA.f k a1_0 a1_1 a1_2 a1_3).bind fun t227 => (affine_Color.j0 k (!t227) a0_0 a0_1 a0_2 a0_3 a0_4 a0_5 a0_6 a0_7 a1_0 a1_1 a1_2 a1_3)) else (affine_Color.j0 k true a0_0 a0_1 a0_2 a0_3 a0_4 a0_5 a0_6 a0_7 a1_0 a1_1 a1_2 a1_3)) = some (r1,r2,r3,r4):=H;have A7:=am A70;clear A70
    by_cases c8 : t226 = true
    · subst c8
      have H1 : ((field_RightRGBA.f k a1_0 a1_1 a1_2 a1_3).bind fun t227 => (affine_Color.j0 k (!t227) a0_0 a0_1 a0_2 a0_3 a0_4 a0_5 a0_6 a0_7 a1_0 a1_1 a1_2 a1_3)) = some (r1,r2,r3,r4):=by rw [if_pos rfl] at H;exact H
      clear H;have H:=H1;clear H1;replace H:=Option.bind_eq_some_iff.mp H;obtain ⟨t227,A90,H⟩:=H;replace H : (affine_Color.j0 k (!t227) a0_0 a0_1 a0_2 a0_3 a0_4 a0_5 a0_6 a0_7 a1_0 a1_1 a1_2 a1_3) = some (r1,r2,r3,r4):=H;have A9:=am A90;clear A90;have H':=am H;clear H;have hnb10:=NB223_224.out;have hnc10:=NB224_223.out;have hnb11:=NB223_225.out;have hnc11:=NB225_223.out;obtain ⟨hcz12_0,hcz12_1,hcz12_2,hcz12_3,hcz12_4,hcz12_5,hcz12_6,hcz12_7⟩:=cq8 BK223.out;obtain ⟨hfz12_0,hfz12_1,hfz12_2,hfz12_3,hfz12_4,hfz12_5,hfz12_6,hfz12_7⟩:=fq8 BK223.out
      go_wp2_with (first|((with_reducible refine gate_callee (f:=50) rfl ?_);refine goesL_ (some 9) rfl rfl Try.func50 (by kernel_rfl) rfl #[.agg #[.int .i64 a0_0,.int .i64 a0_1,.int .i64 a0_2,.int .i64 a0_3,.int .i64 a0_4,.int .i64 a0_5,.int .i64 a0_6,.int .i64 a0_7]] rfl (by (try simp only [List.map_toArray,List.map_cons,List.map_nil]);first|done|rfl|(simp only [List.length_drop,List.length_take];rfl)) ?_;(with_reducible refine (field_RightCx.calls k a0_0 a0_1 a0_2 a0_3 a0_4 a0_5 a0_6 a0_7 true _ A7.out).mono ?_);rintro e w13 ⟨rfl,hb⟩;refine ⟨_,rfl,?_⟩;replace BK223:=am (bw (by exact BK223.out) hb);replace BK224:=am (bw (by exact BK224.out) hb);replace BK225:=am (bw (by exact BK225.out) hb);replace HB:=am (ss (by repeat (first|(with_reducible first|exact HB.out|apply sa|apply sn|apply sd|refine sy ?_ (by assumption))|exact HB.out)) hb);(try clear hb);(try clear hb2);(try clear hk);(try clear hi);have hnb14:=NB224_225.out;have hnc14:=NB225_224.out;obtain ⟨hcz15_0,hcz15_1,hcz15_2,hcz15_3⟩:=cq4 BK224.out;obtain ⟨hfz15_0,hfz15_1,hfz15_2,hfz15_3⟩:=fq4 BK224.out)|(go_at_call 24;(with_reducible refine (field_RightRGBA.calls k a1_0 a1_1 a1_2 a1_3 t227 _ A9.out).mono ?_);rintro e w16 ⟨rfl,hb⟩;replace BK223:=am (bw (by exact BK223.out) hb);replace BK224:=am (bw (by exact BK224.out) hb);replace BK225:=am (bw (by exact BK225.out) hb);replace HB:=am (ss (by repeat (first|(with_reducible first|exact HB.out|apply sa|apply sn|apply sd|refine sy ?_ (by assumption))|exact HB.out)) hb);(try clear hb);(try clear hb2);(try clear hk);(try clear hi)))
      go_meet
      case rel => exact ⟨_,(!t227),(by first|rfl|(simp;done)|(simp [*];done)),H',⟨by first|omega|exact Nat.le_refl _⟩,⟨by exact BK223.out⟩,⟨by exact BK224.out⟩,⟨by exact BK225.out⟩,⟨by repeat (first|(with_reducible first|exact HB.out|apply sa|apply sn|apply sd|refine sy ?_ (by assumption))|exact HB.out)⟩⟩
    · replace c8:=Bool.eq_false_iff.mpr c8
      subst c8
      have H1 : (affine_Color.j0 k true a0_0 a0_1 a0_2 a0_3 a0_4 a0_5 a0_6 a0_7 a1_0 a1_1 a1_2 a1_3) = some (r1,r2,r3,r4):=by rw [if_neg (show ¬ (false = true) by decide)] at H;exact H
      clear H;have H:=H1;clear H1;have H':=am H;clear H;have hnb17:=NB223_224.out;have hnc17:=NB224_223.out;have hnb18:=NB223_225.out;have hnc18:=NB225_223.out;obtain ⟨hcz19_0,hcz19_1,hcz19_2,hcz19_3,hcz19_4,hcz19_5,hcz19_6,hcz19_7⟩:=cq8 BK223.out;obtain ⟨hfz19_0,hfz19_1,hfz19_2,hfz19_3,hfz19_4,hfz19_5,hfz19_6,hfz19_7⟩:=fq8 BK223.out
      go_wp2_with (first|((with_reducible refine gate_callee (f:=50) rfl ?_);refine goesL_ (some 9) rfl rfl Try.func50 (by kernel_rfl) rfl #[.agg #[.int .i64 a0_0,.int .i64 a0_1,.int .i64 a0_2,.int .i64 a0_3,.int .i64 a0_4,.int .i64 a0_5,.int .i64 a0_6,.int .i64 a0_7]] rfl (by (try simp only [List.map_toArray,List.map_cons,List.map_nil]);first|done|rfl|(simp only [List.length_drop,List.length_take];rfl)) ?_;(with_reducible refine (field_RightCx.calls k a0_0 a0_1 a0_2 a0_3 a0_4 a0_5 a0_6 a0_7 false _ A7.out).mono ?_);rintro e w20 ⟨rfl,hb⟩;refine ⟨_,rfl,?_⟩;replace BK223:=am (bw (by exact BK223.out) hb);replace BK224:=am (bw (by exact BK224.out) hb);replace BK225:=am (bw (by exact BK225.out) hb);replace HB:=am (ss (by repeat (first|(with_reducible first|exact HB.out|apply sa|apply sn|apply sd|refine sy ?_ (by assumption))|exact HB.out)) hb);(try clear hb);(try clear hb2);(try clear hk);(try clear hi)))
      go_meet
      case rel => exact ⟨_,(true),(by first|rfl|(simp;done)|(simp [*];done)),H',⟨by first|omega|exact Nat.le_refl _⟩,⟨by exact BK223.out⟩,⟨by exact BK224.out⟩,⟨by exact BK225.out⟩,⟨by repeat (first|(with_reducible first|exact HB.out|apply sa|apply sn|apply sd|refine sy ?_ (by assumption))|exact HB.out)⟩⟩
  case rest =>
    clear HC3
    (try clear c1);(try clear c2);(try clear p2);(try clear c5);(try clear c8);(try clear c10);(try clear c11);(try clear c14);(try clear c17);(try clear c18);(try clear hcz12_0 hcz12_1 hcz12_2 hcz12_3 hcz12_4 hcz12_5 hcz12_6 hcz12_7);(try clear hcz15_0 hcz15_1 hcz15_2 hcz15_3);(try clear hcz19_0 hcz19_1 hcz19_2 hcz19_3 hcz19_4 hcz19_5 hcz19_6 hcz19_7);(try clear hfz12_0 hfz12_1 hfz12_2 hfz12_3 hfz12_4 hfz12_5 hfz12_6 hfz12_7);(try clear hfz15_0 hfz15_1 hfz15_2 hfz15_3);(try clear hfz19_0 hfz19_1 hfz19_2 hfz19_3 hfz19_4 hfz19_5 hfz19_6 hfz19_7)
    obtain ⟨kq,x15_2,rfl,HA,HJ2,BK223,BK224,BK225,HB⟩:=hcut
    cases kq with
    | zero => exact absurd HA.out (by simp [affine_Color.j0])
    | succ kj2 =>
      have H:=HA.out;clear HA;simp only [affine_Color.j0] at H
      by_cases c21 : x15_2 = true
      · subst c21
        have H1 : (some (0,0,0,0)) = some (r1,r2,r3,r4):=by rw [if_pos rfl] at H;exact H
        clear H;have H:=H1;clear H1;simp only [Option.some.injEq,Prod.mk.injEq] at H;obtain ⟨rfl,rfl,rfl,rfl⟩:=H;have hnb22:=NB225_223.out;have hnc22:=NB223_225.out;have hnb23:=NB225_224.out;have hnc23:=NB224_225.out;obtain ⟨hcz24_0,hcz24_1,hcz24_2,hcz24_3⟩:=cq4 BK225.out;obtain ⟨hfz24_0,hfz24_1,hfz24_2,hfz24_3⟩:=fq4 BK225.out
        go_wp2
        refine bodyPost_ret (results_cell_row rfl _ _ gb225 23 #[.int .i64 0,.int .i64 0,.int .i64 0,.int .i64 0] (0,0) _ rfl (bp (bp (bp (bp BK225.out 0 _ rfl) 1 _ rfl) 2 _ rfl) 3 _ rfl) Try.underlying23 rfl (by kernel_rfl)) rfl ?_
        exact ⟨by first|rfl|(simp [errW_none,errW_some] <;> rfl)|(simp [*,errW_none,errW_some] <;> rfl),by repeat (first|(with_reducible first|exact HB.out|apply sa|apply sn|apply sd|refine sy ?_ (by assumption))|exact HB.out)⟩
      · replace c21:=Bool.eq_false_iff.mpr c21
        subst c21
        have H1 : (affine_Color.l0 kj2 0 a1_0 a1_1 a1_2 a1_3 a0_0 a0_1 a0_2 a0_3 a0_4 a0_5 a0_6 a0_7 a1_0 a1_1 a1_2 a1_3) = some (r1,r2,r3,r4):=by rw [if_neg (show ¬ (false = true) by decide)] at H;exact H
        clear H;have H:=H1;clear H1;have H':=am H;clear H;have hnb25:=NB224_223.out;have hnc25:=NB223_224.out;have hnb26:=NB224_225.out;have hnc26:=NB225_224.out;obtain ⟨hcz27_0,hcz27_1,hcz27_2,hcz27_3⟩:=cq4 BK224.out;obtain ⟨hfz27_0,hfz27_1,hfz27_2,hfz27_3⟩:=fq4 BK224.out
        go_wp2_with (first|((with_reducible refine gate_dst (N:=5) rfl ?_);refine box_event ?hg (N:=5) ?hd (cs:=#[.int .i64 0,.int .i64 0,.int .i64 0,.int .i64 0]) (t:=32) ?hr ?_;(case hd => rfl);(case hg => rfl);(case hr => first|(go_simp;done)|(go_simp;rfl));intro gb228 hg w28 hbox hb;have BK228:=am (hbox);obtain ⟨h1_,GW228⟩:=sg (by repeat (first|(with_reducible first|exact HB.out|apply sa|apply sn|apply sd|refine sy ?_ (by assumption))|exact HB.out)) hb hg;replace HB:=h1_;clear h1_;have GE228:=GW228;have NB223_228:=nb (by exact BK223.out) hg;replace BK223:=am (bw (by exact BK223.out) hb);have NB228_223:=am (Ne.symm NB223_228.out);have NB224_228:=nb (by exact BK224.out) hg;replace BK224:=am (bw (by exact BK224.out) hb);have NB228_224:=am (Ne.symm NB224_228.out);have NB225_228:=nb (by exact BK225.out) hg;have NB228_225:=ng (by exact BK225.out) hg;replace BK225:=am (bw (by exact BK225.out) hb);clear hb hbox hg;have hnb29:=NB228_223.out;have hnc29:=NB223_228.out;have hnb30:=NB228_224.out;have hnc30:=NB224_228.out;have hnb31:=NB228_225.out;have hnc31:=NB225_228.out;obtain ⟨hcz32_0,hcz32_1,hcz32_2,hcz32_3⟩:=cq4 BK228.out;obtain ⟨hfz32_0,hfz32_1,hfz32_2,hfz32_3⟩:=fq4 BK228.out))
        go_loopg [27] kj2 (fun kq v27 w' => ∃ (x27_2 : Int) (x229000_2 : Int) (x229001_2 : Int) (x229002_2 : Int) (x229003_2 : Int),v27 = .int .i64 x27_2 ∧ Aside0 (affine_Color.l0 kq x27_2 a1_0 a1_1 a1_2 a1_3 a0_0 a0_1 a0_2 a0_3 a0_4 a0_5 a0_6 a0_7 x229000_2 x229001_2 x229002_2 x229003_2 = some (r1,r2,r3,r4)) ∧ Aside0 (kq ≤ kj2) ∧ Aside0 (w'.heap[gb223]? = some (.cells #[.int .i64 a0_0,.int .i64 a0_1,.int .i64 a0_2,.int .i64 a0_3,.int .i64 a0_4,.int .i64 a0_5,.int .i64 a0_6,.int .i64 a0_7] 34 (0,0))) ∧ Aside0 (w'.heap[gb224]? = some (.cells #[.int .i64 a1_0,.int .i64 a1_1,.int .i64 a1_2,.int .i64 a1_3] 23 (0,0))) ∧ Aside0 (w'.heap[gb225]? = some (.cells #[.int .i64 0,.int .i64 0,.int .i64 0,.int .i64 0] 23 (0,0))) ∧ Aside0 (w'.heap[gb228]? = some (.cells #[.int .i64 x229000_2,.int .i64 x229001_2,.int .i64 x229002_2,.int .i64 x229003_2] 32 (0,0))) ∧ Aside0 (Below w.heap.size w w'))
        case atStart => exact ⟨(0),(a1_0),(a1_1),(a1_2),(a1_3),(by first|rfl|(simp;done)|(simp [*];done)),H',⟨Nat.le_refl _⟩,⟨by (with_reducible repeat (first|refine bn ?_ _|refine bd ?_|refine ba ?_ _|refine bf ?_ NB223_228.out _));exact BK223.out⟩,⟨by (with_reducible repeat (first|refine bn ?_ _|refine bd ?_|refine ba ?_ _|refine bf ?_ NB224_228.out _));exact BK224.out⟩,⟨by (with_reducible repeat (first|refine bn ?_ _|refine bd ?_|refine ba ?_ _|refine bf ?_ NB225_228.out _));exact BK225.out⟩,⟨(bp (bp (bp (bp BK228.out 0 _ rfl) 1 _ rfl) 2 _ rfl) 3 _ rfl)⟩,⟨by repeat (first|(with_reducible first|exact HB.out|apply sa|apply sn|apply sd|refine sy ?_ (by assumption))|exact HB.out)⟩⟩
        case round =>
          clear H'
          (try clear c1);(try clear c2);(try clear p2 p2);(try clear c3);(try clear c5);(try clear c8);(try clear c10);(try clear c11);(try clear c14);(try clear c17);(try clear c18);(try clear c21);(try clear c22);(try clear c23);(try clear c25);(try clear c26);(try clear c29);(try clear c30);(try clear c31);(try clear hcz12_0 hcz12_1 hcz12_2 hcz12_3 hcz12_4 hcz12_5 hcz12_6 hcz12_7);(try clear hcz15_0 hcz15_1 hcz15_2 hcz15_3);(try clear hcz19_0 hcz19_1 hcz19_2 hcz19_3 hcz19_4 hcz19_5 hcz19_6 hcz19_7);(try clear hcz24_0 hcz24_1 hcz24_2 hcz24_3);(try clear hcz27_0 hcz27_1 hcz27_2 hcz27_3);(try clear hcz32_0 hcz32_1 hcz32_2 hcz32_3);(try clear hfz12_0 hfz12_1 hfz12_2 hfz12_3 hfz12_4 hfz12_5 hfz12_6 hfz12_7);(try clear hfz15_0 hfz15_1 hfz15_2 hfz15_3);(try clear hfz19_0 hfz19_1 hfz19_2 hfz19_3 hfz19_4 hfz19_5 hfz19_6 hfz19_7);(try clear hfz24_0 hfz24_1 hfz24_2 hfz24_3);(try clear hfz27_0 hfz27_1 hfz27_2 hfz27_3);(try clear hfz32_0 hfz32_1 hfz32_2 hfz32_3)
          obtain ⟨x27_2,x229000_2,x229001_2,x229002_2,x229003_2,rfl,HA,HK2,BK223,BK224,BK225,BK228,HB⟩:=hrel
          cases gk with
          | zero => exact absurd HA.out (by simp [affine_Color.l0])
          | succ k2 =>
            have H:=HA.out;clear HA;simp only [affine_Color.l0] at H
            by_cases c33 : x27_2 < 4
            · rw [if_pos c33] at H
              have c33b0 : decide (x27_2 < 4) = true:=decide_eq_true c33;clear c33
              by_cases c34 : x27_2 = 0
              · subst c34
                have H1 : ((affine_clamp.f (wrap64 (((wrap64 (a1_0 * a0_0)) / 256) + a0_4)) 0 255).bind fun t229 => (affine_Color.l0 k2 (0 + 1) a1_0 a1_1 a1_2 a1_3 a0_0 a0_1 a0_2 a0_3 a0_4 a0_5 a0_6 a0_7 t229 x229001_2 x229002_2 x229003_2)) = some (r1,r2,r3,r4):=by rw [if_pos rfl] at H;exact H
                clear H;have H:=H1;clear H1;replace H:=Option.bind_eq_some_iff.mp H;obtain ⟨t229,A350,H⟩:=H;replace H : (affine_Color.l0 k2 (0 + 1) a1_0 a1_1 a1_2 a1_3 a0_0 a0_1 a0_2 a0_3 a0_4 a0_5 a0_6 a0_7 t229 x229001_2 x229002_2 x229003_2) = some (r1,r2,r3,r4):=H;have A35:=am A350;clear A350;have H':=am H;clear H
                try go_wp2
                replace BK223:=am (bd BK223.out);replace BK224:=am (bd BK224.out);replace BK225:=am (bd BK225.out);replace BK228:=am (bd BK228.out);replace HB:=am (sd HB.out);refine start_ (n:=16) (S:=fun w' => w'.cell? ⟨gb223,0,none⟩ = some (.int .i64 a0_0) ∧ w'.cell? ⟨gb223,1,none⟩ = some (.int .i64 a0_1) ∧ w'.cell? ⟨gb223,2,none⟩ = some (.int .i64 a0_2) ∧ w'.cell? ⟨gb223,3,none⟩ = some (.int .i64 a0_3) ∧ w'.cell? ⟨gb223,4,none⟩ = some (.int .i64 a0_4) ∧ w'.cell? ⟨gb223,5,none⟩ = some (.int .i64 a0_5) ∧ w'.cell? ⟨gb223,6,none⟩ = some (.int .i64 a0_6) ∧ w'.cell? ⟨gb223,7,none⟩ = some (.int .i64 a0_7)) (ds:=[]) #[false,false,false,false,false,false,false,false,false,false,false,false,false,false,false,false] (by kernel_rfl) rfl rfl ⟨(bc BK223.out 0).trans rfl,(bc BK223.out 1).trans rfl,(bc BK223.out 2).trans rfl,(bc BK223.out 3).trans rfl,(bc BK223.out 4).trans rfl,(bc BK223.out 5).trans rfl,(bc BK223.out 6).trans rfl,(bc BK223.out 7).trans rfl⟩ (fun hHeld => ?_);refine with_tabW affine_Color.tab7 affine_Color.bits7 (fun HT_ HW_ => ?_);generalize wr.drew = w36 at BK223 BK224 BK225 BK228 HB hHeld ⊢;refine pure_ (i:=0) (N:=some 31) (v:=?_) (a':=?_) #[true,false,false,false,false,false,false,false,false,false,false,false,false,false,false,false] rfl rfl (any_of HT_.out (by kernel_rfl)) (fun _ _ _ h => h) (Or.inl ⟨by rfl,?_⟩) ?_ ?_
                rotate_left
                · intro w'
                  go_simp
                  with_reducible rfl
                rotate_left
                · simp only [Act.put,q1,q2,q3,i64_w,i32_w]
                  rfl
                refine pure_ (i:=1) (N:=some 32) (v:=?_) (a':=?_) #[true,true,false,false,false,false,false,false,false,false,false,false,false,false,false,false] rfl rfl (any_of HT_.out (by kernel_rfl)) (fun _ _ _ h => h) (Or.inl ⟨by rfl,?_⟩) ?_ ?_
                rotate_left
                · intro w'
                  go_simp
                  with_reducible rfl
                rotate_left
                · simp only [Act.put,q1,q2,q3,i64_w,i32_w]
                  rfl
                refine pure_ (i:=2) (N:=some 33) (v:=?_) (a':=?_) #[true,true,true,false,false,false,false,false,false,false,false,false,false,false,false,false] rfl rfl (any_of HT_.out (by kernel_rfl)) (fun _ _ _ h => h) (Or.inl ⟨by rfl,?_⟩) ?_ ?_
                rotate_left
                · intro w'
                  go_simp
                  with_reducible rfl
                rotate_left
                · simp only [Act.put,q1,q2,q3,i64_w,i32_w]
                  rfl
                refine pure_ (i:=3) (N:=some 34) (v:=?_) (a':=?_) #[true,true,true,true,false,false,false,false,false,false,false,false,false,false,false,false] rfl rfl (any_of HT_.out (by kernel_rfl)) (fun _ _ _ h => h) (Or.inl ⟨by rfl,?_⟩) ?_ ?_
                rotate_left
                · intro w'
                  go_simp
                  with_reducible rfl
                rotate_left
                · simp only [Act.put,q1,q2,q3,i64_w,i32_w]
                  rfl
                refine pure_ (i:=4) (N:=some 35) (v:=?_) (a':=?_) #[true,true,true,true,true,false,false,false,false,false,false,false,false,false,false,false] rfl rfl (any_of HT_.out (by kernel_rfl)) (fun _ _ _ h => h) (Or.inl ⟨by rfl,?_⟩) ?_ ?_
                rotate_left
                · intro w'
                  go_simp
                  with_reducible rfl
                rotate_left
                · simp only [Act.put,q1,q2,q3,i64_w,i32_w]
                  rfl
                refine pure_ (i:=8) (N:=some 39) (v:=?_) (a':=?_) #[true,true,true,true,true,false,false,false,true,false,false,false,false,false,false,false] rfl rfl (any_of HT_.out (by kernel_rfl)) (fun _ _ _ h => h) (Or.inl ⟨by rfl,?_⟩) ?_ ?_
                rotate_left
                · intro w'
                  go_simp
                  with_reducible rfl
                rotate_left
                · simp only [Act.put,q1,q2,q3,i64_w,i32_w]
                  rfl
                refine pure_ (i:=9) (N:=some 40) (v:=?_) (a':=?_) #[true,true,true,true,true,false,false,false,true,true,false,false,false,false,false,false] rfl rfl (any_of HT_.out (by kernel_rfl)) (fun _ _ _ h => h) (Or.inl ⟨by rfl,?_⟩) ?_ ?_
                rotate_left
                · intro w'
                  go_simp
                  with_reducible rfl
                rotate_left
                · simp only [Act.put,q1,q2,q3,i64_w,i32_w]
                  rfl
                refine pure_ (i:=10) (N:=some 41) (v:=?_) (a':=?_) #[true,true,true,true,true,false,false,false,true,true,true,false,false,false,false,false] rfl rfl (any_of HT_.out (by kernel_rfl)) (fun _ _ _ h => h) (Or.inl ⟨by rfl,?_⟩) ?_ ?_
                rotate_left
                · intro w'
                  go_simp
                  with_reducible rfl
                rotate_left
                · simp only [Act.put,q1,q2,q3,i64_w,i32_w]
                  rfl
                refine take_ (i:=5) (N:=some 36) (v:=?_) (a':=?_) #[true,true,true,true,true,true,false,false,true,true,true,false,false,false,false,false] rfl rfl (take_ofW HT_.out HW_.out (by kernel_rfl)) (fun _ _ _ h => h) (Or.inl ⟨by rfl,?_⟩) hHeld ?_ ?_
                rotate_left
                · rintro w' ⟨s0,s1,s2,s3,s4,s5,s6,s7⟩
                  go_simp
                  with_reducible rfl
                rotate_left
                · simp only [Act.put,q1,q2,q3,i64_w,i32_w]
                  rfl
                refine pure_ (i:=6) (N:=some 37) (v:=?_) (a':=?_) #[true,true,true,true,true,true,true,false,true,true,true,false,false,false,false,false] rfl rfl (any_of HT_.out (by kernel_rfl)) (fun _ _ _ h => h) (Or.inl ⟨by rfl,?_⟩) ?_ ?_
                rotate_left
                · intro w'
                  go_simp
                  with_reducible rfl
                rotate_left
                · simp only [Act.put,q1,q2,q3,i64_w,i32_w]
                  rfl
                refine pure_ (i:=7) (N:=some 38) (v:=?_) (a':=?_) #[true,true,true,true,true,true,true,true,true,true,true,false,false,false,false,false] rfl rfl (any_of HT_.out (by kernel_rfl)) (fun _ _ _ h => h) (Or.inl ⟨by rfl,?_⟩) ?_ ?_
                rotate_left
                · intro w'
                  go_simp
                  with_reducible rfl
                rotate_left
                · simp only [Act.put,q1,q2,q3,i64_w,i32_w]
                  rfl
                refine take_ (i:=11) (N:=some 42) (v:=?_) (a':=?_) #[true,true,true,true,true,true,true,true,true,true,true,true,false,false,false,false] rfl rfl (take_ofW HT_.out HW_.out (by kernel_rfl)) (fun _ _ _ h => h) (Or.inl ⟨by rfl,?_⟩) hHeld ?_ ?_
                rotate_left
                · rintro w' ⟨s0,s1,s2,s3,s4,s5,s6,s7⟩
                  go_simp
                  with_reducible rfl
                rotate_left
                · simp only [Act.put,q1,q2,q3,i64_w,i32_w]
                  rfl
                refine pure_ (i:=12) (N:=some 43) (v:=?_) (a':=?_) #[true,true,true,true,true,true,true,true,true,true,true,true,true,false,false,false] rfl rfl (any_of HT_.out (by kernel_rfl)) (fun _ _ _ h => h) (Or.inl ⟨by rfl,?_⟩) ?_ ?_
                rotate_left
                · intro w'
                  go_simp
                  with_reducible rfl
                rotate_left
                · simp only [Act.put,q1,q2,q3,i64_w,i32_w]
                  rfl
                refine one_ (i:=13) (N:=some 44) #[true,true,true,true,true,true,true,true,true,true,true,true,true,true,false,false] rfl rfl (one_of HT_.out (by kernel_rfl)) (by decide) (fun K hK => ?_);refine goes_ Try.func51 (by kernel_rfl) rfl #[.int .i64 (wrap64 (((wrap64 (a1_0 * a0_0)) / 256) + a0_4)),.int .i64 0,.int .i64 255] (by rfl) rfl rfl (by (try simp only [List.map_toArray,List.map_cons,List.map_nil]);first|done|rfl|(simp only [List.length_drop,List.length_take];rfl)) ?_
                with_reducible refine (affine_clamp.calls (wrap64 (((wrap64 (a1_0 * a0_0)) / 256) + a0_4)) 0 255 t229 _ A35.out).mono ?_
                rintro e w37 ⟨rfl,hb⟩
                refine ⟨_,rfl,?_⟩;replace BK223:=am (bw (by exact BK223.out) hb);replace BK224:=am (bw (by exact BK224.out) hb);replace BK225:=am (bw (by exact BK225.out) hb);replace BK228:=am (bw (by exact BK228.out) hb);replace HB:=am (ss (by repeat (first|(with_reducible first|exact HB.out|apply sa|apply sn|apply sd|refine sy ?_ (by assumption))|exact HB.out)) hb);(try clear hb);(try clear hb2);(try clear hk);(try clear hi);refine hK.out _ _ ⟨(bc BK223.out 0).trans rfl,(bc BK223.out 1).trans rfl,(bc BK223.out 2).trans rfl,(bc BK223.out 3).trans rfl,(bc BK223.out 4).trans rfl,(bc BK223.out 5).trans rfl,(bc BK223.out 6).trans rfl,(bc BK223.out 7).trans rfl⟩ (fun hHeld => ?_);clear hK K;refine norm_ (a':=?_) ?_ ?_
                rotate_left
                · show Act.put _ (some 44) _ = _
                  simp only [Act.put,q1,q2,q3,i64_w,i32_w]
                  rfl
                refine pure_ (i:=14) (N:=some 45) (v:=?_) (a':=?_) #[true,true,true,true,true,true,true,true,true,true,true,true,true,true,true,false] rfl rfl (any_of HT_.out (by kernel_rfl)) (fun _ _ _ h => h) (Or.inl ⟨by rfl,?_⟩) ?_ ?_
                rotate_left
                · intro w'
                  go_simp
                  with_reducible rfl
                rotate_left
                · simp only [Act.put,q1,q2,q3,i64_w,i32_w]
                  rfl
                refine one_ (i:=15) (N:=none) #[true,true,true,true,true,true,true,true,true,true,true,true,true,true,true,true] rfl rfl (one_of HT_.out (by kernel_rfl)) (by decide) (fun K hK => ?_);have hs38 : w37.cell? ⟨gb228,0,none⟩ = some (.int .i64 x229000_2):=(bc BK228.out 0).trans rfl;have hfs38:=bz BK228.out 0;have hns38_0:=NB223_228.out;have hns38_1:=NB224_228.out;have hns38_2:=NB225_228.out;have hms38_0:=NB228_223.out;have hms38_1:=NB228_224.out;have hms38_2:=NB228_225.out;refine skip_ (w1:=?_) (by rfl) rfl ?_ ?_
                rotate_left
                · go_simp
                  rfl
                refine hK.out _ _ ⟨((cell_far (p:=⟨gb228,_,none⟩) NB223_228.out _).trans (hHeld.1)),((cell_far (p:=⟨gb228,_,none⟩) NB223_228.out _).trans (hHeld.2.1)),((cell_far (p:=⟨gb228,_,none⟩) NB223_228.out _).trans (hHeld.2.2.1)),((cell_far (p:=⟨gb228,_,none⟩) NB223_228.out _).trans (hHeld.2.2.2.1)),((cell_far (p:=⟨gb228,_,none⟩) NB223_228.out _).trans (hHeld.2.2.2.2.1)),((cell_far (p:=⟨gb228,_,none⟩) NB223_228.out _).trans (hHeld.2.2.2.2.2.1)),((cell_far (p:=⟨gb228,_,none⟩) NB223_228.out _).trans (hHeld.2.2.2.2.2.2.1)),((cell_far (p:=⟨gb228,_,none⟩) NB223_228.out _).trans (hHeld.2.2.2.2.2.2.2))⟩ (fun hHeld => ?_);clear hK K;refine done_ (done_of HT_.out (by kernel_rfl)) ?_
                try go_wp2
                go_roundg k2
                case measure => have:=HJ2.out;have:=HK2.out;omega
                case rel => exact ⟨(0 + 1),(t229),(x229001_2),(x229002_2),(x229003_2),(by first|rfl|(simp;done)|(simp [*];done)),H',⟨by have:=HJ2.out;have:=HK2.out;omega⟩,⟨by (with_reducible repeat (first|refine bn ?_ _|refine bd ?_|refine ba ?_ _|refine bf ?_ NB223_228.out _));exact BK223.out⟩,⟨by (with_reducible repeat (first|refine bn ?_ _|refine bd ?_|refine ba ?_ _|refine bf ?_ NB224_228.out _));exact BK224.out⟩,⟨by (with_reducible repeat (first|refine bn ?_ _|refine bd ?_|refine ba ?_ _|refine bf ?_ NB225_228.out _));exact BK225.out⟩,⟨(bp BK228.out 0 _ rfl)⟩,⟨by repeat (first|(with_reducible first|exact HB.out|apply sa|apply sn|apply sd|refine sy ?_ (by assumption))|exact HB.out)⟩⟩
              · rw [if_neg c34] at H
                by_cases c39 : x27_2 = 1
                · subst c39
                  have H1 : ((affine_clamp.f (wrap64 (((wrap64 (a1_1 * a0_1)) / 256) + a0_5)) 0 255).bind fun t230 => (affine_Color.l0 k2 (1 + 1) a1_0 a1_1 a1_2 a1_3 a0_0 a0_1 a0_2 a0_3 a0_4 a0_5 a0_6 a0_7 x229000_2 t230 x229002_2 x229003_2)) = some (r1,r2,r3,r4):=by rw [if_pos rfl] at H;exact H
                  clear H;have H:=H1;clear H1;replace H:=Option.bind_eq_some_iff.mp H;obtain ⟨t230,A400,H⟩:=H;replace H : (affine_Color.l0 k2 (1 + 1) a1_0 a1_1 a1_2 a1_3 a0_0 a0_1 a0_2 a0_3 a0_4 a0_5 a0_6 a0_7 x229000_2 t230 x229002_2 x229003_2) = some (r1,r2,r3,r4):=H;have A40:=am A400;clear A400;have H':=am H;clear H
                  try go_wp2
                  replace BK223:=am (bd BK223.out);replace BK224:=am (bd BK224.out);replace BK225:=am (bd BK225.out);replace BK228:=am (bd BK228.out);replace HB:=am (sd HB.out);refine start_ (n:=16) (S:=fun w' => w'.cell? ⟨gb223,0,none⟩ = some (.int .i64 a0_0) ∧ w'.cell? ⟨gb223,1,none⟩ = some (.int .i64 a0_1) ∧ w'.cell? ⟨gb223,2,none⟩ = some (.int .i64 a0_2) ∧ w'.cell? ⟨gb223,3,none⟩ = some (.int .i64 a0_3) ∧ w'.cell? ⟨gb223,4,none⟩ = some (.int .i64 a0_4) ∧ w'.cell? ⟨gb223,5,none⟩ = some (.int .i64 a0_5) ∧ w'.cell? ⟨gb223,6,none⟩ = some (.int .i64 a0_6) ∧ w'.cell? ⟨gb223,7,none⟩ = some (.int .i64 a0_7)) (ds:=[]) #[false,false,false,false,false,false,false,false,false,false,false,false,false,false,false,false] (by kernel_rfl) rfl rfl ⟨(bc BK223.out 0).trans rfl,(bc BK223.out 1).trans rfl,(bc BK223.out 2).trans rfl,(bc BK223.out 3).trans rfl,(bc BK223.out 4).trans rfl,(bc BK223.out 5).trans rfl,(bc BK223.out 6).trans rfl,(bc BK223.out 7).trans rfl⟩ (fun hHeld => ?_);refine with_tabW affine_Color.tab7 affine_Color.bits7 (fun HT_ HW_ => ?_);generalize wr.drew = w41 at BK223 BK224 BK225 BK228 HB hHeld ⊢;refine pure_ (i:=0) (N:=some 31) (v:=?_) (a':=?_) #[true,false,false,false,false,false,false,false,false,false,false,false,false,false,false,false] rfl rfl (any_of HT_.out (by kernel_rfl)) (fun _ _ _ h => h) (Or.inl ⟨by rfl,?_⟩) ?_ ?_
                  rotate_left
                  · intro w'
                    go_simp
                    with_reducible rfl
                  rotate_left
                  · simp only [Act.put,q1,q2,q3,i64_w,i32_w]
                    rfl
                  refine pure_ (i:=1) (N:=some 32) (v:=?_) (a':=?_) #[true,true,false,false,false,false,false,false,false,false,false,false,false,false,false,false] rfl rfl (any_of HT_.out (by kernel_rfl)) (fun _ _ _ h => h) (Or.inl ⟨by rfl,?_⟩) ?_ ?_
                  rotate_left
                  · intro w'
                    go_simp
                    with_reducible rfl
                  rotate_left
                  · simp only [Act.put,q1,q2,q3,i64_w,i32_w]
                    rfl
                  refine pure_ (i:=2) (N:=some 33) (v:=?_) (a':=?_) #[true,true,true,false,false,false,false,false,false,false,false,false,false,false,false,false] rfl rfl (any_of HT_.out (by kernel_rfl)) (fun _ _ _ h => h) (Or.inl ⟨by rfl,?_⟩) ?_ ?_
                  rotate_left
                  · intro w'
                    go_simp
                    with_reducible rfl
                  rotate_left
                  · simp only [Act.put,q1,q2,q3,i64_w,i32_w]
                    rfl
                  refine pure_ (i:=3) (N:=some 34) (v:=?_) (a':=?_) #[true,true,true,true,false,false,false,false,false,false,false,false,false,false,false,false] rfl rfl (any_of HT_.out (by kernel_rfl)) (fun _ _ _ h => h) (Or.inl ⟨by rfl,?_⟩) ?_ ?_
                  rotate_left
                  · intro w'
                    go_simp
                    with_reducible rfl
                  rotate_left
                  · simp only [Act.put,q1,q2,q3,i64_w,i32_w]
                    rfl
                  refine pure_ (i:=4) (N:=some 35) (v:=?_) (a':=?_) #[true,true,true,true,true,false,false,false,false,false,false,false,false,false,false,false] rfl rfl (any_of HT_.out (by kernel_rfl)) (fun _ _ _ h => h) (Or.inl ⟨by rfl,?_⟩) ?_ ?_
                  rotate_left
                  · intro w'
                    go_simp
                    with_reducible rfl
                  rotate_left
                  · simp only [Act.put,q1,q2,q3,i64_w,i32_w]
                    rfl
                  refine pure_ (i:=8) (N:=some 39) (v:=?_) (a':=?_) #[true,true,true,true,true,false,false,false,true,false,false,false,false,false,false,false] rfl rfl (any_of HT_.out (by kernel_rfl)) (fun _ _ _ h => h) (Or.inl ⟨by rfl,?_⟩) ?_ ?_
                  rotate_left
                  · intro w'
                    go_simp
                    with_reducible rfl
                  rotate_left
                  · simp only [Act.put,q1,q2,q3,i64_w,i32_w]
                    rfl
                  refine pure_ (i:=9) (N:=some 40) (v:=?_) (a':=?_) #[true,true,true,true,true,false,false,false,true,true,false,false,false,false,false,false] rfl rfl (any_of HT_.out (by kernel_rfl)) (fun _ _ _ h => h) (Or.inl ⟨by rfl,?_⟩) ?_ ?_
                  rotate_left
                  · intro w'
                    go_simp
                    with_reducible rfl
                  rotate_left
                  · simp only [Act.put,q1,q2,q3,i64_w,i32_w]
                    rfl
                  refine pure_ (i:=10) (N:=some 41) (v:=?_) (a':=?_) #[true,true,true,true,true,false,false,false,true,true,true,false,false,false,false,false] rfl rfl (any_of HT_.out (by kernel_rfl)) (fun _ _ _ h => h) (Or.inl ⟨by rfl,?_⟩) ?_ ?_
                  rotate_left
                  · intro w'
                    go_simp
                    with_reducible rfl
                  rotate_left
                  · simp only [Act.put,q1,q2,q3,i64_w,i32_w]
                    rfl
                  refine take_ (i:=5) (N:=some 36) (v:=?_) (a':=?_) #[true,true,true,true,true,true,false,false,true,true,true,false,false,false,false,false] rfl rfl (take_ofW HT_.out HW_.out (by kernel_rfl)) (fun _ _ _ h => h) (Or.inl ⟨by rfl,?_⟩) hHeld ?_ ?_
                  rotate_left
                  · rintro w' ⟨s0,s1,s2,s3,s4,s5,s6,s7⟩
                    go_simp
                    with_reducible rfl
                  rotate_left
                  · simp only [Act.put,q1,q2,q3,i64_w,i32_w]
                    rfl
                  refine pure_ (i:=6) (N:=some 37) (v:=?_) (a':=?_) #[true,true,true,true,true,true,true,false,true,true,true,false,false,false,false,false] rfl rfl (any_of HT_.out (by kernel_rfl)) (fun _ _ _ h => h) (Or.inl ⟨by rfl,?_⟩) ?_ ?_
                  rotate_left
                  · intro w'
                    go_simp
                    with_reducible rfl
                  rotate_left
                  · simp only [Act.put,q1,q2,q3,i64_w,i32_w]
                    rfl
                  refine pure_ (i:=7) (N:=some 38) (v:=?_) (a':=?_) #[true,true,true,true,true,true,true,true,true,true,true,false,false,false,false,false] rfl rfl (any_of HT_.out (by kernel_rfl)) (fun _ _ _ h => h) (Or.inl ⟨by rfl,?_⟩) ?_ ?_
                  rotate_left
                  · intro w'
                    go_simp
                    with_reducible rfl
                  rotate_left
                  · simp only [Act.put,q1,q2,q3,i64_w,i32_w]
                    rfl
                  refine take_ (i:=11) (N:=some 42) (v:=?_) (a':=?_) #[true,true,true,true,true,true,true,true,true,true,true,true,false,false,false,false] rfl rfl (take_ofW HT_.out HW_.out (by kernel_rfl)) (fun _ _ _ h => h) (Or.inl ⟨by rfl,?_⟩) hHeld ?_ ?_
                  rotate_left
                  · rintro w' ⟨s0,s1,s2,s3,s4,s5,s6,s7⟩
                    go_simp
                    with_reducible rfl
                  rotate_left
                  · simp only [Act.put,q1,q2,q3,i64_w,i32_w]
                    rfl
                  refine pure_ (i:=12) (N:=some 43) (v:=?_) (a':=?_) #[true,true,true,true,true,true,true,true,true,true,true,true,true,false,false,false] rfl rfl (any_of HT_.out (by kernel_rfl)) (fun _ _ _ h => h) (Or.inl ⟨by rfl,?_⟩) ?_ ?_
                  rotate_left
                  · intro w'
                    go_simp
                    with_reducible rfl
                  rotate_left
                  · simp only [Act.put,q1,q2,q3,i64_w,i32_w]
                    rfl
                  refine one_ (i:=13) (N:=some 44) #[true,true,true,true,true,true,true,true,true,true,true,true,true,true,false,false] rfl rfl (one_of HT_.out (by kernel_rfl)) (by decide) (fun K hK => ?_);refine goes_ Try.func51 (by kernel_rfl) rfl #[.int .i64 (wrap64 (((wrap64 (a1_1 * a0_1)) / 256) + a0_5)),.int .i64 0,.int .i64 255] (by rfl) rfl rfl (by (try simp only [List.map_toArray,List.map_cons,List.map_nil]);first|done|rfl|(simp only [List.length_drop,List.length_take];rfl)) ?_
                  with_reducible refine (affine_clamp.calls (wrap64 (((wrap64 (a1_1 * a0_1)) / 256) + a0_5)) 0 255 t230 _ A40.out).mono ?_
                  rintro e w42 ⟨rfl,hb⟩
                  refine ⟨_,rfl,?_⟩;replace BK223:=am (bw (by exact BK223.out) hb);replace BK224:=am (bw (by exact BK224.out) hb);replace BK225:=am (bw (by exact BK225.out) hb);replace BK228:=am (bw (by exact BK228.out) hb);replace HB:=am (ss (by repeat (first|(with_reducible first|exact HB.out|apply sa|apply sn|apply sd|refine sy ?_ (by assumption))|exact HB.out)) hb);(try clear hb);(try clear hb2);(try clear hk);(try clear hi);refine hK.out _ _ ⟨(bc BK223.out 0).trans rfl,(bc BK223.out 1).trans rfl,(bc BK223.out 2).trans rfl,(bc BK223.out 3).trans rfl,(bc BK223.out 4).trans rfl,(bc BK223.out 5).trans rfl,(bc BK223.out 6).trans rfl,(bc BK223.out 7).trans rfl⟩ (fun hHeld => ?_);clear hK K;refine norm_ (a':=?_) ?_ ?_
                  rotate_left
                  · show Act.put _ (some 44) _ = _
                    simp only [Act.put,q1,q2,q3,i64_w,i32_w]
                    rfl
                  refine pure_ (i:=14) (N:=some 45) (v:=?_) (a':=?_) #[true,true,true,true,true,true,true,true,true,true,true,true,true,true,true,false] rfl rfl (any_of HT_.out (by kernel_rfl)) (fun _ _ _ h => h) (Or.inl ⟨by rfl,?_⟩) ?_ ?_
                  rotate_left
                  · intro w'
                    go_simp
                    with_reducible rfl
                  rotate_left
                  · simp only [Act.put,q1,q2,q3,i64_w,i32_w]
                    rfl
                  refine one_ (i:=15) (N:=none) #[true,true,true,true,true,true,true,true,true,true,true,true,true,true,true,true] rfl rfl (one_of HT_.out (by kernel_rfl)) (by decide) (fun K hK => ?_);have hs43 : w42.cell? ⟨gb228,1,none⟩ = some (.int .i64 x229001_2):=(bc BK228.out 1).trans rfl;have hfs43:=bz BK228.out 1;have hns43_0:=NB223_228.out;have hns43_1:=NB224_228.out;have hns43_2:=NB225_228.out;have hms43_0:=NB228_223.out;have hms43_1:=NB228_224.out;have hms43_2:=NB228_225.out;refine skip_ (w1:=?_) (by rfl) rfl ?_ ?_
                  rotate_left
                  · go_simp
                    rfl
                  refine hK.out _ _ ⟨((cell_far (p:=⟨gb228,_,none⟩) NB223_228.out _).trans (hHeld.1)),((cell_far (p:=⟨gb228,_,none⟩) NB223_228.out _).trans (hHeld.2.1)),((cell_far (p:=⟨gb228,_,none⟩) NB223_228.out _).trans (hHeld.2.2.1)),((cell_far (p:=⟨gb228,_,none⟩) NB223_228.out _).trans (hHeld.2.2.2.1)),((cell_far (p:=⟨gb228,_,none⟩) NB223_228.out _).trans (hHeld.2.2.2.2.1)),((cell_far (p:=⟨gb228,_,none⟩) NB223_228.out _).trans (hHeld.2.2.2.2.2.1)),((cell_far (p:=⟨gb228,_,none⟩) NB223_228.out _).trans (hHeld.2.2.2.2.2.2.1)),((cell_far (p:=⟨gb228,_,none⟩) NB223_228.out _).trans (hHeld.2.2.2.2.2.2.2))⟩ (fun hHeld => ?_);clear hK K;refine done_ (done_of HT_.out (by kernel_rfl)) ?_
                  try go_wp2
                  go_roundg k2
                  case measure => have:=HJ2.out;have:=HK2.out;omega
                  case rel => exact ⟨(1 + 1),(x229000_2),(t230),(x229002_2),(x229003_2),(by first|rfl|(simp;done)|(simp [*];done)),H',⟨by have:=HJ2.out;have:=HK2.out;omega⟩,⟨by (with_reducible repeat (first|refine bn ?_ _|refine bd ?_|refine ba ?_ _|refine bf ?_ NB223_228.out _));exact BK223.out⟩,⟨by (with_reducible repeat (first|refine bn ?_ _|refine bd ?_|refine ba ?_ _|refine bf ?_ NB224_228.out _));exact BK224.out⟩,⟨by (with_reducible repeat (first|refine bn ?_ _|refine bd ?_|refine ba ?_ _|refine bf ?_ NB225_228.out _));exact BK225.out⟩,⟨(bp BK228.out 1 _ rfl)⟩,⟨by repeat (first|(with_reducible first|exact HB.out|apply sa|apply sn|apply sd|refine sy ?_ (by assumption))|exact HB.out)⟩⟩
                · rw [if_neg c39] at H
                  by_cases c44 : x27_2 = 2
                  · subst c44
                    have H1 : ((affine_clamp.f (wrap64 (((wrap64 (a1_2 * a0_2)) / 256) + a0_6)) 0 255).bind fun t231 => (affine_Color.l0 k2 (2 + 1) a1_0 a1_1 a1_2 a1_3 a0_0 a0_1 a0_2 a0_3 a0_4 a0_5 a0_6 a0_7 x229000_2 x229001_2 t231 x229003_2)) = some (r1,r2,r3,r4):=by rw [if_pos rfl] at H;exact H
                    clear H;have H:=H1;clear H1;replace H:=Option.bind_eq_some_iff.mp H;obtain ⟨t231,A450,H⟩:=H;replace H : (affine_Color.l0 k2 (2 + 1) a1_0 a1_1 a1_2 a1_3 a0_0 a0_1 a0_2 a0_3 a0_4 a0_5 a0_6 a0_7 x229000_2 x229001_2 t231 x229003_2) = some (r1,r2,r3,r4):=H;have A45:=am A450;clear A450;have H':=am H;clear H
                    try go_wp2
                    replace BK223:=am (bd BK223.out);replace BK224:=am (bd BK224.out);replace BK225:=am (bd BK225.out);replace BK228:=am (bd BK228.out);replace HB:=am (sd HB.out);refine start_ (n:=16) (S:=fun w' => w'.cell? ⟨gb223,0,none⟩ = some (.int .i64 a0_0) ∧ w'.cell? ⟨gb223,1,none⟩ = some (.int .i64 a0_1) ∧ w'.cell? ⟨gb223,2,none⟩ = some (.int .i64 a0_2) ∧ w'.cell? ⟨gb223,3,none⟩ = some (.int .i64 a0_3) ∧ w'.cell? ⟨gb223,4,none⟩ = some (.int .i64 a0_4) ∧ w'.cell? ⟨gb223,5,none⟩ = some (.int .i64 a0_5) ∧ w'.cell? ⟨gb223,6,none⟩ = some (.int .i64 a0_6) ∧ w'.cell? ⟨gb223,7,none⟩ = some (.int .i64 a0_7)) (ds:=[]) #[false,false,false,false,false,false,false,false,false,false,false,false,false,false,false,false] (by kernel_rfl) rfl rfl ⟨(bc BK223.out 0).trans rfl,(bc BK223.out 1).trans rfl,(bc BK223.out 2).trans rfl,(bc BK223.out 3).trans rfl,(bc BK223.out 4).trans rfl,(bc BK223.out 5).trans rfl,(bc BK223.out 6).trans rfl,(bc BK223.out 7).trans rfl⟩ (fun hHeld => ?_);refine with_tabW affine_Color.tab7 affine_Color.bits7 (fun HT_ HW_ => ?_);generalize wr.drew = w46 at BK223 BK224 BK225 BK228 HB hHeld ⊢;refine pure_ (i:=0) (N:=some 31) (v:=?_) (a':=?_) #[true,false,false,false,false,false,false,false,false,false,false,false,false,false,false,false] rfl rfl (any_of HT_.out (by kernel_rfl)) (fun _ _ _ h => h) (Or.inl ⟨by rfl,?_⟩) ?_ ?_
                    rotate_left
                    · intro w'
                      go_simp
                      with_reducible rfl
                    rotate_left
                    · simp only [Act.put,q1,q2,q3,i64_w,i32_w]
                      rfl
                    refine pure_ (i:=1) (N:=some 32) (v:=?_) (a':=?_) #[true,true,false,false,false,false,false,false,false,false,false,false,false,false,false,false] rfl rfl (any_of HT_.out (by kernel_rfl)) (fun _ _ _ h => h) (Or.inl ⟨by rfl,?_⟩) ?_ ?_
                    rotate_left
                    · intro w'
                      go_simp
                      with_reducible rfl
                    rotate_left
                    · simp only [Act.put,q1,q2,q3,i64_w,i32_w]
                      rfl
                    refine pure_ (i:=2) (N:=some 33) (v:=?_) (a':=?_) #[true,true,true,false,false,false,false,false,false,false,false,false,false,false,false,false] rfl rfl (any_of HT_.out (by kernel_rfl)) (fun _ _ _ h => h) (Or.inl ⟨by rfl,?_⟩) ?_ ?_
                    rotate_left
                    · intro w'
                      go_simp
                      with_reducible rfl
                    rotate_left
                    · simp only [Act.put,q1,q2,q3,i64_w,i32_w]
                      rfl
                    refine pure_ (i:=3) (N:=some 34) (v:=?_) (a':=?_) #[true,true,true,true,false,false,false,false,false,false,false,false,false,false,false,false] rfl rfl (any_of HT_.out (by kernel_rfl)) (fun _ _ _ h => h) (Or.inl ⟨by rfl,?_⟩) ?_ ?_
                    rotate_left
                    · intro w'
                      go_simp
                      with_reducible rfl
                    rotate_left
                    · simp only [Act.put,q1,q2,q3,i64_w,i32_w]
                      rfl
                    refine pure_ (i:=4) (N:=some 35) (v:=?_) (a':=?_) #[true,true,true,true,true,false,false,false,false,false,false,false,false,false,false,false] rfl rfl (any_of HT_.out (by kernel_rfl)) (fun _ _ _ h => h) (Or.inl ⟨by rfl,?_⟩) ?_ ?_
                    rotate_left
                    · intro w'
                      go_simp
                      with_reducible rfl
                    rotate_left
                    · simp only [Act.put,q1,q2,q3,i64_w,i32_w]
                      rfl
                    refine pure_ (i:=8) (N:=some 39) (v:=?_) (a':=?_) #[true,true,true,true,true,false,false,false,true,false,false,false,false,false,false,false] rfl rfl (any_of HT_.out (by kernel_rfl)) (fun _ _ _ h => h) (Or.inl ⟨by rfl,?_⟩) ?_ ?_
                    rotate_left
                    · intro w'
                      go_simp
                      with_reducible rfl
                    rotate_left
                    · simp only [Act.put,q1,q2,q3,i64_w,i32_w]
                      rfl
                    refine pure_ (i:=9) (N:=some 40) (v:=?_) (a':=?_) #[true,true,true,true,true,false,false,false,true,true,false,false,false,false,false,false] rfl rfl (any_of HT_.out (by kernel_rfl)) (fun _ _ _ h => h) (Or.inl ⟨by rfl,?_⟩) ?_ ?_
                    rotate_left
                    · intro w'
                      go_simp
                      with_reducible rfl
                    rotate_left
                    · simp only [Act.put,q1,q2,q3,i64_w,i32_w]
                      rfl
                    refine pure_ (i:=10) (N:=some 41) (v:=?_) (a':=?_) #[true,true,true,true,true,false,false,false,true,true,true,false,false,false,false,false] rfl rfl (any_of HT_.out (by kernel_rfl)) (fun _ _ _ h => h) (Or.inl ⟨by rfl,?_⟩) ?_ ?_
                    rotate_left
                    · intro w'
                      go_simp
                      with_reducible rfl
                    rotate_left
                    · simp only [Act.put,q1,q2,q3,i64_w,i32_w]
                      rfl
                    refine take_ (i:=5) (N:=some 36) (v:=?_) (a':=?_) #[true,true,true,true,true,true,false,false,true,true,true,false,false,false,false,false] rfl rfl (take_ofW HT_.out HW_.out (by kernel_rfl)) (fun _ _ _ h => h) (Or.inl ⟨by rfl,?_⟩) hHeld ?_ ?_
                    rotate_left
                    · rintro w' ⟨s0,s1,s2,s3,s4,s5,s6,s7⟩
                      go_simp
                      with_reducible rfl
                    rotate_left
                    · simp only [Act.put,q1,q2,q3,i64_w,i32_w]
                      rfl
                    refine pure_ (i:=6) (N:=some 37) (v:=?_) (a':=?_) #[true,true,true,true,true,true,true,false,true,true,true,false,false,false,false,false] rfl rfl (any_of HT_.out (by kernel_rfl)) (fun _ _ _ h => h) (Or.inl ⟨by rfl,?_⟩) ?_ ?_
                    rotate_left
                    · intro w'
                      go_simp
                      with_reducible rfl
                    rotate_left
                    · simp only [Act.put,q1,q2,q3,i64_w,i32_w]
                      rfl
                    refine pure_ (i:=7) (N:=some 38) (v:=?_) (a':=?_) #[true,true,true,true,true,true,true,true,true,true,true,false,false,false,false,false] rfl rfl (any_of HT_.out (by kernel_rfl)) (fun _ _ _ h => h) (Or.inl ⟨by rfl,?_⟩) ?_ ?_
                    rotate_left
                    · intro w'
                      go_simp
                      with_reducible rfl
                    rotate_left
                    · simp only [Act.put,q1,q2,q3,i64_w,i32_w]
                      rfl
                    refine take_ (i:=11) (N:=some 42) (v:=?_) (a':=?_) #[true,true,true,true,true,true,true,true,true,true,true,true,false,false,false,false] rfl rfl (take_ofW HT_.out HW_.out (by kernel_rfl)) (fun _ _ _ h => h) (Or.inl ⟨by rfl,?_⟩) hHeld ?_ ?_
                    rotate_left
                    · rintro w' ⟨s0,s1,s2,s3,s4,s5,s6,s7⟩
                      go_simp
                      with_reducible rfl
                    rotate_left
                    · simp only [Act.put,q1,q2,q3,i64_w,i32_w]
                      rfl
                    refine pure_ (i:=12) (N:=some 43) (v:=?_) (a':=?_) #[true,true,true,true,true,true,true,true,true,true,true,true,true,false,false,false] rfl rfl (any_of HT_.out (by kernel_rfl)) (fun _ _ _ h => h) (Or.inl ⟨by rfl,?_⟩) ?_ ?_
                    rotate_left
                    · intro w'
                      go_simp
                      with_reducible rfl
                    rotate_left
                    · simp only [Act.put,q1,q2,q3,i64_w,i32_w]
                      rfl
                    refine one_ (i:=13) (N:=some 44) #[true,true,true,true,true,true,true,true,true,true,true,true,true,true,false,false] rfl rfl (one_of HT_.out (by kernel_rfl)) (by decide) (fun K hK => ?_);refine goes_ Try.func51 (by kernel_rfl) rfl #[.int .i64 (wrap64 (((wrap64 (a1_2 * a0_2)) / 256) + a0_6)),.int .i64 0,.int .i64 255] (by rfl) rfl rfl (by (try simp only [List.map_toArray,List.map_cons,List.map_nil]);first|done|rfl|(simp only [List.length_drop,List.length_take];rfl)) ?_
                    with_reducible refine (affine_clamp.calls (wrap64 (((wrap64 (a1_2 * a0_2)) / 256) + a0_6)) 0 255 t231 _ A45.out).mono ?_
                    rintro e w47 ⟨rfl,hb⟩
                    refine ⟨_,rfl,?_⟩;replace BK223:=am (bw (by exact BK223.out) hb);replace BK224:=am (bw (by exact BK224.out) hb);replace BK225:=am (bw (by exact BK225.out) hb);replace BK228:=am (bw (by exact BK228.out) hb);replace HB:=am (ss (by repeat (first|(with_reducible first|exact HB.out|apply sa|apply sn|apply sd|refine sy ?_ (by assumption))|exact HB.out)) hb);(try clear hb);(try clear hb2);(try clear hk);(try clear hi);refine hK.out _ _ ⟨(bc BK223.out 0).trans rfl,(bc BK223.out 1).trans rfl,(bc BK223.out 2).trans rfl,(bc BK223.out 3).trans rfl,(bc BK223.out 4).trans rfl,(bc BK223.out 5).trans rfl,(bc BK223.out 6).trans rfl,(bc BK223.out 7).trans rfl⟩ (fun hHeld => ?_);clear hK K;refine norm_ (a':=?_) ?_ ?_
                    rotate_left
                    · show Act.put _ (some 44) _ = _
                      simp only [Act.put,q1,q2,q3,i64_w,i32_w]
                      rfl
                    refine pure_ (i:=14) (N:=some 45) (v:=?_) (a':=?_) #[true,true,true,true,true,true,true,true,true,true,true,true,true,true,true,false] rfl rfl (any_of HT_.out (by kernel_rfl)) (fun _ _ _ h => h) (Or.inl ⟨by rfl,?_⟩) ?_ ?_
                    rotate_left
                    · intro w'
                      go_simp
                      with_reducible rfl
                    rotate_left
                    · simp only [Act.put,q1,q2,q3,i64_w,i32_w]
                      rfl
                    refine one_ (i:=15) (N:=none) #[true,true,true,true,true,true,true,true,true,true,true,true,true,true,true,true] rfl rfl (one_of HT_.out (by kernel_rfl)) (by decide) (fun K hK => ?_);have hs48 : w47.cell? ⟨gb228,2,none⟩ = some (.int .i64 x229002_2):=(bc BK228.out 2).trans rfl;have hfs48:=bz BK228.out 2;have hns48_0:=NB223_228.out;have hns48_1:=NB224_228.out;have hns48_2:=NB225_228.out;have hms48_0:=NB228_223.out;have hms48_1:=NB228_224.out;have hms48_2:=NB228_225.out;refine skip_ (w1:=?_) (by rfl) rfl ?_ ?_
                    rotate_left
                    · go_simp
                      rfl
                    refine hK.out _ _ ⟨((cell_far (p:=⟨gb228,_,none⟩) NB223_228.out _).trans (hHeld.1)),((cell_far (p:=⟨gb228,_,none⟩) NB223_228.out _).trans (hHeld.2.1)),((cell_far (p:=⟨gb228,_,none⟩) NB223_228.out _).trans (hHeld.2.2.1)),((cell_far (p:=⟨gb228,_,none⟩) NB223_228.out _).trans (hHeld.2.2.2.1)),((cell_far (p:=⟨gb228,_,none⟩) NB223_228.out _).trans (hHeld.2.2.2.2.1)),((cell_far (p:=⟨gb228,_,none⟩) NB223_228.out _).trans (hHeld.2.2.2.2.2.1)),((cell_far (p:=⟨gb228,_,none⟩) NB223_228.out _).trans (hHeld.2.2.2.2.2.2.1)),((cell_far (p:=⟨gb228,_,none⟩) NB223_228.out _).trans (hHeld.2.2.2.2.2.2.2))⟩ (fun hHeld => ?_);clear hK K;refine done_ (done_of HT_.out (by kernel_rfl)) ?_
                    try go_wp2
                    go_roundg k2
                    case measure => have:=HJ2.out;have:=HK2.out;omega
                    case rel => exact ⟨(2 + 1),(x229000_2),(x229001_2),(t231),(x229003_2),(by first|rfl|(simp;done)|(simp [*];done)),H',⟨by have:=HJ2.out;have:=HK2.out;omega⟩,⟨by (with_reducible repeat (first|refine bn ?_ _|refine bd ?_|refine ba ?_ _|refine bf ?_ NB223_228.out _));exact BK223.out⟩,⟨by (with_reducible repeat (first|refine bn ?_ _|refine bd ?_|refine ba ?_ _|refine bf ?_ NB224_228.out _));exact BK224.out⟩,⟨by (with_reducible repeat (first|refine bn ?_ _|refine bd ?_|refine ba ?_ _|refine bf ?_ NB225_228.out _));exact BK225.out⟩,⟨(bp BK228.out 2 _ rfl)⟩,⟨by repeat (first|(with_reducible first|exact HB.out|apply sa|apply sn|apply sd|refine sy ?_ (by assumption))|exact HB.out)⟩⟩
                  · rw [if_neg c44] at H
                    by_cases c49 : x27_2 = 3
                    · subst c49
                      have H1 : ((affine_clamp.f (wrap64 (((wrap64 (a1_3 * a0_3)) / 256) + a0_7)) 0 255).bind fun t232 => (affine_Color.l0 k2 (3 + 1) a1_0 a1_1 a1_2 a1_3 a0_0 a0_1 a0_2 a0_3 a0_4 a0_5 a0_6 a0_7 x229000_2 x229001_2 x229002_2 t232)) = some (r1,r2,r3,r4):=by rw [if_pos rfl] at H;exact H
                      clear H;have H:=H1;clear H1;replace H:=Option.bind_eq_some_iff.mp H;obtain ⟨t232,A500,H⟩:=H;replace H : (affine_Color.l0 k2 (3 + 1) a1_0 a1_1 a1_2 a1_3 a0_0 a0_1 a0_2 a0_3 a0_4 a0_5 a0_6 a0_7 x229000_2 x229001_2 x229002_2 t232) = some (r1,r2,r3,r4):=H;have A50:=am A500;clear A500;have H':=am H;clear H
                      try go_wp2
                      replace BK223:=am (bd BK223.out);replace BK224:=am (bd BK224.out);replace BK225:=am (bd BK225.out);replace BK228:=am (bd BK228.out);replace HB:=am (sd HB.out);refine start_ (n:=16) (S:=fun w' => w'.cell? ⟨gb223,0,none⟩ = some (.int .i64 a0_0) ∧ w'.cell? ⟨gb223,1,none⟩ = some (.int .i64 a0_1) ∧ w'.cell? ⟨gb223,2,none⟩ = some (.int .i64 a0_2) ∧ w'.cell? ⟨gb223,3,none⟩ = some (.int .i64 a0_3) ∧ w'.cell? ⟨gb223,4,none⟩ = some (.int .i64 a0_4) ∧ w'.cell? ⟨gb223,5,none⟩ = some (.int .i64 a0_5) ∧ w'.cell? ⟨gb223,6,none⟩ = some (.int .i64 a0_6) ∧ w'.cell? ⟨gb223,7,none⟩ = some (.int .i64 a0_7)) (ds:=[]) #[false,false,false,false,false,false,false,false,false,false,false,false,false,false,false,false] (by kernel_rfl) rfl rfl ⟨(bc BK223.out 0).trans rfl,(bc BK223.out 1).trans rfl,(bc BK223.out 2).trans rfl,(bc BK223.out 3).trans rfl,(bc BK223.out 4).trans rfl,(bc BK223.out 5).trans rfl,(bc BK223.out 6).trans rfl,(bc BK223.out 7).trans rfl⟩ (fun hHeld => ?_);refine with_tabW affine_Color.tab7 affine_Color.bits7 (fun HT_ HW_ => ?_);generalize wr.drew = w51 at BK223 BK224 BK225 BK228 HB hHeld ⊢;refine pure_ (i:=0) (N:=some 31) (v:=?_) (a':=?_) #[true,false,false,false,false,false,false,false,false,false,false,false,false,false,false,false] rfl rfl (any_of HT_.out (by kernel_rfl)) (fun _ _ _ h => h) (Or.inl ⟨by rfl,?_⟩) ?_ ?_
                      rotate_left
                      · intro w'
                        go_simp
                        with_reducible rfl
                      rotate_left
                      · simp only [Act.put,q1,q2,q3,i64_w,i32_w]
                        rfl
                      refine pure_ (i:=1) (N:=some 32) (v:=?_) (a':=?_) #[true,true,false,false,false,false,false,false,false,false,false,false,false,false,false,false] rfl rfl (any_of HT_.out (by kernel_rfl)) (fun _ _ _ h => h) (Or.inl ⟨by rfl,?_⟩) ?_ ?_
                      rotate_left
                      · intro w'
                        go_simp
                        with_reducible rfl
                      rotate_left
                      · simp only [Act.put,q1,q2,q3,i64_w,i32_w]
                        rfl
                      refine pure_ (i:=2) (N:=some 33) (v:=?_) (a':=?_) #[true,true,true,false,false,false,false,false,false,false,false,false,false,false,false,false] rfl rfl (any_of HT_.out (by kernel_rfl)) (fun _ _ _ h => h) (Or.inl ⟨by rfl,?_⟩) ?_ ?_
                      rotate_left
                      · intro w'
                        go_simp
                        with_reducible rfl
                      rotate_left
                      · simp only [Act.put,q1,q2,q3,i64_w,i32_w]
                        rfl
                      refine pure_ (i:=3) (N:=some 34) (v:=?_) (a':=?_) #[true,true,true,true,false,false,false,false,false,false,false,false,false,false,false,false] rfl rfl (any_of HT_.out (by kernel_rfl)) (fun _ _ _ h => h) (Or.inl ⟨by rfl,?_⟩) ?_ ?_
                      rotate_left
                      · intro w'
                        go_simp
                        with_reducible rfl
                      rotate_left
                      · simp only [Act.put,q1,q2,q3,i64_w,i32_w]
                        rfl
                      refine pure_ (i:=4) (N:=some 35) (v:=?_) (a':=?_) #[true,true,true,true,true,false,false,false,false,false,false,false,false,false,false,false] rfl rfl (any_of HT_.out (by kernel_rfl)) (fun _ _ _ h => h) (Or.inl ⟨by rfl,?_⟩) ?_ ?_
                      rotate_left
                      · intro w'
                        go_simp
                        with_reducible rfl
                      rotate_left
                      · simp only [Act.put,q1,q2,q3,i64_w,i32_w]
                        rfl
                      refine pure_ (i:=8) (N:=some 39) (v:=?_) (a':=?_) #[true,true,true,true,true,false,false,false,true,false,false,false,false,false,false,false] rfl rfl (any_of HT_.out (by kernel_rfl)) (fun _ _ _ h => h) (Or.inl ⟨by rfl,?_⟩) ?_ ?_
                      rotate_left
                      · intro w'
                        go_simp
                        with_reducible rfl
                      rotate_left
                      · simp only [Act.put,q1,q2,q3,i64_w,i32_w]
                        rfl
                      refine pure_ (i:=9) (N:=some 40) (v:=?_) (a':=?_) #[true,true,true,true,true,false,false,false,true,true,false,false,false,false,false,false] rfl rfl (any_of HT_.out (by kernel_rfl)) (fun _ _ _ h => h) (Or.inl ⟨by rfl,?_⟩) ?_ ?_
                      rotate_left
                      · intro w'
                        go_simp
                        with_reducible rfl
                      rotate_left
                      · simp only [Act.put,q1,q2,q3,i64_w,i32_w]
                        rfl
                      refine pure_ (i:=10) (N:=some 41) (v:=?_) (a':=?_) #[true,true,true,true,true,false,false,false,true,true,true,false,false,false,false,false] rfl rfl (any_of HT_.out (by kernel_rfl)) (fun _ _ _ h => h) (Or.inl ⟨by rfl,?_⟩) ?_ ?_
                      rotate_left
                      · intro w'
                        go_simp
                        with_reducible rfl
                      rotate_left
                      · simp only [Act.put,q1,q2,q3,i64_w,i32_w]
                        rfl
                      refine take_ (i:=5) (N:=some 36) (v:=?_) (a':=?_) #[true,true,true,true,true,true,false,false,true,true,true,false,false,false,false,false] rfl rfl (take_ofW HT_.out HW_.out (by kernel_rfl)) (fun _ _ _ h => h) (Or.inl ⟨by rfl,?_⟩) hHeld ?_ ?_
                      rotate_left
                      · rintro w' ⟨s0,s1,s2,s3,s4,s5,s6,s7⟩
                        go_simp
                        with_reducible rfl
                      rotate_left
                      · simp only [Act.put,q1,q2,q3,i64_w,i32_w]
                        rfl
                      refine pure_ (i:=6) (N:=some 37) (v:=?_) (a':=?_) #[true,true,true,true,true,true,true,false,true,true,true,false,false,false,false,false] rfl rfl (any_of HT_.out (by kernel_rfl)) (fun _ _ _ h => h) (Or.inl ⟨by rfl,?_⟩) ?_ ?_
                      rotate_left
                      · intro w'
                        go_simp
                        with_reducible rfl
                      rotate_left
                      · simp only [Act.put,q1,q2,q3,i64_w,i32_w]
                        rfl
                      refine pure_ (i:=7) (N:=some 38) (v:=?_) (a':=?_) #[true,true,true,true,true,true,true,true,true,true,true,false,false,false,false,false] rfl rfl (any_of HT_.out (by kernel_rfl)) (fun _ _ _ h => h) (Or.inl ⟨by rfl,?_⟩) ?_ ?_
                      rotate_left
                      · intro w'
                        go_simp
                        with_reducible rfl
                      rotate_left
                      · simp only [Act.put,q1,q2,q3,i64_w,i32_w]
                        rfl
                      refine take_ (i:=11) (N:=some 42) (v:=?_) (a':=?_) #[true,true,true,true,true,true,true,true,true,true,true,true,false,false,false,false] rfl rfl (take_ofW HT_.out HW_.out (by kernel_rfl)) (fun _ _ _ h => h) (Or.inl ⟨by rfl,?_⟩) hHeld ?_ ?_
                      rotate_left
                      · rintro w' ⟨s0,s1,s2,s3,s4,s5,s6,s7⟩
                        go_simp
                        with_reducible rfl
                      rotate_left
                      · simp only [Act.put,q1,q2,q3,i64_w,i32_w]
                        rfl
                      refine pure_ (i:=12) (N:=some 43) (v:=?_) (a':=?_) #[true,true,true,true,true,true,true,true,true,true,true,true,true,false,false,false] rfl rfl (any_of HT_.out (by kernel_rfl)) (fun _ _ _ h => h) (Or.inl ⟨by rfl,?_⟩) ?_ ?_
                      rotate_left
                      · intro w'
                        go_simp
                        with_reducible rfl
                      rotate_left
                      · simp only [Act.put,q1,q2,q3,i64_w,i32_w]
                        rfl
                      refine one_ (i:=13) (N:=some 44) #[true,true,true,true,true,true,true,true,true,true,true,true,true,true,false,false] rfl rfl (one_of HT_.out (by kernel_rfl)) (by decide) (fun K hK => ?_);refine goes_ Try.func51 (by kernel_rfl) rfl #[.int .i64 (wrap64 (((wrap64 (a1_3 * a0_3)) / 256) + a0_7)),.int .i64 0,.int .i64 255] (by rfl) rfl rfl (by (try simp only [List.map_toArray,List.map_cons,List.map_nil]);first|done|rfl|(simp only [List.length_drop,List.length_take];rfl)) ?_
                      with_reducible refine (affine_clamp.calls (wrap64 (((wrap64 (a1_3 * a0_3)) / 256) + a0_7)) 0 255 t232 _ A50.out).mono ?_
                      rintro e w52 ⟨rfl,hb⟩
                      refine ⟨_,rfl,?_⟩;replace BK223:=am (bw (by exact BK223.out) hb);replace BK224:=am (bw (by exact BK224.out) hb);replace BK225:=am (bw (by exact BK225.out) hb);replace BK228:=am (bw (by exact BK228.out) hb);replace HB:=am (ss (by repeat (first|(with_reducible first|exact HB.out|apply sa|apply sn|apply sd|refine sy ?_ (by assumption))|exact HB.out)) hb);(try clear hb);(try clear hb2);(try clear hk);(try clear hi);refine hK.out _ _ ⟨(bc BK223.out 0).trans rfl,(bc BK223.out 1).trans rfl,(bc BK223.out 2).trans rfl,(bc BK223.out 3).trans rfl,(bc BK223.out 4).trans rfl,(bc BK223.out 5).trans rfl,(bc BK223.out 6).trans rfl,(bc BK223.out 7).trans rfl⟩ (fun hHeld => ?_);clear hK K;refine norm_ (a':=?_) ?_ ?_
                      rotate_left
                      · show Act.put _ (some 44) _ = _
                        simp only [Act.put,q1,q2,q3,i64_w,i32_w]
                        rfl
                      refine pure_ (i:=14) (N:=some 45) (v:=?_) (a':=?_) #[true,true,true,true,true,true,true,true,true,true,true,true,true,true,true,false] rfl rfl (any_of HT_.out (by kernel_rfl)) (fun _ _ _ h => h) (Or.inl ⟨by rfl,?_⟩) ?_ ?_
                      rotate_left
                      · intro w'
                        go_simp
                        with_reducible rfl
                      rotate_left
                      · simp only [Act.put,q1,q2,q3,i64_w,i32_w]
                        rfl
                      refine one_ (i:=15) (N:=none) #[true,true,true,true,true,true,true,true,true,true,true,true,true,true,true,true] rfl rfl (one_of HT_.out (by kernel_rfl)) (by decide) (fun K hK => ?_);have hs53 : w52.cell? ⟨gb228,3,none⟩ = some (.int .i64 x229003_2):=(bc BK228.out 3).trans rfl;have hfs53:=bz BK228.out 3;have hns53_0:=NB223_228.out;have hns53_1:=NB224_228.out;have hns53_2:=NB225_228.out;have hms53_0:=NB228_223.out;have hms53_1:=NB228_224.out;have hms53_2:=NB228_225.out;refine skip_ (w1:=?_) (by rfl) rfl ?_ ?_
                      rotate_left
                      · go_simp
                        rfl
                      refine hK.out _ _ ⟨((cell_far (p:=⟨gb228,_,none⟩) NB223_228.out _).trans (hHeld.1)),((cell_far (p:=⟨gb228,_,none⟩) NB223_228.out _).trans (hHeld.2.1)),((cell_far (p:=⟨gb228,_,none⟩) NB223_228.out _).trans (hHeld.2.2.1)),((cell_far (p:=⟨gb228,_,none⟩) NB223_228.out _).trans (hHeld.2.2.2.1)),((cell_far (p:=⟨gb228,_,none⟩) NB223_228.out _).trans (hHeld.2.2.2.2.1)),((cell_far (p:=⟨gb228,_,none⟩) NB223_228.out _).trans (hHeld.2.2.2.2.2.1)),((cell_far (p:=⟨gb228,_,none⟩) NB223_228.out _).trans (hHeld.2.2.2.2.2.2.1)),((cell_far (p:=⟨gb228,_,none⟩) NB223_228.out _).trans (hHeld.2.2.2.2.2.2.2))⟩ (fun hHeld => ?_);clear hK K;refine done_ (done_of HT_.out (by kernel_rfl)) ?_
                      try go_wp2
                      go_roundg k2
                      case measure => have:=HJ2.out;have:=HK2.out;omega
                      case rel => exact ⟨(3 + 1),(x229000_2),(x229001_2),(x229002_2),(t232),(by first|rfl|(simp;done)|(simp [*];done)),H',⟨by have:=HJ2.out;have:=HK2.out;omega⟩,⟨by (with_reducible repeat (first|refine bn ?_ _|refine bd ?_|refine ba ?_ _|refine bf ?_ NB223_228.out _));exact BK223.out⟩,⟨by (with_reducible repeat (first|refine bn ?_ _|refine bd ?_|refine ba ?_ _|refine bf ?_ NB224_228.out _));exact BK224.out⟩,⟨by (with_reducible repeat (first|refine bn ?_ _|refine bd ?_|refine ba ?_ _|refine bf ?_ NB225_228.out _));exact BK225.out⟩,⟨(bp BK228.out 3 _ rfl)⟩,⟨by repeat (first|(with_reducible first|exact HB.out|apply sa|apply sn|apply sd|refine sy ?_ (by assumption))|exact HB.out)⟩⟩
                    · rw [if_neg c49] at H
                      exact absurd H (by simp)
            · rw [if_neg c33] at H
              have c33b0 : decide (x27_2 < 4) = false:=decide_eq_false c33;clear c33;simp only [Option.some.injEq,Prod.mk.injEq] at H;obtain ⟨rfl,rfl,rfl,rfl⟩:=H;have hnb54:=NB228_223.out;have hnc54:=NB223_228.out;have hnb55:=NB228_224.out;have hnc55:=NB224_228.out;have hnb56:=NB228_225.out;have hnc56:=NB225_228.out;obtain ⟨hcz57_0,hcz57_1,hcz57_2,hcz57_3⟩:=cq4 BK228.out;obtain ⟨hfz57_0,hfz57_1,hfz57_2,hfz57_3⟩:=fq4 BK228.out;have hnb58:=NB225_223.out;have hnc58:=NB223_225.out;have hnb59:=NB225_224.out;have hnc59:=NB224_225.out;obtain ⟨hcz60_0,hcz60_1,hcz60_2,hcz60_3⟩:=cq4 BK225.out;obtain ⟨hfz60_0,hfz60_1,hfz60_2,hfz60_3⟩:=fq4 BK225.out
              go_wp2
              refine bodyPost_ret (results_cell_row rfl _ _ gb225 23 #[.int .i64 x229000_2,.int .i64 x229001_2,.int .i64 x229002_2,.int .i64 x229003_2] (0,0) _ rfl (bp (bp (bp (bp BK225.out 0 _ rfl) 1 _ rfl) 2 _ rfl) 3 _ rfl) Try.underlying23 rfl (by kernel_rfl)) rfl ?_
              exact ⟨by first|rfl|(simp [errW_none,errW_some] <;> rfl)|(simp [*,errW_none,errW_some] <;> rfl),by repeat (first|(with_reducible first|exact HB.out|apply sa|apply sn|apply sd|refine sy ?_ (by assumption))|exact HB.out)⟩

end Go.Proofs.Ytmdfcinjmlagcaa.P
