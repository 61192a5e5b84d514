/- Printed by printx.py (wip/tool) out of the translation: plain functions that tell what the program answers,and the proofs that the program comes to these answers,for all arguments of their kinds. Lean checks it. -/
import Derived.Test.YtaognlikgbcejaaShort
import Derived.Test.YtaognlikgbcejaaPx0
import Derived.Test.YtaognlikgbcejaaPx2
import Derived.Test.YtaognlikgbcejaaPx5
import Derived.Test.YtaognlikgbcejaaPx7
import Derived.Test.YtaognlikgbcejaaPx8
namespace Go.Proofs.Ytaognlikgbcejaa.P
open Go.RowKit Go.Proofs.YtaognlikgbcejaaW.PrintWords Go.Proofs.YtaognlikgbcejaaW.PrintLast Go.Proofs.YtaognlikgbcejaaW.PrintMore
attribute [local go_sem] max2_int min2_int max_two min_two max_three min_three max_four min_four max_five min_five max_six min_six   -- for this text's walks alone
set_option linter.unusedVariables false
set_option linter.unusedSimpArgs false

attribute [local go_sem high] eqA25
/-! ### affine_Back: function 15 -/
def affine_Back.j0 : Nat → Int → Bool → Int → Int → Int → Int → Int → Int → Int → Int → Option (Int × Int × Bool)
  | 0,_,_,_,_,_,_,_,_,_,_ => none
  | k + 1,x6,x35,x180000,x180001,x180002,x180003,x180004,x180005,x181000,x181001 => if x35 = true then (some (0,0,false)) else ((fix_Floor.f k (wrap64 ((wrap64 (x180003 * (wrap64 ((wrap64 (x181000 * 20480)) - (wrap64 (x180004 * 65536)))))) - (wrap64 (x180002 * (wrap64 ((wrap64 (x181001 * 20480)) - (wrap64 (x180005 * 65536)))))))) x6).bind fun bt184 => ((fix_Floor.f k (wrap64 ((wrap64 (x180000 * (wrap64 ((wrap64 (x181001 * 20480)) - (wrap64 (x180005 * 65536)))))) - (wrap64 (x180001 * (wrap64 ((wrap64 (x181000 * 20480)) - (wrap64 (x180004 * 65536)))))))) x6).bind fun bt186 => (some (bt184.1,bt186.1,true))))
def affine_Back.f (k : Nat) (a0_0 : Int) (a0_1 : Int) (a0_2 : Int) (a0_3 : Int) (a0_4 : Int) (a0_5 : Int) (a1_0 : Int) (a1_1 : Int) : Option (Int × Int × Bool):=(field_RightMatrix.f k a0_0 a0_1 a0_2 a0_3 a0_4 a0_5).bind fun t182 => (if t182 = true then ((affine_within.f a1_0 a1_1 16777216).bind fun t183 => (if t183 = true then (affine_Back.j0 k (wrap64 ((wrap64 (a0_0 * a0_3)) - (wrap64 (a0_1 * a0_2)))) ((wrap64 ((wrap64 (a0_0 * a0_3)) - (wrap64 (a0_1 * a0_2)))) == 0) a0_0 a0_1 a0_2 a0_3 a0_4 a0_5 a1_0 a1_1) else (affine_Back.j0 k (wrap64 ((wrap64 (a0_0 * a0_3)) - (wrap64 (a0_1 * a0_2)))) true a0_0 a0_1 a0_2 a0_3 a0_4 a0_5 a1_0 a1_1))) else (affine_Back.j0 k (wrap64 ((wrap64 (a0_0 * a0_3)) - (wrap64 (a0_1 * a0_2)))) true a0_0 a0_1 a0_2 a0_3 a0_4 a0_5 a1_0 a1_1))
theorem affine_Back.mono_l : ∀ k,(∀ y0 y1 y2 y3 y4 y5 y6 y7 y8 y9,LeO (affine_Back.j0 k y0 y1 y2 y3 y4 y5 y6 y7 y8 y9) (affine_Back.j0 (k + 1) y0 y1 y2 y3 y4 y5 y6 y7 y8 y9))
  | 0 => fun _ _ _ _ _ _ _ _ _ _ r h => by simp [affine_Back.j0] at h
  | k + 1 => by
    have ih0:=affine_Back.mono_l k
    · intro y0 y1 y2 y3 y4 y5 y6 y7 y8 y9
      unfold affine_Back.j0
      repeat' first
      | (with_reducible exact ih0 _ _ _ _ _ _ _ _ _ _)
      | (with_reducible exact field_RightMatrix.mono _ _ _ _ _ _ _)
      | (with_reducible exact fix_Floor.mono _ _ _)
      | (with_reducible exact LeO.refl _)
      | (with_reducible exact LeO.none _)
      | (with_reducible refine LeO.ite ?_ ?_)
      | (with_reducible refine LeO.bind ?_ (fun _ => ?_))
      | exact ih0 _ _ _ _ _ _ _ _ _ _
      | exact field_RightMatrix.mono _ _ _ _ _ _ _
      | exact fix_Floor.mono _ _ _
      | exact LeO.none _
      | refine LeO.ite ?_ ?_
      | refine LeO.bind ?_ (fun _ => ?_)
theorem affine_Back.mono : ∀ a0 a1 a2 a3 a4 a5 a6 a7 k,LeO (affine_Back.f k a0 a1 a2 a3 a4 a5 a6 a7) (affine_Back.f (k + 1) a0 a1 a2 a3 a4 a5 a6 a7):=by
  intro a0 a1 a2 a3 a4 a5 a6 a7 k
  have ih0:=affine_Back.mono_l k
  unfold affine_Back.f
  repeat' first
      | (with_reducible exact ih0 _ _ _ _ _ _ _ _ _ _)
      | (with_reducible exact field_RightMatrix.mono _ _ _ _ _ _ _)
      | (with_reducible exact fix_Floor.mono _ _ _)
      | (with_reducible exact LeO.refl _)
      | (with_reducible exact LeO.none _)
      | (with_reducible refine LeO.ite ?_ ?_)
      | (with_reducible refine LeO.bind ?_ (fun _ => ?_))
      | exact ih0 _ _ _ _ _ _ _ _ _ _
      | exact field_RightMatrix.mono _ _ _ _ _ _ _
      | exact fix_Floor.mono _ _ _
      | exact LeO.none _
      | refine LeO.ite ?_ ?_
      | refine LeO.bind ?_ (fun _ => ?_)
set_option maxHeartbeats 8000000 in
set_option maxRecDepth 100000 in
theorem affine_Back.calls (k : Nat) (a0_0 : Int) (a0_1 : Int) (a0_2 : Int) (a0_3 : Int) (a0_4 : Int) (a0_5 : Int) (a1_0 : Int) (a1_1 : Int) (r1 : Int) (r2 : Int) (r3 : Bool) (w : World) (h : affine_Back.f k a0_0 a0_1 a0_2 a0_3 a0_4 a0_5 a1_0 a1_1 = some (r1,r2,r3)) :
    Calls Try.prog 15 #[.agg #[.int .i64 a0_0,.int .i64 a0_1,.int .i64 a0_2,.int .i64 a0_3,.int .i64 a0_4,.int .i64 a0_5],.agg #[.int .i64 a1_0,.int .i64 a1_1]] w fun e w' => e = .returned (.tuple #[.agg #[.int .i64 r1,.int .i64 r2],.bool r3]) ∧ Below w.heap.size w w':=by
  have hu23:=Try.underlying23;have hu25:=Try.underlying25;have HB:=am (Below.refl w.heap.size w);have H : ((field_RightMatrix.f k a0_0 a0_1 a0_2 a0_3 a0_4 a0_5).bind fun t182 => (if t182 = true then ((affine_within.f a1_0 a1_1 16777216).bind fun t183 => (if t183 = true then (affine_Back.j0 k (wrap64 ((wrap64 (a0_0 * a0_3)) - (wrap64 (a0_1 * a0_2)))) ((wrap64 ((wrap64 (a0_0 * a0_3)) - (wrap64 (a0_1 * a0_2)))) == 0) a0_0 a0_1 a0_2 a0_3 a0_4 a0_5 a1_0 a1_1) else (affine_Back.j0 k (wrap64 ((wrap64 (a0_0 * a0_3)) - (wrap64 (a0_1 * a0_2)))) true a0_0 a0_1 a0_2 a0_3 a0_4 a0_5 a1_0 a1_1))) else (affine_Back.j0 k (wrap64 ((wrap64 (a0_0 * a0_3)) - (wrap64 (a0_1 * a0_2)))) true a0_0 a0_1 a0_2 a0_3 a0_4 a0_5 a1_0 a1_1))) = some (r1,r2,r3):=h;clear h;have HC3:=am H;clear H
  go_enter Try.func15,Try.ntmps15
  go_upto_region 2 with (first|((with_reducible refine gate_dst (N:=2) rfl ?_);refine box_event ?hg (N:=2) ?hd (cs:=#[.int .i64 a0_0,.int .i64 a0_1,.int .i64 a0_2,.int .i64 a0_3,.int .i64 a0_4,.int .i64 a0_5]) (t:=23) ?hr ?_;(case hd => rfl);(case hg => rfl);(case hr => first|(go_simp;done)|(go_simp;rfl));intro gb179 hg w4 hbox hb;have n0_:=am (ss (by repeat (first|(with_reducible first|exact HB.out|apply sa|apply sn|apply sd)|exact HB.out)) hb);have n1_:=am (hbox);have n2_:=am ((by rw [hg];exact (sz (by repeat (first|(with_reducible first|exact HB.out|apply sa|apply sn|apply sd)|exact HB.out))) : w.heap.size ≤ gb179));have n3_:=am ((by rw [hg];exact (sz (by repeat (first|(with_reducible first|exact HB.out|apply sa|apply sn|apply sd)|exact HB.out))) : w.heap.size ≤ gb179));clear HB;have HB:=n0_;have BK179:=n1_;have GW179:=n2_;have GE179:=n3_;clear n0_ n1_ n2_ n3_;clear hb hbox hg)|((with_reducible refine gate_dst (N:=3) rfl ?_);refine box_event ?hg (N:=3) ?hd (cs:=#[.int .i64 a1_0,.int .i64 a1_1]) (t:=25) ?hr ?_;(case hd => rfl);(case hg => rfl);(case hr => first|(go_simp;done)|(go_simp;rfl));intro gb180 hg w5 hbox hb;have n0_:=am (bw (by exact BK179.out) hb);have n1_:=am (ss (by repeat (first|(with_reducible first|exact HB.out|apply sa|apply sn|apply sd|refine sx ?_ GE179.out)|exact HB.out)) hb);have n2_:=am (hbox);have n3_:=am ((by rw [hg];exact (sz (by repeat (first|(with_reducible first|exact HB.out|apply sa|apply sn|apply sd|refine sx ?_ GE179.out)|exact HB.out))) : w.heap.size ≤ gb180));have n4_:=n3_;have n5_:=nb (by exact BK179.out) hg;have n6_:=ng (by exact BK179.out) hg;clear BK179;clear HB;have BK179:=n0_;have HB:=n1_;have BK180:=n2_;have GW180:=n3_;have GE180:=n4_;have NB179_180:=n5_;have NB180_179:=n6_;clear n0_ n1_ n2_ n3_ n4_ n5_ n6_;clear hb hbox hg)|((with_reducible refine gate_dst (N:=4) rfl ?_);refine box_event ?hg (N:=4) ?hd (cs:=#[.int .i64 0,.int .i64 0]) (t:=25) ?hr ?_;(case hd => rfl);(case hg => rfl);(case hr => first|(go_simp;done)|(go_simp;rfl));intro gb181 hg w6 hbox hb;have n0_:=am (bw (by exact BK179.out) hb);have n1_:=am (bw (by exact BK180.out) hb);have n2_:=am (ss (by repeat (first|(with_reducible first|exact HB.out|apply sa|apply sn|apply sd|refine sy ?_ (by assumption))|exact HB.out)) hb);have n3_:=am (hbox);have n4_:=am ((by rw [hg];exact (sz (by repeat (first|(with_reducible first|exact HB.out|apply sa|apply sn|apply sd|refine sy ?_ (by assumption))|exact HB.out))) : w.heap.size ≤ gb181));have n5_:=n4_;have n6_:=nb (by exact BK179.out) hg;have n7_:=am (Ne.symm n6_.out);have n8_:=nb (by exact BK180.out) hg;have n9_:=ng (by exact BK180.out) hg;clear BK179;clear BK180;clear HB;have BK179:=n0_;have BK180:=n1_;have HB:=n2_;have BK181:=n3_;have GW181:=n4_;have GE181:=n5_;have NB179_181:=n6_;have NB181_179:=n7_;have NB180_181:=n8_;have NB181_180:=n9_;clear n0_ n1_ n2_ n3_ n4_ n5_ n6_ n7_ n8_ n9_;clear hb hbox hg;have hnb7:=NB179_180.out;have hnc7:=NB180_179.out;have hnb8:=NB179_181.out;have hnc8:=NB181_179.out;obtain ⟨hcz9_0,hcz9_1,hcz9_2,hcz9_3,hcz9_4,hcz9_5⟩:=cq6 BK179.out;obtain ⟨hfz9_0,hfz9_1,hfz9_2,hfz9_3,hfz9_4,hfz9_5⟩:=fq6 BK179.out))
  repeat (go_quiet (first|((with_reducible refine gate_dst (N:=2) rfl ?_);refine box_event ?hg (N:=2) ?hd (cs:=#[.int .i64 a0_0,.int .i64 a0_1,.int .i64 a0_2,.int .i64 a0_3,.int .i64 a0_4,.int .i64 a0_5]) (t:=23) ?hr ?_;(case hd => rfl);(case hg => rfl);(case hr => first|(go_simp;done)|(go_simp;rfl));intro gb179 hg w4 hbox hb;have n0_:=am (ss (by repeat (first|(with_reducible first|exact HB.out|apply sa|apply sn|apply sd)|exact HB.out)) hb);have n1_:=am (hbox);have n2_:=am ((by rw [hg];exact (sz (by repeat (first|(with_reducible first|exact HB.out|apply sa|apply sn|apply sd)|exact HB.out))) : w.heap.size ≤ gb179));have n3_:=am ((by rw [hg];exact (sz (by repeat (first|(with_reducible first|exact HB.out|apply sa|apply sn|apply sd)|exact HB.out))) : w.heap.size ≤ gb179));clear HB;have HB:=n0_;have BK179:=n1_;have GW179:=n2_;have GE179:=n3_;clear n0_ n1_ n2_ n3_;clear hb hbox hg)|((with_reducible refine gate_dst (N:=3) rfl ?_);refine box_event ?hg (N:=3) ?hd (cs:=#[.int .i64 a1_0,.int .i64 a1_1]) (t:=25) ?hr ?_;(case hd => rfl);(case hg => rfl);(case hr => first|(go_simp;done)|(go_simp;rfl));intro gb180 hg w5 hbox hb;have n0_:=am (bw (by exact BK179.out) hb);have n1_:=am (ss (by repeat (first|(with_reducible first|exact HB.out|apply sa|apply sn|apply sd|refine sx ?_ GE179.out)|exact HB.out)) hb);have n2_:=am (hbox);have n3_:=am ((by rw [hg];exact (sz (by repeat (first|(with_reducible first|exact HB.out|apply sa|apply sn|apply sd|refine sx ?_ GE179.out)|exact HB.out))) : w.heap.size ≤ gb180));have n4_:=n3_;have n5_:=nb (by exact BK179.out) hg;have n6_:=ng (by exact BK179.out) hg;clear BK179;clear HB;have BK179:=n0_;have HB:=n1_;have BK180:=n2_;have GW180:=n3_;have GE180:=n4_;have NB179_180:=n5_;have NB180_179:=n6_;clear n0_ n1_ n2_ n3_ n4_ n5_ n6_;clear hb hbox hg)|((with_reducible refine gate_dst (N:=4) rfl ?_);refine box_event ?hg (N:=4) ?hd (cs:=#[.int .i64 0,.int .i64 0]) (t:=25) ?hr ?_;(case hd => rfl);(case hg => rfl);(case hr => first|(go_simp;done)|(go_simp;rfl));intro gb181 hg w6 hbox hb;have n0_:=am (bw (by exact BK179.out) hb);have n1_:=am (bw (by exact BK180.out) hb);have n2_:=am (ss (by repeat (first|(with_reducible first|exact HB.out|apply sa|apply sn|apply sd|refine sy ?_ (by assumption))|exact HB.out)) hb);have n3_:=am (hbox);have n4_:=am ((by rw [hg];exact (sz (by repeat (first|(with_reducible first|exact HB.out|apply sa|apply sn|apply sd|refine sy ?_ (by assumption))|exact HB.out))) : w.heap.size ≤ gb181));have n5_:=n4_;have n6_:=nb (by exact BK179.out) hg;have n7_:=am (Ne.symm n6_.out);have n8_:=nb (by exact BK180.out) hg;have n9_:=ng (by exact BK180.out) hg;clear BK179;clear BK180;clear HB;have BK179:=n0_;have BK180:=n1_;have HB:=n2_;have BK181:=n3_;have GW181:=n4_;have GE181:=n5_;have NB179_181:=n6_;have NB181_179:=n7_;have NB180_181:=n8_;have NB181_180:=n9_;clear n0_ n1_ n2_ n3_ n4_ n5_ n6_ n7_ n8_ n9_;clear hb hbox hg;have hnb7:=NB179_180.out;have hnc7:=NB180_179.out;have hnb8:=NB179_181.out;have hnc8:=NB181_179.out;obtain ⟨hcz9_0,hcz9_1,hcz9_2,hcz9_3,hcz9_4,hcz9_5⟩:=cq6 BK179.out;obtain ⟨hfz9_0,hfz9_1,hfz9_2,hfz9_3,hfz9_4,hfz9_5⟩:=fq6 BK179.out));go_upto_region 2 with (first|((with_reducible refine gate_dst (N:=2) rfl ?_);refine box_event ?hg (N:=2) ?hd (cs:=#[.int .i64 a0_0,.int .i64 a0_1,.int .i64 a0_2,.int .i64 a0_3,.int .i64 a0_4,.int .i64 a0_5]) (t:=23) ?hr ?_;(case hd => rfl);(case hg => rfl);(case hr => first|(go_simp;done)|(go_simp;rfl));intro gb179 hg w4 hbox hb;have n0_:=am (ss (by repeat (first|(with_reducible first|exact HB.out|apply sa|apply sn|apply sd)|exact HB.out)) hb);have n1_:=am (hbox);have n2_:=am ((by rw [hg];exact (sz (by repeat (first|(with_reducible first|exact HB.out|apply sa|apply sn|apply sd)|exact HB.out))) : w.heap.size ≤ gb179));have n3_:=am ((by rw [hg];exact (sz (by repeat (first|(with_reducible first|exact HB.out|apply sa|apply sn|apply sd)|exact HB.out))) : w.heap.size ≤ gb179));clear HB;have HB:=n0_;have BK179:=n1_;have GW179:=n2_;have GE179:=n3_;clear n0_ n1_ n2_ n3_;clear hb hbox hg)|((with_reducible refine gate_dst (N:=3) rfl ?_);refine box_event ?hg (N:=3) ?hd (cs:=#[.int .i64 a1_0,.int .i64 a1_1]) (t:=25) ?hr ?_;(case hd => rfl);(case hg => rfl);(case hr => first|(go_simp;done)|(go_simp;rfl));intro gb180 hg w5 hbox hb;have n0_:=am (bw (by exact BK179.out) hb);have n1_:=am (ss (by repeat (first|(with_reducible first|exact HB.out|apply sa|apply sn|apply sd|refine sx ?_ GE179.out)|exact HB.out)) hb);have n2_:=am (hbox);have n3_:=am ((by rw [hg];exact (sz (by repeat (first|(with_reducible first|exact HB.out|apply sa|apply sn|apply sd|refine sx ?_ GE179.out)|exact HB.out))) : w.heap.size ≤ gb180));have n4_:=n3_;have n5_:=nb (by exact BK179.out) hg;have n6_:=ng (by exact BK179.out) hg;clear BK179;clear HB;have BK179:=n0_;have HB:=n1_;have BK180:=n2_;have GW180:=n3_;have GE180:=n4_;have NB179_180:=n5_;have NB180_179:=n6_;clear n0_ n1_ n2_ n3_ n4_ n5_ n6_;clear hb hbox hg)|((with_reducible refine gate_dst (N:=4) rfl ?_);refine box_event ?hg (N:=4) ?hd (cs:=#[.int .i64 0,.int .i64 0]) (t:=25) ?hr ?_;(case hd => rfl);(case hg => rfl);(case hr => first|(go_simp;done)|(go_simp;rfl));intro gb181 hg w6 hbox hb;have n0_:=am (bw (by exact BK179.out) hb);have n1_:=am (bw (by exact BK180.out) hb);have n2_:=am (ss (by repeat (first|(with_reducible first|exact HB.out|apply sa|apply sn|apply sd|refine sy ?_ (by assumption))|exact HB.out)) hb);have n3_:=am (hbox);have n4_:=am ((by rw [hg];exact (sz (by repeat (first|(with_reducible first|exact HB.out|apply sa|apply sn|apply sd|refine sy ?_ (by assumption))|exact HB.out))) : w.heap.size ≤ gb181));have n5_:=n4_;have n6_:=nb (by exact BK179.out) hg;have n7_:=am (Ne.symm n6_.out);have n8_:=nb (by exact BK180.out) hg;have n9_:=ng (by exact BK180.out) hg;clear BK179;clear BK180;clear HB;have BK179:=n0_;have BK180:=n1_;have HB:=n2_;have BK181:=n3_;have GW181:=n4_;have GE181:=n5_;have NB179_181:=n6_;have NB181_179:=n7_;have NB180_181:=n8_;have NB181_180:=n9_;clear n0_ n1_ n2_ n3_ n4_ n5_ n6_ n7_ n8_ n9_;clear hb hbox hg;have hnb7:=NB179_180.out;have hnc7:=NB180_179.out;have hnb8:=NB179_181.out;have hnc8:=NB181_179.out;obtain ⟨hcz9_0,hcz9_1,hcz9_2,hcz9_3,hcz9_4,hcz9_5⟩:=cq6 BK179.out;obtain ⟨hfz9_0,hfz9_1,hfz9_2,hfz9_3,hfz9_4,hfz9_5⟩:=fq6 BK179.out)))
  (try simp only [Act.put,q1,q2,q3])
  go_cut [35] (fun v35 wc => ∃ (kq : Nat) (x35_2 : Bool),v35 = .bool x35_2 ∧ Aside0 (affine_Back.j0 kq (wrap64 ((wrap64 (a0_0 * a0_3)) - (wrap64 (a0_1 * a0_2)))) x35_2 a0_0 a0_1 a0_2 a0_3 a0_4 a0_5 a1_0 a1_1 = some (r1,r2,r3)) ∧ Aside0 (kq ≤ k) ∧ Aside0 (wc.heap[gb179]? = some (.cells #[.int .i64 a0_0,.int .i64 a0_1,.int .i64 a0_2,.int .i64 a0_3,.int .i64 a0_4,.int .i64 a0_5] 23 (0,0))) ∧ Aside0 (wc.heap[gb180]? = some (.cells #[.int .i64 a1_0,.int .i64 a1_1] 25 (0,0))) ∧ Aside0 (wc.heap[gb181]? = some (.cells #[.int .i64 0,.int .i64 0] 25 (0,0))) ∧ Aside0 (Below w.heap.size w wc))
  case first =>
    have H:=HC3.out;clear HC3;replace H:=Option.bind_eq_some_iff.mp H;obtain ⟨t182,A100,H⟩:=H;replace H : (if t182 = true then ((affine_within.f a1_0 a1_1 16777216).bind fun t183 => (if t183 = true then (affine_Back.j0 k (wrap64 ((wrap64 (a0_0 * a0_3)) - (wrap64 (a0_1 * a0_2)))) ((wrap64 ((wrap64 (a0_0 * a0_3)) - (wrap64 (a0_1 * a0_2)))) == 0) a0_0 a0_1 a0_2 a0_3 a0_4 a0_5 a1_0 a1_1) else (affine_Back.j0 k (wrap64 ((wrap64 (a0_0 * a0_3)) - (wrap64 (a0_1 * a0_2)))) true a0_0 a0_1 a0_2 a0_3 a0_4 a0_5 a1_0 a1_1))) else (affine_Back.j0 k (wrap64 ((wrap64 (a0_0 * a0_3)) - (wrap64 (a0_1 * a0_2)))) true a0_0 a0_1 a0_2 a0_3 a0_4 a0_5 a1_0 a1_1)) = some (r1,r2,r3):=H;have A10:=am A100;clear A100
    by_cases c11 : t182 = true
    · subst c11
      have H1 : ((affine_within.f a1_0 a1_1 16777216).bind fun t183 => (if t183 = true then (affine_Back.j0 k (wrap64 ((wrap64 (a0_0 * a0_3)) - (wrap64 (a0_1 * a0_2)))) ((wrap64 ((wrap64 (a0_0 * a0_3)) - (wrap64 (a0_1 * a0_2)))) == 0) a0_0 a0_1 a0_2 a0_3 a0_4 a0_5 a1_0 a1_1) else (affine_Back.j0 k (wrap64 ((wrap64 (a0_0 * a0_3)) - (wrap64 (a0_1 * a0_2)))) true a0_0 a0_1 a0_2 a0_3 a0_4 a0_5 a1_0 a1_1))) = some (r1,r2,r3):=by rw [if_pos rfl] at H;exact H
      clear H;have H:=H1;clear H1;replace H:=Option.bind_eq_some_iff.mp H;obtain ⟨t183,A120,H⟩:=H;replace H : (if t183 = true then (affine_Back.j0 k (wrap64 ((wrap64 (a0_0 * a0_3)) - (wrap64 (a0_1 * a0_2)))) ((wrap64 ((wrap64 (a0_0 * a0_3)) - (wrap64 (a0_1 * a0_2)))) == 0) a0_0 a0_1 a0_2 a0_3 a0_4 a0_5 a1_0 a1_1) else (affine_Back.j0 k (wrap64 ((wrap64 (a0_0 * a0_3)) - (wrap64 (a0_1 * a0_2)))) true a0_0 a0_1 a0_2 a0_3 a0_4 a0_5 a1_0 a1_1)) = some (r1,r2,r3):=H;have A12:=am A120;clear A120
      by_cases c13 : t183 = true
      · subst c13
        have H1 : (affine_Back.j0 k (wrap64 ((wrap64 (a0_0 * a0_3)) - (wrap64 (a0_1 * a0_2)))) ((wrap64 ((wrap64 (a0_0 * a0_3)) - (wrap64 (a0_1 * a0_2)))) == 0) a0_0 a0_1 a0_2 a0_3 a0_4 a0_5 a1_0 a1_1) = some (r1,r2,r3):=by rw [if_pos rfl] at H;exact H
        clear H;have H:=H1;clear H1;have H':=am H;clear H;have hnb14:=NB179_180.out;have hnc14:=NB180_179.out;have hnb15:=NB179_181.out;have hnc15:=NB181_179.out;have hcz16_0 : w6.cell? ⟨gb179,0,none⟩ = some (.int .i64 a0_0):=(bc BK179.out 0).trans rfl;have hcz16_1 : w6.cell? ⟨gb179,1,none⟩ = some (.int .i64 a0_1):=(bc BK179.out 1).trans rfl;have hcz16_2 : w6.cell? ⟨gb179,2,none⟩ = some (.int .i64 a0_2):=(bc BK179.out 2).trans rfl;have hcz16_3 : w6.cell? ⟨gb179,3,none⟩ = some (.int .i64 a0_3):=(bc BK179.out 3).trans rfl;have hcz16_4 : w6.cell? ⟨gb179,4,none⟩ = some (.int .i64 a0_4):=(bc BK179.out 4).trans rfl;have hcz16_5 : w6.cell? ⟨gb179,5,none⟩ = some (.int .i64 a0_5):=(bc BK179.out 5).trans rfl;have hfz16_0:=bz BK179.out 0;have hfz16_1:=bz BK179.out 1;have hfz16_2:=bz BK179.out 2;have hfz16_3:=bz BK179.out 3;have hfz16_4:=bz BK179.out 4;have hfz16_5:=bz BK179.out 5
        go_wp2_with (first|(go_at_call 31;(with_reducible refine (field_RightMatrix.calls k a0_0 a0_1 a0_2 a0_3 a0_4 a0_5 true _ A10.out).mono ?_);rintro e w17 ⟨rfl,hb⟩;replace BK179:=am (bw (by exact BK179.out) hb);replace BK180:=am (bw (by exact BK180.out) hb);replace BK181:=am (bw (by exact BK181.out) hb);replace HB:=am (ss (by repeat (first|(with_reducible first|exact HB.out|apply sa|apply sn|apply sd|refine sy ?_ (by assumption))|exact HB.out)) hb);(try clear hb);(try clear hb2);(try clear hk);(try clear hi);have hnb18:=NB180_181.out;have hnc18:=NB181_180.out;obtain ⟨hcz19_0,hcz19_1⟩:=cq2 BK180.out;obtain ⟨hfz19_0,hfz19_1⟩:=fq2 BK180.out)|(go_at_call 32;(with_reducible refine (affine_within.calls a1_0 a1_1 16777216 true _ A12.out).mono ?_);rintro e w20 ⟨rfl,hb⟩;replace BK179:=am (bw (by exact BK179.out) hb);replace BK180:=am (bw (by exact BK180.out) hb);replace BK181:=am (bw (by exact BK181.out) hb);replace HB:=am (ss (by repeat (first|(with_reducible first|exact HB.out|apply sa|apply sn|apply sd|refine sy ?_ (by assumption))|exact HB.out)) hb);(try clear hb);(try clear hb2);(try clear hk);(try clear hi)))
        repeat (go_quiet (first|(go_at_call 31;(with_reducible refine (field_RightMatrix.calls k a0_0 a0_1 a0_2 a0_3 a0_4 a0_5 true _ A10.out).mono ?_);rintro e w17 ⟨rfl,hb⟩;have n0_:=am (bw (by exact BK179.out) hb);have n1_:=am (bw (by exact BK180.out) hb);have n2_:=am (bw (by exact BK181.out) hb);have n3_:=am (ss (by repeat (first|(with_reducible first|exact HB.out|apply sa|apply sn|apply sd|refine sy ?_ (by assumption))|exact HB.out)) hb);clear BK179;clear BK180;clear BK181;clear HB;have BK179:=n0_;have BK180:=n1_;have BK181:=n2_;have HB:=n3_;clear n0_ n1_ n2_ n3_;(try clear hb);(try clear hb2);(try clear hk);(try clear hi);have hnb18:=NB180_181.out;have hnc18:=NB181_180.out;obtain ⟨hcz19_0,hcz19_1⟩:=cq2 BK180.out;obtain ⟨hfz19_0,hfz19_1⟩:=fq2 BK180.out)|(go_at_call 32;(with_reducible refine (affine_within.calls a1_0 a1_1 16777216 true _ A12.out).mono ?_);rintro e w20 ⟨rfl,hb⟩;have n0_:=am (bw (by exact BK179.out) hb);have n1_:=am (bw (by exact BK180.out) hb);have n2_:=am (bw (by exact BK181.out) hb);have n3_:=am (ss (by repeat (first|(with_reducible first|exact HB.out|apply sa|apply sn|apply sd|refine sy ?_ (by assumption))|exact HB.out)) hb);clear BK179;clear BK180;clear BK181;clear HB;have BK179:=n0_;have BK180:=n1_;have BK181:=n2_;have HB:=n3_;clear n0_ n1_ n2_ n3_;(try clear hb);(try clear hb2);(try clear hk);(try clear hi)));try go_wp2_with (first|(go_at_call 31;(with_reducible refine (field_RightMatrix.calls k a0_0 a0_1 a0_2 a0_3 a0_4 a0_5 true _ A10.out).mono ?_);rintro e w17 ⟨rfl,hb⟩;have n0_:=am (bw (by exact BK179.out) hb);have n1_:=am (bw (by exact BK180.out) hb);have n2_:=am (bw (by exact BK181.out) hb);have n3_:=am (ss (by repeat (first|(with_reducible first|exact HB.out|apply sa|apply sn|apply sd|refine sy ?_ (by assumption))|exact HB.out)) hb);clear BK179;clear BK180;clear BK181;clear HB;have BK179:=n0_;have BK180:=n1_;have BK181:=n2_;have HB:=n3_;clear n0_ n1_ n2_ n3_;(try clear hb);(try clear hb2);(try clear hk);(try clear hi);have hnb18:=NB180_181.out;have hnc18:=NB181_180.out;obtain ⟨hcz19_0,hcz19_1⟩:=cq2 BK180.out;obtain ⟨hfz19_0,hfz19_1⟩:=fq2 BK180.out)|(go_at_call 32;(with_reducible refine (affine_within.calls a1_0 a1_1 16777216 true _ A12.out).mono ?_);rintro e w20 ⟨rfl,hb⟩;have n0_:=am (bw (by exact BK179.out) hb);have n1_:=am (bw (by exact BK180.out) hb);have n2_:=am (bw (by exact BK181.out) hb);have n3_:=am (ss (by repeat (first|(with_reducible first|exact HB.out|apply sa|apply sn|apply sd|refine sy ?_ (by assumption))|exact HB.out)) hb);clear BK179;clear BK180;clear BK181;clear HB;have BK179:=n0_;have BK180:=n1_;have BK181:=n2_;have HB:=n3_;clear n0_ n1_ n2_ n3_;(try clear hb);(try clear hb2);(try clear hk);(try clear hi))))
        go_meet
        case rel => exact ⟨_,(((wrap64 ((wrap64 (a0_0 * a0_3)) - (wrap64 (a0_1 * a0_2)))) == 0)),(by first|rfl|(simp;done)|(simp [*];done)),H',⟨by first|omega|exact Nat.le_refl _⟩,⟨by exact BK179.out⟩,⟨by exact BK180.out⟩,⟨by exact BK181.out⟩,⟨by repeat (first|(with_reducible first|exact HB.out|apply sa|apply sn|apply sd|refine sy ?_ (by assumption))|exact HB.out)⟩⟩
      · replace c13:=Bool.eq_false_iff.mpr c13
        subst c13
        have H1 : (affine_Back.j0 k (wrap64 ((wrap64 (a0_0 * a0_3)) - (wrap64 (a0_1 * a0_2)))) true a0_0 a0_1 a0_2 a0_3 a0_4 a0_5 a1_0 a1_1) = some (r1,r2,r3):=by rw [if_neg (show ¬ (false = true) by decide)] at H;exact H
        clear H;have H:=H1;clear H1;have H':=am H;clear H;have hnb21:=NB179_180.out;have hnc21:=NB180_179.out;have hnb22:=NB179_181.out;have hnc22:=NB181_179.out;have hcz23_0 : w6.cell? ⟨gb179,0,none⟩ = some (.int .i64 a0_0):=(bc BK179.out 0).trans rfl;have hcz23_1 : w6.cell? ⟨gb179,1,none⟩ = some (.int .i64 a0_1):=(bc BK179.out 1).trans rfl;have hcz23_2 : w6.cell? ⟨gb179,2,none⟩ = some (.int .i64 a0_2):=(bc BK179.out 2).trans rfl;have hcz23_3 : w6.cell? ⟨gb179,3,none⟩ = some (.int .i64 a0_3):=(bc BK179.out 3).trans rfl;have hcz23_4 : w6.cell? ⟨gb179,4,none⟩ = some (.int .i64 a0_4):=(bc BK179.out 4).trans rfl;have hcz23_5 : w6.cell? ⟨gb179,5,none⟩ = some (.int .i64 a0_5):=(bc BK179.out 5).trans rfl;have hfz23_0:=bz BK179.out 0;have hfz23_1:=bz BK179.out 1;have hfz23_2:=bz BK179.out 2;have hfz23_3:=bz BK179.out 3;have hfz23_4:=bz BK179.out 4;have hfz23_5:=bz BK179.out 5
        go_wp2_with (first|(go_at_call 31;(with_reducible refine (field_RightMatrix.calls k a0_0 a0_1 a0_2 a0_3 a0_4 a0_5 true _ A10.out).mono ?_);rintro e w24 ⟨rfl,hb⟩;replace BK179:=am (bw (by exact BK179.out) hb);replace BK180:=am (bw (by exact BK180.out) hb);replace BK181:=am (bw (by exact BK181.out) hb);replace HB:=am (ss (by repeat (first|(with_reducible first|exact HB.out|apply sa|apply sn|apply sd|refine sy ?_ (by assumption))|exact HB.out)) hb);(try clear hb);(try clear hb2);(try clear hk);(try clear hi);have hnb25:=NB180_181.out;have hnc25:=NB181_180.out;obtain ⟨hcz26_0,hcz26_1⟩:=cq2 BK180.out;obtain ⟨hfz26_0,hfz26_1⟩:=fq2 BK180.out)|(go_at_call 32;(with_reducible refine (affine_within.calls a1_0 a1_1 16777216 false _ A12.out).mono ?_);rintro e w27 ⟨rfl,hb⟩;replace BK179:=am (bw (by exact BK179.out) hb);replace BK180:=am (bw (by exact BK180.out) hb);replace BK181:=am (bw (by exact BK181.out) hb);replace HB:=am (ss (by repeat (first|(with_reducible first|exact HB.out|apply sa|apply sn|apply sd|refine sy ?_ (by assumption))|exact HB.out)) hb);(try clear hb);(try clear hb2);(try clear hk);(try clear hi)))
        repeat (go_quiet (first|(go_at_call 31;(with_reducible refine (field_RightMatrix.calls k a0_0 a0_1 a0_2 a0_3 a0_4 a0_5 true _ A10.out).mono ?_);rintro e w24 ⟨rfl,hb⟩;have n0_:=am (bw (by exact BK179.out) hb);have n1_:=am (bw (by exact BK180.out) hb);have n2_:=am (bw (by exact BK181.out) hb);have n3_:=am (ss (by repeat (first|(with_reducible first|exact HB.out|apply sa|apply sn|apply sd|refine sy ?_ (by assumption))|exact HB.out)) hb);clear BK179;clear BK180;clear BK181;clear HB;have BK179:=n0_;have BK180:=n1_;have BK181:=n2_;have HB:=n3_;clear n0_ n1_ n2_ n3_;(try clear hb);(try clear hb2);(try clear hk);(try clear hi);have hnb25:=NB180_181.out;have hnc25:=NB181_180.out;obtain ⟨hcz26_0,hcz26_1⟩:=cq2 BK180.out;obtain ⟨hfz26_0,hfz26_1⟩:=fq2 BK180.out)|(go_at_call 32;(with_reducible refine (affine_within.calls a1_0 a1_1 16777216 false _ A12.out).mono ?_);rintro e w27 ⟨rfl,hb⟩;have n0_:=am (bw (by exact BK179.out) hb);have n1_:=am (bw (by exact BK180.out) hb);have n2_:=am (bw (by exact BK181.out) hb);have n3_:=am (ss (by repeat (first|(with_reducible first|exact HB.out|apply sa|apply sn|apply sd|refine sy ?_ (by assumption))|exact HB.out)) hb);clear BK179;clear BK180;clear BK181;clear HB;have BK179:=n0_;have BK180:=n1_;have BK181:=n2_;have HB:=n3_;clear n0_ n1_ n2_ n3_;(try clear hb);(try clear hb2);(try clear hk);(try clear hi)));try go_wp2_with (first|(go_at_call 31;(with_reducible refine (field_RightMatrix.calls k a0_0 a0_1 a0_2 a0_3 a0_4 a0_5 true _ A10.out).mono ?_);rintro e w24 ⟨rfl,hb⟩;have n0_:=am (bw (by exact BK179.out) hb);have n1_:=am (bw (by exact BK180.out) hb);have n2_:=am (bw (by exact BK181.out) hb);have n3_:=am (ss (by repeat (first|(with_reducible first|exact HB.out|apply sa|apply sn|apply sd|refine sy ?_ (by assumption))|exact HB.out)) hb);clear BK179;clear BK180;clear BK181;clear HB;have BK179:=n0_;have BK180:=n1_;have BK181:=n2_;have HB:=n3_;clear n0_ n1_ n2_ n3_;(try clear hb);(try clear hb2);(try clear hk);(try clear hi);have hnb25:=NB180_181.out;have hnc25:=NB181_180.out;obtain ⟨hcz26_0,hcz26_1⟩:=cq2 BK180.out;obtain ⟨hfz26_0,hfz26_1⟩:=fq2 BK180.out)|(go_at_call 32;(with_reducible refine (affine_within.calls a1_0 a1_1 16777216 false _ A12.out).mono ?_);rintro e w27 ⟨rfl,hb⟩;have n0_:=am (bw (by exact BK179.out) hb);have n1_:=am (bw (by exact BK180.out) hb);have n2_:=am (bw (by exact BK181.out) hb);have n3_:=am (ss (by repeat (first|(with_reducible first|exact HB.out|apply sa|apply sn|apply sd|refine sy ?_ (by assumption))|exact HB.out)) hb);clear BK179;clear BK180;clear BK181;clear HB;have BK179:=n0_;have BK180:=n1_;have BK181:=n2_;have HB:=n3_;clear n0_ n1_ n2_ n3_;(try clear hb);(try clear hb2);(try clear hk);(try clear hi))))
        go_meet
        case rel => exact ⟨_,(true),(by first|rfl|(simp;done)|(simp [*];done)),H',⟨by first|omega|exact Nat.le_refl _⟩,⟨by exact BK179.out⟩,⟨by exact BK180.out⟩,⟨by exact BK181.out⟩,⟨by repeat (first|(with_reducible first|exact HB.out|apply sa|apply sn|apply sd|refine sy ?_ (by assumption))|exact HB.out)⟩⟩
    · replace c11:=Bool.eq_false_iff.mpr c11
      subst c11
      have H1 : (affine_Back.j0 k (wrap64 ((wrap64 (a0_0 * a0_3)) - (wrap64 (a0_1 * a0_2)))) true a0_0 a0_1 a0_2 a0_3 a0_4 a0_5 a1_0 a1_1) = some (r1,r2,r3):=by rw [if_neg (show ¬ (false = true) by decide)] at H;exact H
      clear H;have H:=H1;clear H1;have H':=am H;clear H;have hnb28:=NB179_180.out;have hnc28:=NB180_179.out;have hnb29:=NB179_181.out;have hnc29:=NB181_179.out;have hcz30_0 : w6.cell? ⟨gb179,0,none⟩ = some (.int .i64 a0_0):=(bc BK179.out 0).trans rfl;have hcz30_1 : w6.cell? ⟨gb179,1,none⟩ = some (.int .i64 a0_1):=(bc BK179.out 1).trans rfl;have hcz30_2 : w6.cell? ⟨gb179,2,none⟩ = some (.int .i64 a0_2):=(bc BK179.out 2).trans rfl;have hcz30_3 : w6.cell? ⟨gb179,3,none⟩ = some (.int .i64 a0_3):=(bc BK179.out 3).trans rfl;have hcz30_4 : w6.cell? ⟨gb179,4,none⟩ = some (.int .i64 a0_4):=(bc BK179.out 4).trans rfl;have hcz30_5 : w6.cell? ⟨gb179,5,none⟩ = some (.int .i64 a0_5):=(bc BK179.out 5).trans rfl;have hfz30_0:=bz BK179.out 0;have hfz30_1:=bz BK179.out 1;have hfz30_2:=bz BK179.out 2;have hfz30_3:=bz BK179.out 3;have hfz30_4:=bz BK179.out 4;have hfz30_5:=bz BK179.out 5
      go_wp2_with (first|(go_at_call 31;(with_reducible refine (field_RightMatrix.calls k a0_0 a0_1 a0_2 a0_3 a0_4 a0_5 false _ A10.out).mono ?_);rintro e w31 ⟨rfl,hb⟩;replace BK179:=am (bw (by exact BK179.out) hb);replace BK180:=am (bw (by exact BK180.out) hb);replace BK181:=am (bw (by exact BK181.out) hb);replace HB:=am (ss (by repeat (first|(with_reducible first|exact HB.out|apply sa|apply sn|apply sd|refine sy ?_ (by assumption))|exact HB.out)) hb);(try clear hb);(try clear hb2);(try clear hk);(try clear hi)))
      repeat (go_quiet (first|(go_at_call 31;(with_reducible refine (field_RightMatrix.calls k a0_0 a0_1 a0_2 a0_3 a0_4 a0_5 false _ A10.out).mono ?_);rintro e w31 ⟨rfl,hb⟩;have n0_:=am (bw (by exact BK179.out) hb);have n1_:=am (bw (by exact BK180.out) hb);have n2_:=am (bw (by exact BK181.out) hb);have n3_:=am (ss (by repeat (first|(with_reducible first|exact HB.out|apply sa|apply sn|apply sd|refine sy ?_ (by assumption))|exact HB.out)) hb);clear BK179;clear BK180;clear BK181;clear HB;have BK179:=n0_;have BK180:=n1_;have BK181:=n2_;have HB:=n3_;clear n0_ n1_ n2_ n3_;(try clear hb);(try clear hb2);(try clear hk);(try clear hi)));try go_wp2_with (first|(go_at_call 31;(with_reducible refine (field_RightMatrix.calls k a0_0 a0_1 a0_2 a0_3 a0_4 a0_5 false _ A10.out).mono ?_);rintro e w31 ⟨rfl,hb⟩;have n0_:=am (bw (by exact BK179.out) hb);have n1_:=am (bw (by exact BK180.out) hb);have n2_:=am (bw (by exact BK181.out) hb);have n3_:=am (ss (by repeat (first|(with_reducible first|exact HB.out|apply sa|apply sn|apply sd|refine sy ?_ (by assumption))|exact HB.out)) hb);clear BK179;clear BK180;clear BK181;clear HB;have BK179:=n0_;have BK180:=n1_;have BK181:=n2_;have HB:=n3_;clear n0_ n1_ n2_ n3_;(try clear hb);(try clear hb2);(try clear hk);(try clear hi))))
      go_meet
      case rel => exact ⟨_,(true),(by first|rfl|(simp;done)|(simp [*];done)),H',⟨by first|omega|exact Nat.le_refl _⟩,⟨by exact BK179.out⟩,⟨by exact BK180.out⟩,⟨by exact BK181.out⟩,⟨by repeat (first|(with_reducible first|exact HB.out|apply sa|apply sn|apply sd|refine sy ?_ (by assumption))|exact HB.out)⟩⟩
  case rest =>
    clear HC3
    try clear c1
    try clear c2
    try clear p2
    try clear p6
    try clear c7
    try clear c8
    try clear c11
    try clear c13
    try clear c14
    try clear c15
    try clear c18
    try clear c21
    try clear c22
    try clear c25
    try clear c28
    try clear c29
    try clear hcz16_0
    try clear hcz16_1
    try clear hcz16_2
    try clear hcz16_3
    try clear hcz16_4
    try clear hcz16_5
    try clear hcz19_0
    try clear hcz19_1
    try clear hcz23_0
    try clear hcz23_1
    try clear hcz23_2
    try clear hcz23_3
    try clear hcz23_4
    try clear hcz23_5
    try clear hcz26_0
    try clear hcz26_1
    try clear hcz30_0
    try clear hcz30_1
    try clear hcz30_2
    try clear hcz30_3
    try clear hcz30_4
    try clear hcz30_5
    try clear hcz9_0
    try clear hcz9_1
    try clear hcz9_2
    try clear hcz9_3
    try clear hcz9_4
    try clear hcz9_5
    try clear hfz16_0
    try clear hfz16_1
    try clear hfz16_2
    try clear hfz16_3
    try clear hfz16_4
    try clear hfz16_5
    try clear hfz19_0
    try clear hfz19_1
    try clear hfz23_0
    try clear hfz23_1
    try clear hfz23_2
    try clear hfz23_3
    try clear hfz23_4
    try clear hfz23_5
    try clear hfz26_0
    try clear hfz26_1
    try clear hfz30_0
    try clear hfz30_1
    try clear hfz30_2
    try clear hfz30_3
    try clear hfz30_4
    try clear hfz30_5
    try clear hfz9_0
    try clear hfz9_1
    try clear hfz9_2
    try clear hfz9_3
    try clear hfz9_4
    try clear hfz9_5
    obtain ⟨kq,x35_2,rfl,HA,HJ2,BK179,BK180,BK181,HB⟩:=hcut
    cases kq with
    | zero => exact absurd HA.out (by simp [affine_Back.j0])
    | succ kj2 =>
      have H:=HA.out;clear HA;simp only [affine_Back.j0] at H
      by_cases c32 : x35_2 = true
      · subst c32
        have H1 : (some (0,0,false)) = some (r1,r2,r3):=by rw [if_pos rfl] at H;exact H
        clear H;have H:=H1;clear H1;simp only [Option.some.injEq,Prod.mk.injEq] at H;obtain ⟨rfl,rfl,rfl⟩:=H;have hnb33:=NB181_179.out;have hnc33:=NB179_181.out;have hnb34:=NB181_180.out;have hnc34:=NB180_181.out;have hcz35_0 : wc.cell? ⟨gb181,0,none⟩ = some (.int .i64 0):=(bc BK181.out 0).trans rfl;have hcz35_1 : wc.cell? ⟨gb181,1,none⟩ = some (.int .i64 0):=(bc BK181.out 1).trans rfl;have hfz35_0:=bz BK181.out 0;have hfz35_1:=bz BK181.out 1
        go_wp2
        repeat (go_quiet (fail);try go_wp2)
        refine bodyPost_ret (results_ct rfl _ _ gb181 25 #[.int .i64 0,.int .i64 0] (0,0) _ rfl (by (with_reducible repeat (first|refine bn ?_ _|refine bd ?_|refine ba ?_ _));refine bp (cs:=#[.int .i64 0,.int .i64 0]) ?_ 1 _ rfl;(with_reducible repeat (first|refine bn ?_ _|refine bd ?_|refine ba ?_ _));refine bp (cs:=#[.int .i64 0,.int .i64 0]) ?_ 0 _ rfl;(with_reducible repeat (first|refine bn ?_ _|refine bd ?_|refine ba ?_ _));exact BK181.out) Try.underlying25 rfl (by kernel_rfl)) rfl ?_
        exact ⟨by first|rfl|(simp [errW_none,errW_some] <;> rfl)|(simp [*,errW_none,errW_some] <;> rfl),by repeat (first|(with_reducible first|exact HB.out|apply sa|apply sn|apply sd|refine sy ?_ (by assumption))|exact HB.out)⟩
      · replace c32:=Bool.eq_false_iff.mpr c32
        subst c32
        have H1 : ((fix_Floor.f kj2 (wrap64 ((wrap64 (a0_3 * (wrap64 ((wrap64 (a1_0 * 20480)) - (wrap64 (a0_4 * 65536)))))) - (wrap64 (a0_2 * (wrap64 ((wrap64 (a1_1 * 20480)) - (wrap64 (a0_5 * 65536)))))))) (wrap64 ((wrap64 (a0_0 * a0_3)) - (wrap64 (a0_1 * a0_2))))).bind fun bt184 => ((fix_Floor.f kj2 (wrap64 ((wrap64 (a0_0 * (wrap64 ((wrap64 (a1_1 * 20480)) - (wrap64 (a0_5 * 65536)))))) - (wrap64 (a0_1 * (wrap64 ((wrap64 (a1_0 * 20480)) - (wrap64 (a0_4 * 65536)))))))) (wrap64 ((wrap64 (a0_0 * a0_3)) - (wrap64 (a0_1 * a0_2))))).bind fun bt186 => (some (bt184.1,bt186.1,true)))) = some (r1,r2,r3):=by rw [if_neg (show ¬ (false = true) by decide)] at H;exact H
        clear H;have H:=H1;clear H1;replace H:=Option.bind_eq_some_iff.mp H;obtain ⟨⟨t184,t185⟩,A360,H⟩:=H;replace H : ((fix_Floor.f kj2 (wrap64 ((wrap64 (a0_0 * (wrap64 ((wrap64 (a1_1 * 20480)) - (wrap64 (a0_5 * 65536)))))) - (wrap64 (a0_1 * (wrap64 ((wrap64 (a1_0 * 20480)) - (wrap64 (a0_4 * 65536)))))))) (wrap64 ((wrap64 (a0_0 * a0_3)) - (wrap64 (a0_1 * a0_2))))).bind fun bt186 => (some (t184,bt186.1,true))) = some (r1,r2,r3):=H;have A36:=am A360;clear A360;replace H:=Option.bind_eq_some_iff.mp H;obtain ⟨⟨t186,t187⟩,A370,H⟩:=H;replace H : (some (t184,t186,true)) = some (r1,r2,r3):=H;have A37:=am A370;clear A370;simp only [Option.some.injEq,Prod.mk.injEq] at H;obtain ⟨rfl,rfl,rfl⟩:=H;have hnb38:=NB180_179.out;have hnc38:=NB179_180.out;have hnb39:=NB180_181.out;have hnc39:=NB181_180.out;have hcz40_0 : wc.cell? ⟨gb180,0,none⟩ = some (.int .i64 a1_0):=(bc BK180.out 0).trans rfl;have hcz40_1 : wc.cell? ⟨gb180,1,none⟩ = some (.int .i64 a1_1):=(bc BK180.out 1).trans rfl;have hfz40_0:=bz BK180.out 0;have hfz40_1:=bz BK180.out 1;have hnb41:=NB179_181.out;have hnc41:=NB181_179.out;have hcz42_0 : wc.cell? ⟨gb179,0,none⟩ = some (.int .i64 a0_0):=(bc BK179.out 0).trans rfl;have hcz42_1 : wc.cell? ⟨gb179,1,none⟩ = some (.int .i64 a0_1):=(bc BK179.out 1).trans rfl;have hcz42_2 : wc.cell? ⟨gb179,2,none⟩ = some (.int .i64 a0_2):=(bc BK179.out 2).trans rfl;have hcz42_3 : wc.cell? ⟨gb179,3,none⟩ = some (.int .i64 a0_3):=(bc BK179.out 3).trans rfl;have hcz42_4 : wc.cell? ⟨gb179,4,none⟩ = some (.int .i64 a0_4):=(bc BK179.out 4).trans rfl;have hcz42_5 : wc.cell? ⟨gb179,5,none⟩ = some (.int .i64 a0_5):=(bc BK179.out 5).trans rfl;have hfz42_0:=bz BK179.out 0;have hfz42_1:=bz BK179.out 1;have hfz42_2:=bz BK179.out 2;have hfz42_3:=bz BK179.out 3;have hfz42_4:=bz BK179.out 4;have hfz42_5:=bz BK179.out 5
        go_wp2_with (first|(go_at_call 35;(with_reducible refine (fix_Floor.calls kj2 (wrap64 ((wrap64 (a0_3 * (wrap64 ((wrap64 (a1_0 * 20480)) - (wrap64 (a0_4 * 65536)))))) - (wrap64 (a0_2 * (wrap64 ((wrap64 (a1_1 * 20480)) - (wrap64 (a0_5 * 65536)))))))) (wrap64 ((wrap64 (a0_0 * a0_3)) - (wrap64 (a0_1 * a0_2)))) t184 t185 _ A36.out).mono ?_);rintro e w43 ⟨rfl,hb⟩;replace BK179:=am (bw (by exact BK179.out) hb);replace BK180:=am (bw (by exact BK180.out) hb);replace BK181:=am (bw (by exact BK181.out) hb);replace HB:=am (ss (by repeat (first|(with_reducible first|exact HB.out|apply sa|apply sn|apply sd|refine sy ?_ (by assumption))|exact HB.out)) hb);(try clear hb);(try clear hb2);(try clear hk);(try clear hi);obtain ⟨hcz44_0,hcz44_1,hcz44_2,hcz44_3,hcz44_4,hcz44_5⟩:=cq6 BK179.out;obtain ⟨hfz44_0,hfz44_1,hfz44_2,hfz44_3,hfz44_4,hfz44_5⟩:=fq6 BK179.out)|(go_at_call 35;(with_reducible refine (fix_Floor.calls kj2 (wrap64 ((wrap64 (a0_0 * (wrap64 ((wrap64 (a1_1 * 20480)) - (wrap64 (a0_5 * 65536)))))) - (wrap64 (a0_1 * (wrap64 ((wrap64 (a1_0 * 20480)) - (wrap64 (a0_4 * 65536)))))))) (wrap64 ((wrap64 (a0_0 * a0_3)) - (wrap64 (a0_1 * a0_2)))) t186 t187 _ A37.out).mono ?_);rintro e w45 ⟨rfl,hb⟩;replace BK179:=am (bw (by exact BK179.out) hb);replace BK180:=am (bw (by exact BK180.out) hb);replace BK181:=am (bw (by exact BK181.out) hb);replace HB:=am (ss (by repeat (first|(with_reducible first|exact HB.out|apply sa|apply sn|apply sd|refine sy ?_ (by assumption))|exact HB.out)) hb);(try clear hb);(try clear hb2);(try clear hk);(try clear hi);obtain ⟨hcz46_0,hcz46_1⟩:=cq2 BK181.out;obtain ⟨hfz46_0,hfz46_1⟩:=fq2 BK181.out))
        repeat (go_quiet (first|(go_at_call 35;(with_reducible refine (fix_Floor.calls kj2 (wrap64 ((wrap64 (a0_3 * (wrap64 ((wrap64 (a1_0 * 20480)) - (wrap64 (a0_4 * 65536)))))) - (wrap64 (a0_2 * (wrap64 ((wrap64 (a1_1 * 20480)) - (wrap64 (a0_5 * 65536)))))))) (wrap64 ((wrap64 (a0_0 * a0_3)) - (wrap64 (a0_1 * a0_2)))) t184 t185 _ A36.out).mono ?_);rintro e w43 ⟨rfl,hb⟩;have n0_:=am (bw (by exact BK179.out) hb);have n1_:=am (bw (by exact BK180.out) hb);have n2_:=am (bw (by exact BK181.out) hb);have n3_:=am (ss (by repeat (first|(with_reducible first|exact HB.out|apply sa|apply sn|apply sd|refine sy ?_ (by assumption))|exact HB.out)) hb);clear BK179;clear BK180;clear BK181;clear HB;have BK179:=n0_;have BK180:=n1_;have BK181:=n2_;have HB:=n3_;clear n0_ n1_ n2_ n3_;(try clear hb);(try clear hb2);(try clear hk);(try clear hi);obtain ⟨hcz44_0,hcz44_1,hcz44_2,hcz44_3,hcz44_4,hcz44_5⟩:=cq6 BK179.out;obtain ⟨hfz44_0,hfz44_1,hfz44_2,hfz44_3,hfz44_4,hfz44_5⟩:=fq6 BK179.out)|(go_at_call 35;(with_reducible refine (fix_Floor.calls kj2 (wrap64 ((wrap64 (a0_0 * (wrap64 ((wrap64 (a1_1 * 20480)) - (wrap64 (a0_5 * 65536)))))) - (wrap64 (a0_1 * (wrap64 ((wrap64 (a1_0 * 20480)) - (wrap64 (a0_4 * 65536)))))))) (wrap64 ((wrap64 (a0_0 * a0_3)) - (wrap64 (a0_1 * a0_2)))) t186 t187 _ A37.out).mono ?_);rintro e w45 ⟨rfl,hb⟩;have n0_:=am (bw (by exact BK179.out) hb);have n1_:=am (bw (by exact BK180.out) hb);have n2_:=am (bw (by exact BK181.out) hb);have n3_:=am (ss (by repeat (first|(with_reducible first|exact HB.out|apply sa|apply sn|apply sd|refine sy ?_ (by assumption))|exact HB.out)) hb);clear BK179;clear BK180;clear BK181;clear HB;have BK179:=n0_;have BK180:=n1_;have BK181:=n2_;have HB:=n3_;clear n0_ n1_ n2_ n3_;(try clear hb);(try clear hb2);(try clear hk);(try clear hi);obtain ⟨hcz46_0,hcz46_1⟩:=cq2 BK181.out;obtain ⟨hfz46_0,hfz46_1⟩:=fq2 BK181.out));try go_wp2_with (first|(go_at_call 35;(with_reducible refine (fix_Floor.calls kj2 (wrap64 ((wrap64 (a0_3 * (wrap64 ((wrap64 (a1_0 * 20480)) - (wrap64 (a0_4 * 65536)))))) - (wrap64 (a0_2 * (wrap64 ((wrap64 (a1_1 * 20480)) - (wrap64 (a0_5 * 65536)))))))) (wrap64 ((wrap64 (a0_0 * a0_3)) - (wrap64 (a0_1 * a0_2)))) t184 t185 _ A36.out).mono ?_);rintro e w43 ⟨rfl,hb⟩;have n0_:=am (bw (by exact BK179.out) hb);have n1_:=am (bw (by exact BK180.out) hb);have n2_:=am (bw (by exact BK181.out) hb);have n3_:=am (ss (by repeat (first|(with_reducible first|exact HB.out|apply sa|apply sn|apply sd|refine sy ?_ (by assumption))|exact HB.out)) hb);clear BK179;clear BK180;clear BK181;clear HB;have BK179:=n0_;have BK180:=n1_;have BK181:=n2_;have HB:=n3_;clear n0_ n1_ n2_ n3_;(try clear hb);(try clear hb2);(try clear hk);(try clear hi);obtain ⟨hcz44_0,hcz44_1,hcz44_2,hcz44_3,hcz44_4,hcz44_5⟩:=cq6 BK179.out;obtain ⟨hfz44_0,hfz44_1,hfz44_2,hfz44_3,hfz44_4,hfz44_5⟩:=fq6 BK179.out)|(go_at_call 35;(with_reducible refine (fix_Floor.calls kj2 (wrap64 ((wrap64 (a0_0 * (wrap64 ((wrap64 (a1_1 * 20480)) - (wrap64 (a0_5 * 65536)))))) - (wrap64 (a0_1 * (wrap64 ((wrap64 (a1_0 * 20480)) - (wrap64 (a0_4 * 65536)))))))) (wrap64 ((wrap64 (a0_0 * a0_3)) - (wrap64 (a0_1 * a0_2)))) t186 t187 _ A37.out).mono ?_);rintro e w45 ⟨rfl,hb⟩;have n0_:=am (bw (by exact BK179.out) hb);have n1_:=am (bw (by exact BK180.out) hb);have n2_:=am (bw (by exact BK181.out) hb);have n3_:=am (ss (by repeat (first|(with_reducible first|exact HB.out|apply sa|apply sn|apply sd|refine sy ?_ (by assumption))|exact HB.out)) hb);clear BK179;clear BK180;clear BK181;clear HB;have BK179:=n0_;have BK180:=n1_;have BK181:=n2_;have HB:=n3_;clear n0_ n1_ n2_ n3_;(try clear hb);(try clear hb2);(try clear hk);(try clear hi);obtain ⟨hcz46_0,hcz46_1⟩:=cq2 BK181.out;obtain ⟨hfz46_0,hfz46_1⟩:=fq2 BK181.out)))
        refine bodyPost_ret (results_ct rfl _ _ gb181 25 #[.int .i64 t184,.int .i64 t186] (0,0) _ rfl (by (with_reducible repeat (first|refine bn ?_ _|refine bd ?_|refine ba ?_ _));refine bp (cs:=#[.int .i64 t184,.int .i64 0]) ?_ 1 _ rfl;(with_reducible repeat (first|refine bn ?_ _|refine bd ?_|refine ba ?_ _));refine bp (cs:=#[.int .i64 0,.int .i64 0]) ?_ 0 _ rfl;(with_reducible repeat (first|refine bn ?_ _|refine bd ?_|refine ba ?_ _));exact BK181.out) Try.underlying25 rfl (by kernel_rfl)) rfl ?_
        exact ⟨by first|rfl|(simp [errW_none,errW_some] <;> rfl)|(simp [*,errW_none,errW_some] <;> rfl),by repeat (first|(with_reducible first|exact HB.out|apply sa|apply sn|apply sd|refine sy ?_ (by assumption))|exact HB.out)⟩

/-! ### bits_Len: function 47 -/
def bits_Len.f (a0 : Int) : Option (Int):=if 0 ≤ a0 ∧ a0 ≤ 18446744073709551615 then some (Lib.bitLen a0.toNat : Int) else none
theorem bits_Len.calls (a0 : Int) (r : Int) (w : World) (h : bits_Len.f a0 = some r) :
    Calls Try.prog 47 #[.int .u64 a0] w fun e w' => e = .returned (.int .i64 r) ∧ Drawn0 w w':=by
  unfold bits_Len.f at h
  split at h
  · rename_i hb
    obtain rfl:=Option.some.inj h;refine (Try.bits_Len a0 w hb.1 hb.2).mono ?_
    rintro e w' ⟨rfl,rfl⟩
    exact ⟨rfl,Drawn0.refl _⟩
  · cases h

/-! ### fix_Root: function 39 -/
def fix_Root.l0 : Nat → Int → Int → Option (Int)
  | 0,_,_ => none
  | k + 1,x0,x3 => if x3 = 0 then (none) else (if (wrap64 (Int.tdiv (wrap64 (x3 + (wrap64 (Int.tdiv x0 x3)))) 2)) ≥ x3 then (some x3) else (fix_Root.l0 k x0 (wrap64 (Int.tdiv (wrap64 (x3 + (wrap64 (Int.tdiv x0 x3)))) 2))))
def fix_Root.f (k : Nat) (a0 : Int) : Option (Int):=if a0 < 1 then (some 0) else ((bits_Len.f (IntKind.u64.wrap (a0))).bind fun t188 => (if 0 ≤ (wrap64 (Int.tdiv (wrap64 (t188 + 1)) 2)) then (fix_Root.l0 k a0 (shl .i64 1 (wrap64 (Int.tdiv (wrap64 (t188 + 1)) 2)))) else (none)))
theorem fix_Root.mono_l : ∀ k,(∀ y0 y1,LeO (fix_Root.l0 k y0 y1) (fix_Root.l0 (k + 1) y0 y1))
  | 0 => fun _ _ r h => by simp [fix_Root.l0] at h
  | k + 1 => by
    have ih0:=fix_Root.mono_l k
    · intro y0 y1
      unfold fix_Root.l0
      repeat' first
      | (with_reducible exact ih0 _ _)
      | (with_reducible exact LeO.refl _)
      | (with_reducible exact LeO.none _)
      | (with_reducible refine LeO.ite ?_ ?_)
      | (with_reducible refine LeO.bind ?_ (fun _ => ?_))
      | exact ih0 _ _
      | exact LeO.none _
      | refine LeO.ite ?_ ?_
      | refine LeO.bind ?_ (fun _ => ?_)
theorem fix_Root.mono : ∀ a0 k,LeO (fix_Root.f k a0) (fix_Root.f (k + 1) a0):=by
  intro a0 k
  have ih0:=fix_Root.mono_l k
  unfold fix_Root.f
  repeat' first
      | (with_reducible exact ih0 _ _)
      | (with_reducible exact LeO.refl _)
      | (with_reducible exact LeO.none _)
      | (with_reducible refine LeO.ite ?_ ?_)
      | (with_reducible refine LeO.bind ?_ (fun _ => ?_))
      | exact ih0 _ _
      | exact LeO.none _
      | refine LeO.ite ?_ ?_
      | refine LeO.bind ?_ (fun _ => ?_)
set_option maxHeartbeats 8000000 in
set_option maxRecDepth 100000 in
theorem fix_Root.calls (k : Nat) (a0 : Int) (r : Int) (w : World) (h : fix_Root.f k a0 = some r) :
    Calls Try.prog 39 #[.int .i64 a0] w fun e w' => e = .returned (.int .i64 r) ∧ Drawn0 w w':=by
  have H : (if a0 < 1 then (some 0) else ((bits_Len.f (IntKind.u64.wrap (a0))).bind fun t188 => (if 0 ≤ (wrap64 (Int.tdiv (wrap64 (t188 + 1)) 2)) then (fix_Root.l0 k a0 (shl .i64 1 (wrap64 (Int.tdiv (wrap64 (t188 + 1)) 2)))) else (none)))) = some r:=h;clear h
  by_cases c2 : a0 < 1
  · rw [if_pos c2] at H
    have c2b0 : decide (a0 < 1) = true:=decide_eq_true c2;clear c2;obtain rfl:=Option.some.inj H
    go_enter Try.func39,Try.ntmps39
    go_wp2
    go_ret
    exact ⟨by first|rfl|(simp;done)|(simp [*];done),by repeat (first|exact Drawn0.refl _|apply Drawn0.step)⟩
  · rw [if_neg c2] at H
    have c2b0 : decide (a0 < 1) = false:=decide_eq_false c2;clear c2;replace H:=Option.bind_eq_some_iff.mp H;obtain ⟨t188,A30,H⟩:=H;replace H : (if 0 ≤ (wrap64 (Int.tdiv (wrap64 (t188 + 1)) 2)) then (fix_Root.l0 k a0 (shl .i64 1 (wrap64 (Int.tdiv (wrap64 (t188 + 1)) 2)))) else (none)) = some r:=H;have A3:=am A30;clear A30;obtain ⟨ji4,hji4⟩ : ∃ j_ : Int,(wrap64 (Int.tdiv (wrap64 (t188 + 1)) 2)) = j_:=⟨_,rfl⟩
    replace H : (if 0 ≤ (ji4) then (fix_Root.l0 k a0 (shl .i64 1 (ji4))) else (none)) = some r:=by first|(rw [hji4] at H;exact H)|(simp only [hji4] at H ⊢;exact H)
    (try rw [hji4] at A3);have hji4w : (IntKind.i64.wrap (Int.tdiv (wrap64 (t188 + 1)) 2)) = ji4:=(i64_w _).trans hji4
    by_cases c5 : 0 ≤ (ji4)
    · rw [if_pos c5] at H
      have c5b0:=eq_true c5;have c5b1 : decide (0 ≤ (ji4)) = true:=decide_eq_true c5;clear c5;obtain ⟨ji6,hji6⟩ : ∃ j_ : Int,(shl .i64 1 (ji4)) = j_:=⟨_,rfl⟩
      replace H : (fix_Root.l0 k a0 ji6) = some r:=by first|(rw [hji6] at H;exact H)|(simp only [hji6] at H ⊢;exact H)
      (try rw [hji6] at A3);have hji6_ : (IntKind.i64.wrap (1 * 2 ^ min (ji4).toNat 64)) = ji6:=hji6;have hji6z : (ji4) ≤ 64 → (IntKind.i64.wrap (1 * 2 ^ (ji4).toNat)) = ji6:=shl_small hji6
      have hji6u : (IntKind.i64.wrap (2 ^ min (ji4).toNat 64)) = ji6:=by have h_:=hji6_;rw [Int.one_mul] at h_;exact h_
      have hji6v : (ji4) ≤ 64 → (IntKind.i64.wrap (2 ^ (ji4).toNat)) = ji6:=fun hle_ => by have h_:=hji6z hle_;rw [Int.one_mul] at h_;exact h_
      have hji6y : (wrap64 (1 * 2 ^ min (ji4).toNat 64)) = ji6:=(i64_w _).symm.trans hji6_
      have hji6x : (ji4) ≤ 64 → (wrap64 (1 * 2 ^ (ji4).toNat)) = ji6:=fun h_ => (i64_w _).symm.trans (hji6z h_)
      have H':=am H;clear H
      go_enter Try.func39,Try.ntmps39
      go_wp2_with (first|((with_reducible refine gate_callee (f:=47) rfl ?_);refine goesL_ (some 9) rfl rfl Try.func47 (by kernel_rfl) rfl #[.int .u64 (IntKind.u64.wrap (a0))] rfl (by (try simp only [List.map_toArray,List.map_cons,List.map_nil]);first|done|rfl|(simp only [List.length_drop,List.length_take];rfl)) ?_;(with_reducible refine (bits_Len.calls (IntKind.u64.wrap (a0)) t188 _ A3.out).mono ?_);rintro e w' ⟨rfl,⟨nd,rfl⟩⟩;refine ⟨_,rfl,?_⟩))
      go_loopg [3] k (fun kq v3 w' => ∃ (x3_1 : Int),v3 = .int .i64 x3_1 ∧ Aside0 (fix_Root.l0 kq a0 x3_1 = some r) ∧ Aside0 (kq ≤ k) ∧ Drawn0 w w')
      case atStart => exact ⟨(ji6),(by first|rfl|(simp;done)|(simp only [← hji6] <;> (first|rfl|simp))|(simp [*];done)),H',⟨Nat.le_refl _⟩,by repeat (first|exact Drawn0.refl _|apply Drawn0.step)⟩
      case round =>
        clear H'
        try clear c2
        try clear c2b0
        try clear p2
        try clear c3
        try clear c4
        try clear c5
        try clear c5b0
        try clear c5b1
        try clear p6
        obtain ⟨x3_1,rfl,HA,HK1,⟨m1,rfl⟩⟩:=hrel
        cases gk with
        | zero => exact absurd HA.out (by simp [fix_Root.l0])
        | succ k1 =>
          have H:=HA.out;clear HA;simp only [fix_Root.l0] at H
          by_cases c7 : x3_1 = 0
          · rw [if_pos c7] at H
            exact absurd H (by simp)
          · rw [if_neg c7] at H
            have c7b0 : (x3_1 == 0) = false:=beq_eq_false_iff_ne.mpr c7;have c7b1 : (x3_1 != 0) = true:=bne_iff_ne.mpr c7
            by_cases c8 : (wrap64 (Int.tdiv (wrap64 (x3_1 + (wrap64 (Int.tdiv a0 x3_1)))) 2)) ≥ x3_1
            · rw [if_pos c8] at H
              have c8b0 : decide (x3_1 ≤ (wrap64 (Int.tdiv (wrap64 (x3_1 + (wrap64 (Int.tdiv a0 x3_1)))) 2))) = true:=decide_eq_true c8;clear c8;obtain rfl:=Option.some.inj H
              go_wp2
              go_ret
              exact ⟨by first|rfl|(simp;done)|(simp only [← hji4, ← hji6] <;> (first|rfl|simp))|(simp [*];done),by repeat (first|exact Drawn0.refl _|apply Drawn0.step)⟩
            · rw [if_neg c8] at H
              have c8b0 : decide (x3_1 ≤ (wrap64 (Int.tdiv (wrap64 (x3_1 + (wrap64 (Int.tdiv a0 x3_1)))) 2))) = false:=decide_eq_false c8;clear c8;have H':=am H;clear H
              go_wp2
              go_roundg k1
              case measure => have:=HK1.out;omega
              case rel => exact ⟨(wrap64 (Int.tdiv (wrap64 (x3_1 + (wrap64 (Int.tdiv a0 x3_1)))) 2)),(by first|rfl|(simp;done)|(simp [*];done)),H',⟨by have:=HK1.out;omega⟩,by repeat (first|exact Drawn0.refl _|apply Drawn0.step)⟩
    · rw [if_neg c5] at H
      exact absurd H (by simp)

/-! ### affine_Scale: function 19 -/
def affine_Scale.f (k : Nat) (a0_0 : Int) (a0_1 : Int) (a0_2 : Int) (a0_3 : Int) (a0_4 : Int) (a0_5 : Int) : Option (Int):=(field_RightMatrix.f k a0_0 a0_1 a0_2 a0_3 a0_4 a0_5).bind fun t190 => (if t190 = true then ((fix_Root.f k (mx (wrap64 ((wrap64 (a0_0 * a0_3)) - (wrap64 (a0_1 * a0_2)))) (wrap64 (-(wrap64 ((wrap64 (a0_0 * a0_3)) - (wrap64 (a0_1 * a0_2)))))))).bind fun t191 => (some t191)) else (some 0))
theorem affine_Scale.mono : ∀ a0 a1 a2 a3 a4 a5 k,LeO (affine_Scale.f k a0 a1 a2 a3 a4 a5) (affine_Scale.f (k + 1) a0 a1 a2 a3 a4 a5):=by
  intro a0 a1 a2 a3 a4 a5 k
  unfold affine_Scale.f
  repeat' first
      | (with_reducible exact field_RightMatrix.mono _ _ _ _ _ _ _)
      | (with_reducible exact fix_Root.mono _ _)
      | (with_reducible exact LeO.refl _)
      | (with_reducible exact LeO.none _)
      | (with_reducible refine LeO.ite ?_ ?_)
      | (with_reducible refine LeO.bind ?_ (fun _ => ?_))
      | exact field_RightMatrix.mono _ _ _ _ _ _ _
      | exact fix_Root.mono _ _
      | exact LeO.none _
      | refine LeO.ite ?_ ?_
      | refine LeO.bind ?_ (fun _ => ?_)
set_option maxHeartbeats 8000000 in
set_option maxRecDepth 100000 in
theorem affine_Scale.calls (k : Nat) (a0_0 : Int) (a0_1 : Int) (a0_2 : Int) (a0_3 : Int) (a0_4 : Int) (a0_5 : Int) (r : Int) (w : World) (h : affine_Scale.f k a0_0 a0_1 a0_2 a0_3 a0_4 a0_5 = some r) :
    Calls Try.prog 19 #[.agg #[.int .i64 a0_0,.int .i64 a0_1,.int .i64 a0_2,.int .i64 a0_3,.int .i64 a0_4,.int .i64 a0_5]] w fun e w' => e = .returned (.int .i64 r) ∧ Below w.heap.size w w':=by
  have hu23:=Try.underlying23;have HB:=am (Below.refl w.heap.size w);have H : ((field_RightMatrix.f k a0_0 a0_1 a0_2 a0_3 a0_4 a0_5).bind fun t190 => (if t190 = true then ((fix_Root.f k (mx (wrap64 ((wrap64 (a0_0 * a0_3)) - (wrap64 (a0_1 * a0_2)))) (wrap64 (-(wrap64 ((wrap64 (a0_0 * a0_3)) - (wrap64 (a0_1 * a0_2)))))))).bind fun t191 => (some t191)) else (some 0))) = some r:=h;clear h;replace H:=Option.bind_eq_some_iff.mp H;obtain ⟨t190,A20,H⟩:=H;replace H : (if t190 = true then ((fix_Root.f k (mx (wrap64 ((wrap64 (a0_0 * a0_3)) - (wrap64 (a0_1 * a0_2)))) (wrap64 (-(wrap64 ((wrap64 (a0_0 * a0_3)) - (wrap64 (a0_1 * a0_2)))))))).bind fun t191 => (some t191)) else (some 0)) = some r:=H;have A2:=am A20;clear A20
  by_cases c3 : t190 = true
  · subst c3
    have H1 : ((fix_Root.f k (mx (wrap64 ((wrap64 (a0_0 * a0_3)) - (wrap64 (a0_1 * a0_2)))) (wrap64 (-(wrap64 ((wrap64 (a0_0 * a0_3)) - (wrap64 (a0_1 * a0_2)))))))).bind fun t191 => (some t191)) = some r:=by rw [if_pos rfl] at H;exact H
    clear H;have H:=H1;clear H1;obtain ⟨ji4,hji4⟩ : ∃ j_ : Int,(mx (wrap64 ((wrap64 (a0_0 * a0_3)) - (wrap64 (a0_1 * a0_2)))) (wrap64 (-(wrap64 ((wrap64 (a0_0 * a0_3)) - (wrap64 (a0_1 * a0_2))))))) = j_:=⟨_,rfl⟩
    replace H : ((fix_Root.f k (ji4)).bind fun t191 => (some t191)) = some r:=by first|(rw [hji4] at H;exact H)|(simp only [hji4] at H ⊢;exact H)
    (try rw [hji4] at A2);have hji4_ : (if (wrap64 ((wrap64 (a0_0 * a0_3)) - (wrap64 (a0_1 * a0_2)))) < (wrap64 (-(wrap64 ((wrap64 (a0_0 * a0_3)) - (wrap64 (a0_1 * a0_2)))))) then (wrap64 (-(wrap64 ((wrap64 (a0_0 * a0_3)) - (wrap64 (a0_1 * a0_2)))))) else (wrap64 ((wrap64 (a0_0 * a0_3)) - (wrap64 (a0_1 * a0_2))))) = ji4:=hji4;replace H:=Option.bind_eq_some_iff.mp H;obtain ⟨t191,A50,H⟩:=H;replace H : (some t191) = some r:=H;have A5:=am A50;clear A50;obtain rfl:=Option.some.inj H
    go_enter Try.func19,Try.ntmps19
    go_wp2_with (first|((with_reducible refine gate_dst (N:=1) rfl ?_);refine box_event ?hg (N:=1) ?hd (cs:=#[.int .i64 a0_0,.int .i64 a0_1,.int .i64 a0_2,.int .i64 a0_3,.int .i64 a0_4,.int .i64 a0_5]) (t:=23) ?hr ?_;(case hd => rfl);(case hg => rfl);(case hr => first|(go_simp;done)|(go_simp;rfl));intro gb189 hg w6 hbox hb;have BK189:=am (hbox);have GW189:=am ((by rw [hg];exact (sz (by repeat (first|(with_reducible first|exact HB.out|apply sa|apply sn|apply sd)|exact HB.out))) : w.heap.size ≤ gb189));have GE189:=am ((by rw [hg];exact (sz (by repeat (first|(with_reducible first|exact HB.out|apply sa|apply sn|apply sd)|exact HB.out))) : w.heap.size ≤ gb189));replace HB:=am (ss (by repeat (first|(with_reducible first|exact HB.out|apply sa|apply sn|apply sd)|exact HB.out)) hb);clear hb hbox hg;obtain ⟨hcz7_0,hcz7_1,hcz7_2,hcz7_3,hcz7_4,hcz7_5⟩:=cq6 BK189.out;obtain ⟨hfz7_0,hfz7_1,hfz7_2,hfz7_3,hfz7_4,hfz7_5⟩:=fq6 BK189.out)|((with_reducible refine gate_callee (f:=31) rfl ?_);refine goesL_ (some 5) rfl rfl Try.func31 (by kernel_rfl) rfl #[.agg #[.int .i64 a0_0,.int .i64 a0_1,.int .i64 a0_2,.int .i64 a0_3,.int .i64 a0_4,.int .i64 a0_5]] rfl (by (try simp only [List.map_toArray,List.map_cons,List.map_nil]);first|done|rfl|(simp only [List.length_drop,List.length_take];rfl)) ?_;(with_reducible refine (field_RightMatrix.calls k a0_0 a0_1 a0_2 a0_3 a0_4 a0_5 true _ A2.out).mono ?_);rintro e w8 ⟨rfl,hb⟩;refine ⟨_,rfl,?_⟩;replace BK189:=am (bw (by exact BK189.out) hb);replace HB:=am (ss (by repeat (first|(with_reducible first|exact HB.out|apply sa|apply sn|apply sd|refine sx ?_ GE189.out)|exact HB.out)) hb);(try clear hb);(try clear hb2);(try clear hk);(try clear hi);obtain ⟨hcz9_0,hcz9_1,hcz9_2,hcz9_3,hcz9_4,hcz9_5⟩:=cq6 BK189.out;obtain ⟨hfz9_0,hfz9_1,hfz9_2,hfz9_3,hfz9_4,hfz9_5⟩:=fq6 BK189.out)|((with_reducible refine gate_callee (f:=39) rfl ?_);refine goesL_ (some 22) rfl rfl Try.func39 (by kernel_rfl) rfl #[.int .i64 ji4] rfl (by (try simp only [List.map_toArray,List.map_cons,List.map_nil]);first|done|(simp only [hji4];rfl)|rfl|(simp only [List.length_drop,List.length_take];rfl)) ?_;(with_reducible refine (fix_Root.calls k ji4 t191 _ A5.out).mono ?_);rintro e w' ⟨rfl,⟨nd,rfl⟩⟩;refine ⟨_,rfl,?_⟩))
    go_ret
    exact ⟨by first|rfl|(simp [errW_none,errW_some] <;> rfl)|(simp only [← hji4];first|rfl|(simp [errW_none,errW_some] <;> rfl))|(simp [*,errW_none,errW_some] <;> rfl),by repeat (first|(with_reducible first|exact HB.out|apply sa|apply sn|apply sd|refine sx ?_ GE189.out)|exact HB.out)⟩
  · replace c3:=Bool.eq_false_iff.mpr c3
    subst c3
    have H1 : (some 0) = some r:=by rw [if_neg (show ¬ (false = true) by decide)] at H;exact H
    clear H;have H:=H1;clear H1;obtain rfl:=Option.some.inj H
    go_enter Try.func19,Try.ntmps19
    go_wp2_with (first|((with_reducible refine gate_dst (N:=1) rfl ?_);refine box_event ?hg (N:=1) ?hd (cs:=#[.int .i64 a0_0,.int .i64 a0_1,.int .i64 a0_2,.int .i64 a0_3,.int .i64 a0_4,.int .i64 a0_5]) (t:=23) ?hr ?_;(case hd => rfl);(case hg => rfl);(case hr => first|(go_simp;done)|(go_simp;rfl));intro gb189 hg w10 hbox hb;have BK189:=am (hbox);have GW189:=am ((by rw [hg];exact (sz (by repeat (first|(with_reducible first|exact HB.out|apply sa|apply sn|apply sd)|exact HB.out))) : w.heap.size ≤ gb189));have GE189:=am ((by rw [hg];exact (sz (by repeat (first|(with_reducible first|exact HB.out|apply sa|apply sn|apply sd)|exact HB.out))) : w.heap.size ≤ gb189));replace HB:=am (ss (by repeat (first|(with_reducible first|exact HB.out|apply sa|apply sn|apply sd)|exact HB.out)) hb);clear hb hbox hg;obtain ⟨hcz11_0,hcz11_1,hcz11_2,hcz11_3,hcz11_4,hcz11_5⟩:=cq6 BK189.out;obtain ⟨hfz11_0,hfz11_1,hfz11_2,hfz11_3,hfz11_4,hfz11_5⟩:=fq6 BK189.out)|((with_reducible refine gate_callee (f:=31) rfl ?_);refine goesL_ (some 5) rfl rfl Try.func31 (by kernel_rfl) rfl #[.agg #[.int .i64 a0_0,.int .i64 a0_1,.int .i64 a0_2,.int .i64 a0_3,.int .i64 a0_4,.int .i64 a0_5]] rfl (by (try simp only [List.map_toArray,List.map_cons,List.map_nil]);first|done|rfl|(simp only [List.length_drop,List.length_take];rfl)) ?_;(with_reducible refine (field_RightMatrix.calls k a0_0 a0_1 a0_2 a0_3 a0_4 a0_5 false _ A2.out).mono ?_);rintro e w12 ⟨rfl,hb⟩;refine ⟨_,rfl,?_⟩;replace BK189:=am (bw (by exact BK189.out) hb);replace HB:=am (ss (by repeat (first|(with_reducible first|exact HB.out|apply sa|apply sn|apply sd|refine sx ?_ GE189.out)|exact HB.out)) hb);(try clear hb);(try clear hb2);(try clear hk);(try clear hi)))
    go_ret
    exact ⟨by first|rfl|(simp [errW_none,errW_some] <;> rfl)|(simp [*,errW_none,errW_some] <;> rfl),by repeat (first|(with_reducible first|exact HB.out|apply sa|apply sn|apply sd|refine sx ?_ GE189.out)|exact HB.out)⟩

/-! ### celluloidlaw14_same: function 30 -/
def celluloidlaw14_same.f  : Option (Int × Int × Int × Int × Int × Int):=some (65536,0,0,65536,0,0)
set_option maxHeartbeats 8000000 in
set_option maxRecDepth 100000 in
theorem celluloidlaw14_same.calls  (r1 : Int) (r2 : Int) (r3 : Int) (r4 : Int) (r5 : Int) (r6 : Int) (w : World) (h : celluloidlaw14_same.f  = some (r1,r2,r3,r4,r5,r6)) :
    Calls Try.prog 30 #[] w fun e w' => e = .returned (.agg #[.int .i64 r1,.int .i64 r2,.int .i64 r3,.int .i64 r4,.int .i64 r5,.int .i64 r6]) ∧ Below w.heap.size w w':=by
  have hu23:=Try.underlying23;have HB:=am (Below.refl w.heap.size w);have H : (some (65536,0,0,65536,0,0)) = some (r1,r2,r3,r4,r5,r6):=h;clear h;simp only [Option.some.injEq,Prod.mk.injEq] at H;obtain ⟨rfl,rfl,rfl,rfl,rfl,rfl⟩:=H
  go_enter Try.func30,Try.ntmps30
  go_wp2_with (first|((with_reducible refine gate_dst (N:=0) rfl ?_);refine box_event ?hg (N:=0) ?hd (cs:=#[.int .i64 0,.int .i64 0,.int .i64 0,.int .i64 0,.int .i64 0,.int .i64 0]) (t:=23) ?hr ?_;(case hd => rfl);(case hg => rfl);(case hr => first|(go_simp;done)|(go_simp;rfl));intro gb192 hg w1 hbox hb;have BK192:=am (hbox);have GW192:=am ((by rw [hg];exact (sz (by repeat (first|(with_reducible first|exact HB.out|apply sa|apply sn|apply sd)|exact HB.out))) : w.heap.size ≤ gb192));have GE192:=am ((by rw [hg];exact (sz (by repeat (first|(with_reducible first|exact HB.out|apply sa|apply sn|apply sd)|exact HB.out))) : w.heap.size ≤ gb192));replace HB:=am (ss (by repeat (first|(with_reducible first|exact HB.out|apply sa|apply sn|apply sd)|exact HB.out)) hb);clear hb hbox hg;obtain ⟨hcz2_0,hcz2_1,hcz2_2,hcz2_3,hcz2_4,hcz2_5⟩:=cq6 BK192.out;obtain ⟨hfz2_0,hfz2_1,hfz2_2,hfz2_3,hfz2_4,hfz2_5⟩:=fq6 BK192.out))
  refine bodyPost_ret (results_cell_row rfl _ _ gb192 23 #[.int .i64 65536,.int .i64 0,.int .i64 0,.int .i64 65536,.int .i64 0,.int .i64 0] (0,0) _ rfl (by (with_reducible repeat (first|refine bn ?_ _|refine bd ?_|refine ba ?_ _));refine bp (cs:=#[.int .i64 65536,.int .i64 0,.int .i64 0,.int .i64 65536,.int .i64 0,.int .i64 0]) ?_ 5 _ rfl;(with_reducible repeat (first|refine bn ?_ _|refine bd ?_|refine ba ?_ _));refine bp (cs:=#[.int .i64 65536,.int .i64 0,.int .i64 0,.int .i64 65536,.int .i64 0,.int .i64 0]) ?_ 4 _ rfl;(with_reducible repeat (first|refine bn ?_ _|refine bd ?_|refine ba ?_ _));refine bp (cs:=#[.int .i64 65536,.int .i64 0,.int .i64 0,.int .i64 0,.int .i64 0,.int .i64 0]) ?_ 3 _ rfl;(with_reducible repeat (first|refine bn ?_ _|refine bd ?_|refine ba ?_ _));refine bp (cs:=#[.int .i64 65536,.int .i64 0,.int .i64 0,.int .i64 0,.int .i64 0,.int .i64 0]) ?_ 2 _ rfl;(with_reducible repeat (first|refine bn ?_ _|refine bd ?_|refine ba ?_ _));refine bp (cs:=#[.int .i64 65536,.int .i64 0,.int .i64 0,.int .i64 0,.int .i64 0,.int .i64 0]) ?_ 1 _ rfl;(with_reducible repeat (first|refine bn ?_ _|refine bd ?_|refine ba ?_ _));refine bp (cs:=#[.int .i64 0,.int .i64 0,.int .i64 0,.int .i64 0,.int .i64 0,.int .i64 0]) ?_ 0 _ rfl;(with_reducible repeat (first|refine bn ?_ _|refine bd ?_|refine ba ?_ _));exact BK192.out) Try.underlying23 rfl (by kernel_rfl)) rfl ?_
  exact ⟨by first|rfl|(simp [errW_none,errW_some] <;> rfl)|(simp [*,errW_none,errW_some] <;> rfl),by repeat (first|(with_reducible first|exact HB.out|apply sa|apply sn|apply sd|refine sx ?_ GE192.out)|exact HB.out)⟩

/-! ### celluloidlaw14_awake: function 14 -/
def celluloidlaw14_awake.f (k : Nat)  : Option (Bool):=(celluloidlaw14_same.f).bind fun bt193 => ((affine_Apply.f k bt193.1 bt193.2.1 bt193.2.2.1 bt193.2.2.2.1 bt193.2.2.2.2.1 bt193.2.2.2.2.2 20 40).bind fun bt199 => ((celluloidlaw14_same.f).bind fun bt203 => ((affine_Grid.f k bt203.1 bt203.2.1 bt203.2.2.1 bt203.2.2.2.1 bt203.2.2.2.2.1 bt203.2.2.2.2.2 20 40).bind fun bt209 => ((celluloidlaw14_same.f).bind fun bt213 => ((affine_Back.f k bt213.1 bt213.2.1 bt213.2.2.1 bt213.2.2.2.1 bt213.2.2.2.2.1 bt213.2.2.2.2.2 64 128).bind fun bt219 => (if (bt199.1 == 1310720 && (bt199.2.1 == 2621440)) = true then (if bt199.2.2 = 0 then (if (bt209.1 == 64 && (bt209.2.1 == 128)) = true then (if bt209.2.2 = 0 then (if (bt219.1 == 20 && (bt219.2.1 == 40)) = true then (if bt219.2.2 = true then ((celluloidlaw14_same.f).bind fun bt223 => ((affine_Scale.f k bt223.1 bt223.2.1 bt223.2.2.1 bt223.2.2.2.1 bt223.2.2.2.2.1 bt223.2.2.2.2.2).bind fun t229 => (some (t229 == 65536)))) else (some false)) else (some false)) else (some false)) else (some false)) else (some false)) else (some false)))))))
theorem celluloidlaw14_awake.mono : ∀ k,LeO (celluloidlaw14_awake.f k ) (celluloidlaw14_awake.f (k + 1) ):=by
  intro  k
  unfold celluloidlaw14_awake.f
  repeat' first
      | (with_reducible exact affine_Apply.mono _ _ _ _ _ _ _ _ _)
      | (with_reducible exact affine_Back.mono _ _ _ _ _ _ _ _ _)
      | (with_reducible exact affine_Grid.mono _ _ _ _ _ _ _ _ _)
      | (with_reducible exact affine_Scale.mono _ _ _ _ _ _ _)
      | (with_reducible exact LeO.refl _)
      | (with_reducible exact LeO.none _)
      | (with_reducible refine LeO.ite ?_ ?_)
      | (with_reducible refine LeO.bind ?_ (fun _ => ?_))
      | exact affine_Apply.mono _ _ _ _ _ _ _ _ _
      | exact affine_Back.mono _ _ _ _ _ _ _ _ _
      | exact affine_Grid.mono _ _ _ _ _ _ _ _ _
      | exact affine_Scale.mono _ _ _ _ _ _ _
      | exact LeO.none _
      | refine LeO.ite ?_ ?_
      | refine LeO.bind ?_ (fun _ => ?_)
set_option maxHeartbeats 8000000 in
set_option maxRecDepth 100000 in
theorem celluloidlaw14_awake.calls (k : Nat)  (r : Bool) (w : World) (h : celluloidlaw14_awake.f k  = some r) :
    Calls Try.prog 14 #[] w fun e w' => e = .returned (.bool r) ∧ Below w.heap.size w w':=by
  have hu25:=Try.underlying25;have HB:=am (Below.refl w.heap.size w);have H : ((celluloidlaw14_same.f).bind fun bt193 => ((affine_Apply.f k bt193.1 bt193.2.1 bt193.2.2.1 bt193.2.2.2.1 bt193.2.2.2.2.1 bt193.2.2.2.2.2 20 40).bind fun bt199 => ((celluloidlaw14_same.f).bind fun bt203 => ((affine_Grid.f k bt203.1 bt203.2.1 bt203.2.2.1 bt203.2.2.2.1 bt203.2.2.2.2.1 bt203.2.2.2.2.2 20 40).bind fun bt209 => ((celluloidlaw14_same.f).bind fun bt213 => ((affine_Back.f k bt213.1 bt213.2.1 bt213.2.2.1 bt213.2.2.2.1 bt213.2.2.2.2.1 bt213.2.2.2.2.2 64 128).bind fun bt219 => (if (bt199.1 == 1310720 && (bt199.2.1 == 2621440)) = true then (if bt199.2.2 = 0 then (if (bt209.1 == 64 && (bt209.2.1 == 128)) = true then (if bt209.2.2 = 0 then (if (bt219.1 == 20 && (bt219.2.1 == 40)) = true then (if bt219.2.2 = true then ((celluloidlaw14_same.f).bind fun bt223 => ((affine_Scale.f k bt223.1 bt223.2.1 bt223.2.2.1 bt223.2.2.2.1 bt223.2.2.2.2.1 bt223.2.2.2.2.2).bind fun t229 => (some (t229 == 65536)))) else (some false)) else (some false)) else (some false)) else (some false)) else (some false)) else (some false)))))))) = some r:=h;clear h;replace H:=Option.bind_eq_some_iff.mp H;obtain ⟨⟨t193,t194,t195,t196,t197,t198⟩,A10,H⟩:=H;replace H : ((affine_Apply.f k t193 t194 t195 t196 t197 t198 20 40).bind fun bt199 => ((celluloidlaw14_same.f).bind fun bt203 => ((affine_Grid.f k bt203.1 bt203.2.1 bt203.2.2.1 bt203.2.2.2.1 bt203.2.2.2.2.1 bt203.2.2.2.2.2 20 40).bind fun bt209 => ((celluloidlaw14_same.f).bind fun bt213 => ((affine_Back.f k bt213.1 bt213.2.1 bt213.2.2.1 bt213.2.2.2.1 bt213.2.2.2.2.1 bt213.2.2.2.2.2 64 128).bind fun bt219 => (if (bt199.1 == 1310720 && (bt199.2.1 == 2621440)) = true then (if bt199.2.2 = 0 then (if (bt209.1 == 64 && (bt209.2.1 == 128)) = true then (if bt209.2.2 = 0 then (if (bt219.1 == 20 && (bt219.2.1 == 40)) = true then (if bt219.2.2 = true then ((celluloidlaw14_same.f).bind fun bt223 => ((affine_Scale.f k bt223.1 bt223.2.1 bt223.2.2.1 bt223.2.2.2.1 bt223.2.2.2.2.1 bt223.2.2.2.2.2).bind fun t229 => (some (t229 == 65536)))) else (some false)) else (some false)) else (some false)) else (some false)) else (some false)) else (some false))))))) = some r:=H;have A1:=am A10;clear A10;replace H:=Option.bind_eq_some_iff.mp H;obtain ⟨⟨t199,t200,t201⟩,A20,H⟩:=H;replace H : ((celluloidlaw14_same.f).bind fun bt203 => ((affine_Grid.f k bt203.1 bt203.2.1 bt203.2.2.1 bt203.2.2.2.1 bt203.2.2.2.2.1 bt203.2.2.2.2.2 20 40).bind fun bt209 => ((celluloidlaw14_same.f).bind fun bt213 => ((affine_Back.f k bt213.1 bt213.2.1 bt213.2.2.1 bt213.2.2.2.1 bt213.2.2.2.2.1 bt213.2.2.2.2.2 64 128).bind fun bt219 => (if (t199 == 1310720 && (t200 == 2621440)) = true then (if t201 = 0 then (if (bt209.1 == 64 && (bt209.2.1 == 128)) = true then (if bt209.2.2 = 0 then (if (bt219.1 == 20 && (bt219.2.1 == 40)) = true then (if bt219.2.2 = true then ((celluloidlaw14_same.f).bind fun bt223 => ((affine_Scale.f k bt223.1 bt223.2.1 bt223.2.2.1 bt223.2.2.2.1 bt223.2.2.2.2.1 bt223.2.2.2.2.2).bind fun t229 => (some (t229 == 65536)))) else (some false)) else (some false)) else (some false)) else (some false)) else (some false)) else (some false)))))) = some r:=H;have A2:=am A20;clear A20;replace H:=Option.bind_eq_some_iff.mp H;obtain ⟨⟨t203,t204,t205,t206,t207,t208⟩,A30,H⟩:=H;replace H : ((affine_Grid.f k t203 t204 t205 t206 t207 t208 20 40).bind fun bt209 => ((celluloidlaw14_same.f).bind fun bt213 => ((affine_Back.f k bt213.1 bt213.2.1 bt213.2.2.1 bt213.2.2.2.1 bt213.2.2.2.2.1 bt213.2.2.2.2.2 64 128).bind fun bt219 => (if (t199 == 1310720 && (t200 == 2621440)) = true then (if t201 = 0 then (if (bt209.1 == 64 && (bt209.2.1 == 128)) = true then (if bt209.2.2 = 0 then (if (bt219.1 == 20 && (bt219.2.1 == 40)) = true then (if bt219.2.2 = true then ((celluloidlaw14_same.f).bind fun bt223 => ((affine_Scale.f k bt223.1 bt223.2.1 bt223.2.2.1 bt223.2.2.2.1 bt223.2.2.2.2.1 bt223.2.2.2.2.2).bind fun t229 => (some (t229 == 65536)))) else (some false)) else (some false)) else (some false)) else (some false)) else (some false)) else (some false))))) = some r:=H;have A3:=am A30;clear A30;replace H:=Option.bind_eq_some_iff.mp H;obtain ⟨⟨t209,t210,t211⟩,A40,H⟩:=H;replace H : ((celluloidlaw14_same.f).bind fun bt213 => ((affine_Back.f k bt213.1 bt213.2.1 bt213.2.2.1 bt213.2.2.2.1 bt213.2.2.2.2.1 bt213.2.2.2.2.2 64 128).bind fun bt219 => (if (t199 == 1310720 && (t200 == 2621440)) = true then (if t201 = 0 then (if (t209 == 64 && (t210 == 128)) = true then (if t211 = 0 then (if (bt219.1 == 20 && (bt219.2.1 == 40)) = true then (if bt219.2.2 = true then ((celluloidlaw14_same.f).bind fun bt223 => ((affine_Scale.f k bt223.1 bt223.2.1 bt223.2.2.1 bt223.2.2.2.1 bt223.2.2.2.2.1 bt223.2.2.2.2.2).bind fun t229 => (some (t229 == 65536)))) else (some false)) else (some false)) else (some false)) else (some false)) else (some false)) else (some false)))) = some r:=H;have A4:=am A40;clear A40;replace H:=Option.bind_eq_some_iff.mp H;obtain ⟨⟨t213,t214,t215,t216,t217,t218⟩,A50,H⟩:=H;replace H : ((affine_Back.f k t213 t214 t215 t216 t217 t218 64 128).bind fun bt219 => (if (t199 == 1310720 && (t200 == 2621440)) = true then (if t201 = 0 then (if (t209 == 64 && (t210 == 128)) = true then (if t211 = 0 then (if (bt219.1 == 20 && (bt219.2.1 == 40)) = true then (if bt219.2.2 = true then ((celluloidlaw14_same.f).bind fun bt223 => ((affine_Scale.f k bt223.1 bt223.2.1 bt223.2.2.1 bt223.2.2.2.1 bt223.2.2.2.2.1 bt223.2.2.2.2.2).bind fun t229 => (some (t229 == 65536)))) else (some false)) else (some false)) else (some false)) else (some false)) else (some false)) else (some false))) = some r:=H;have A5:=am A50;clear A50;replace H:=Option.bind_eq_some_iff.mp H;obtain ⟨⟨t219,t220,t221⟩,A60,H⟩:=H;replace H : (if (t199 == 1310720 && (t200 == 2621440)) = true then (if t201 = 0 then (if (t209 == 64 && (t210 == 128)) = true then (if t211 = 0 then (if (t219 == 20 && (t220 == 40)) = true then (if t221 = true then ((celluloidlaw14_same.f).bind fun bt223 => ((affine_Scale.f k bt223.1 bt223.2.1 bt223.2.2.1 bt223.2.2.2.1 bt223.2.2.2.2.1 bt223.2.2.2.2.2).bind fun t229 => (some (t229 == 65536)))) else (some false)) else (some false)) else (some false)) else (some false)) else (some false)) else (some false)) = some r:=H;have A6:=am A60;clear A60
  by_cases c7 : (t199 == 1310720 && (t200 == 2621440)) = true
  focus
    rw [if_pos c7] at H;have c7b0 : (t199 == 1310720 && (t200 == 2621440)) = true:=c7
    (try (have c7b1 : decide (t199 = 1310720 && (t200 == 2621440)) = true:=by simpa using c7))
    (try (have c7b2 : (t199 == 1310720 && (t200 == 2621440)) = true:=by simpa using c7))
    clear c7
    by_cases c8 : t201 = 0
    focus
      rw [if_pos c8] at H;have c8b0 : (t201 == 0) = true:=beq_iff_eq.mpr c8;have c8b1 : (t201 != 0) = false:=bne_eq_false_iff_eq.mpr c8;clear c8
      by_cases c9 : (t209 == 64 && (t210 == 128)) = true
      focus
        rw [if_pos c9] at H;have c9b0 : (t209 == 64 && (t210 == 128)) = true:=c9
        (try (have c9b1 : decide (t209 = 64 && (t210 == 128)) = true:=by simpa using c9))
        (try (have c9b2 : (t209 == 64 && (t210 == 128)) = true:=by simpa using c9))
        clear c9
        by_cases c10 : t211 = 0
        focus
          rw [if_pos c10] at H;have c10b0 : (t211 == 0) = true:=beq_iff_eq.mpr c10;have c10b1 : (t211 != 0) = false:=bne_eq_false_iff_eq.mpr c10;clear c10
          by_cases c11 : (t219 == 20 && (t220 == 40)) = true
          focus
            rw [if_pos c11] at H;have c11b0 : (t219 == 20 && (t220 == 40)) = true:=c11
            (try (have c11b1 : decide (t219 = 20 && (t220 == 40)) = true:=by simpa using c11))
            (try (have c11b2 : (t219 == 20 && (t220 == 40)) = true:=by simpa using c11))
            clear c11
            by_cases c12 : t221 = true
            focus
              subst c12
              have H1 : ((celluloidlaw14_same.f).bind fun bt223 => ((affine_Scale.f k bt223.1 bt223.2.1 bt223.2.2.1 bt223.2.2.2.1 bt223.2.2.2.2.1 bt223.2.2.2.2.2).bind fun t229 => (some (t229 == 65536)))) = some r:=by rw [if_pos rfl] at H;exact H
              clear H;have H:=H1;clear H1;replace H:=Option.bind_eq_some_iff.mp H;obtain ⟨⟨t223,t224,t225,t226,t227,t228⟩,A130,H⟩:=H;replace H : ((affine_Scale.f k t223 t224 t225 t226 t227 t228).bind fun t229 => (some (t229 == 65536))) = some r:=H;have A13:=am A130;clear A130;replace H:=Option.bind_eq_some_iff.mp H;obtain ⟨t229,A140,H⟩:=H;replace H : (some (t229 == 65536)) = some r:=H;have A14:=am A140;clear A140;obtain rfl:=Option.some.inj H
            rotate_left
            focus
              replace c12:=Bool.eq_false_iff.mpr c12;subst c12
              have H1 : (some false) = some r:=by rw [if_neg (show ¬ (false = true) by decide)] at H;exact H
              clear H;have H:=H1;clear H1;obtain rfl:=Option.some.inj H
          rotate_left 2
          focus
            rw [if_neg c11] at H
            have c11b0 : (t219 == 20 && (t220 == 40)) = false:=by simpa using c11
            (try (have c11b1 : decide (t219 = 20 && (t220 == 40)) = false:=by simpa using c11))
            (try (have c11b2 : (t219 == 20 && (t220 == 40)) = false:=by simpa using c11))
            (try (have c11b3 : ¬ (t219 = 20 && (t220 == 40)):=by simpa using c11))
            clear c11;obtain rfl:=Option.some.inj H
        rotate_left 3
        focus
          rw [if_neg c10] at H;have c10b0 : (t211 == 0) = false:=beq_eq_false_iff_ne.mpr c10;have c10b1 : (t211 != 0) = true:=bne_iff_ne.mpr c10;obtain rfl:=Option.some.inj H
      rotate_left 4
      focus
        rw [if_neg c9] at H
        have c9b0 : (t209 == 64 && (t210 == 128)) = false:=by simpa using c9
        (try (have c9b1 : decide (t209 = 64 && (t210 == 128)) = false:=by simpa using c9))
        (try (have c9b2 : (t209 == 64 && (t210 == 128)) = false:=by simpa using c9))
        (try (have c9b3 : ¬ (t209 = 64 && (t210 == 128)):=by simpa using c9))
        clear c9;obtain rfl:=Option.some.inj H
    rotate_left 5
    focus
      rw [if_neg c8] at H;have c8b0 : (t201 == 0) = false:=beq_eq_false_iff_ne.mpr c8;have c8b1 : (t201 != 0) = true:=bne_iff_ne.mpr c8;obtain rfl:=Option.some.inj H
  rotate_left 6
  focus
    rw [if_neg c7] at H
    have c7b0 : (t199 == 1310720 && (t200 == 2621440)) = false:=by simpa using c7
    (try (have c7b1 : decide (t199 = 1310720 && (t200 == 2621440)) = false:=by simpa using c7))
    (try (have c7b2 : (t199 == 1310720 && (t200 == 2621440)) = false:=by simpa using c7))
    (try (have c7b3 : ¬ (t199 = 1310720 && (t200 == 2621440)):=by simpa using c7))
    clear c7;obtain rfl:=Option.some.inj H
  all_goals
    go_enter Try.func14,Try.ntmps14
    go_wp2_with (first|((with_reducible refine gate_callee (f:=30) rfl ?_);refine goesL_ (some 8) rfl rfl Try.func30 (by kernel_rfl) rfl #[] rfl (by (try simp only [List.map_toArray,List.map_cons,List.map_nil]);first|done|rfl|(simp only [List.length_drop,List.length_take];rfl)) ?_;(with_reducible refine (celluloidlaw14_same.calls  t193 t194 t195 t196 t197 t198 _ A1.out).mono ?_);rintro e wz1 ⟨rfl,hb⟩;refine ⟨_,rfl,?_⟩;have nz1_:=am (ss (by repeat (first|(with_reducible first|exact HB.out|apply sa|apply sn|apply sd)|exact HB.out)) hb);clear HB;have HB:=nz1_;clear nz1_;(try clear hb);(try clear hb2);(try clear hk);(try clear hi))|((with_reducible refine gate_callee (f:=10) rfl ?_);refine goesL_ (some 10) rfl rfl Try.func10 (by kernel_rfl) rfl #[.agg #[.int .i64 t193,.int .i64 t194,.int .i64 t195,.int .i64 t196,.int .i64 t197,.int .i64 t198],.agg #[.int .i64 20,.int .i64 40]] rfl (by (try simp only [List.map_toArray,List.map_cons,List.map_nil]);first|done|rfl|(simp only [List.length_drop,List.length_take];rfl)) ?_;(with_reducible refine (affine_Apply.calls k t193 t194 t195 t196 t197 t198 20 40 t199 t200 t201 _ A2.out).mono ?_);rintro e wz2 ⟨rfl,hb⟩;refine ⟨_,rfl,?_⟩;have nz1_:=am (ss (by repeat (first|(with_reducible first|exact HB.out|apply sa|apply sn|apply sd)|exact HB.out)) hb);clear HB;have HB:=nz1_;clear nz1_;(try clear hb);(try clear hb2);(try clear hk);(try clear hi))|((with_reducible refine gate_dst (N:=1) rfl ?_);refine box_event ?hg (N:=1) ?hd (cs:=#[.int .i64 0,.int .i64 0]) (t:=25) ?hr ?_;(case hd => rfl);(case hg => rfl);(case hr => first|(go_simp;done)|(go_simp;rfl));intro gbz1 hg wz3 hbox hb;have nz1_:=am (ss (by repeat (first|(with_reducible first|exact HB.out|apply sa|apply sn|apply sd)|exact HB.out)) hb);have nz2_:=am (hbox);have nz3_:=am ((by rw [hg];exact (sz (by repeat (first|(with_reducible first|exact HB.out|apply sa|apply sn|apply sd)|exact HB.out))) : w.heap.size ≤ gbz1));have nz4_:=am ((by rw [hg];exact (sz (by repeat (first|(with_reducible first|exact HB.out|apply sa|apply sn|apply sd)|exact HB.out))) : w.heap.size ≤ gbz1));clear HB;have HB:=nz1_;have BKz1:=nz2_;have GWz1:=nz3_;have GEz1:=nz4_;clear nz1_ nz2_ nz3_ nz4_;clear hb hbox hg;have hczz1_0 : wz3.cell? ⟨gbz1,0,none⟩ = some (.int .i64 0):=(bc BKz1.out 0).trans rfl;have hczz1_1 : wz3.cell? ⟨gbz1,1,none⟩ = some (.int .i64 0):=(bc BKz1.out 1).trans rfl;have hfzz1_0:=bz BKz1.out 0;have hfzz1_1:=bz BKz1.out 1)|((with_reducible refine gate_callee (f:=30) rfl ?_);refine goesL_ (some 14) rfl rfl Try.func30 (by kernel_rfl) rfl #[] rfl (by (try simp only [List.map_toArray,List.map_cons,List.map_nil]);first|done|rfl|(simp only [List.length_drop,List.length_take];rfl)) ?_;(with_reducible refine (celluloidlaw14_same.calls  t203 t204 t205 t206 t207 t208 _ A3.out).mono ?_);rintro e wz4 ⟨rfl,hb⟩;refine ⟨_,rfl,?_⟩;have nz1_:=am (bw (g:=gbz1) (o:=.cells #[.int .i64 t199,.int .i64 t200] 25 (0,0)) (by (with_reducible repeat (first|refine bn ?_ _|refine bd ?_|refine ba ?_ _));refine bp (cs:=#[.int .i64 t199,.int .i64 0]) ?_ 1 _ rfl;(with_reducible repeat (first|refine bn ?_ _|refine bd ?_|refine ba ?_ _));refine bp (cs:=#[.int .i64 0,.int .i64 0]) ?_ 0 _ rfl;(with_reducible repeat (first|refine bn ?_ _|refine bd ?_|refine ba ?_ _));exact BKz1.out) hb);have nz2_:=am (ss (by repeat (first|(with_reducible first|exact HB.out|apply sa|apply sn|apply sd|refine sx ?_ GEz1.out)|exact HB.out)) hb);clear BKz1;clear HB;have BKz1:=nz1_;have HB:=nz2_;clear nz1_ nz2_;(try clear hb);(try clear hb2);(try clear hk);(try clear hi))|((with_reducible refine gate_callee (f:=11) rfl ?_);refine goesL_ (some 16) rfl rfl Try.func11 (by kernel_rfl) rfl #[.agg #[.int .i64 t203,.int .i64 t204,.int .i64 t205,.int .i64 t206,.int .i64 t207,.int .i64 t208],.agg #[.int .i64 20,.int .i64 40]] rfl (by (try simp only [List.map_toArray,List.map_cons,List.map_nil]);first|done|rfl|(simp only [List.length_drop,List.length_take];rfl)) ?_;(with_reducible refine (affine_Grid.calls k t203 t204 t205 t206 t207 t208 20 40 t209 t210 t211 _ A4.out).mono ?_);rintro e wz5 ⟨rfl,hb⟩;refine ⟨_,rfl,?_⟩;have nz1_:=am (bw (by exact BKz1.out) hb);have nz2_:=am (ss (by repeat (first|(with_reducible first|exact HB.out|apply sa|apply sn|apply sd|refine sx ?_ GEz1.out)|exact HB.out)) hb);clear BKz1;clear HB;have BKz1:=nz1_;have HB:=nz2_;clear nz1_ nz2_;(try clear hb);(try clear hb2);(try clear hk);(try clear hi))|((with_reducible refine gate_dst (N:=3) rfl ?_);refine box_event ?hg (N:=3) ?hd (cs:=#[.int .i64 0,.int .i64 0]) (t:=25) ?hr ?_;(case hd => rfl);(case hg => rfl);(case hr => first|(go_simp;done)|(go_simp;rfl));intro gbz2 hg wz6 hbox hb;have nz1_:=am (bw (by exact BKz1.out) hb);have nz2_:=am (ss (by repeat (first|(with_reducible first|exact HB.out|apply sa|apply sn|apply sd|refine sx ?_ GEz1.out)|exact HB.out)) hb);have nz3_:=am (hbox);have nz4_:=am ((by rw [hg];exact (sz (by repeat (first|(with_reducible first|exact HB.out|apply sa|apply sn|apply sd|refine sx ?_ GEz1.out)|exact HB.out))) : w.heap.size ≤ gbz2));have nz5_:=am ((by rw [hg];exact (sz (by repeat (first|(with_reducible first|exact HB.out|apply sa|apply sn|apply sd|refine sx ?_ GEz1.out)|exact HB.out))) : w.heap.size ≤ gbz2));have nz6_:=nb (by exact BKz1.out) hg;have nz7_:=ng (by exact BKz1.out) hg;clear BKz1;clear HB;have BKz1:=nz1_;have HB:=nz2_;have BKz2:=nz3_;have GWz2:=nz4_;have GEz2:=nz5_;have NBz1_212:=nz6_;have NBz2_202:=nz7_;clear nz1_ nz2_ nz3_ nz4_ nz5_ nz6_ nz7_;clear hb hbox hg;have hnbz1:=NBz2_202.out;have hncz1:=NBz1_212.out;have hczz2_0 : wz6.cell? ⟨gbz2,0,none⟩ = some (.int .i64 0):=(bc BKz2.out 0).trans rfl;have hczz2_1 : wz6.cell? ⟨gbz2,1,none⟩ = some (.int .i64 0):=(bc BKz2.out 1).trans rfl;have hfzz2_0:=bz BKz2.out 0;have hfzz2_1:=bz BKz2.out 1)|((with_reducible refine gate_callee (f:=30) rfl ?_);refine goesL_ (some 20) rfl rfl Try.func30 (by kernel_rfl) rfl #[] rfl (by (try simp only [List.map_toArray,List.map_cons,List.map_nil]);first|done|rfl|(simp only [List.length_drop,List.length_take];rfl)) ?_;(with_reducible refine (celluloidlaw14_same.calls  t213 t214 t215 t216 t217 t218 _ A5.out).mono ?_);rintro e wz7 ⟨rfl,hb⟩;refine ⟨_,rfl,?_⟩;have nz1_:=am (wz BKz1.out (by (with_reducible repeat (first|refine bn ?_ _|refine bd ?_|refine ba ?_ _|refine bf ?_ NBz1_212.out _));exact BKz1.out) hb);have nz2_:=am (bw (g:=gbz2) (o:=.cells #[.int .i64 t209,.int .i64 t210] 25 (0,0)) (by (with_reducible repeat (first|refine bn ?_ _|refine bd ?_|refine ba ?_ _));refine bp (cs:=#[.int .i64 t209,.int .i64 0]) ?_ 1 _ rfl;(with_reducible repeat (first|refine bn ?_ _|refine bd ?_|refine ba ?_ _));refine bp (cs:=#[.int .i64 0,.int .i64 0]) ?_ 0 _ rfl;(with_reducible repeat (first|refine bn ?_ _|refine bd ?_|refine ba ?_ _));exact BKz2.out) hb);have nz3_:=am (ss (by repeat (first|(with_reducible first|exact HB.out|apply sa|apply sn|apply sd|refine sx ?_ GEz1.out|refine sx ?_ GEz2.out)|exact HB.out)) hb);clear BKz1;clear BKz2;clear HB;have BKz1:=nz1_;have BKz2:=nz2_;have HB:=nz3_;clear nz1_ nz2_ nz3_;(try clear hb);(try clear hb2);(try clear hk);(try clear hi))|((with_reducible refine gate_callee (f:=15) rfl ?_);refine goesL_ (some 22) rfl rfl Try.func15 (by kernel_rfl) rfl #[.agg #[.int .i64 t213,.int .i64 t214,.int .i64 t215,.int .i64 t216,.int .i64 t217,.int .i64 t218],.agg #[.int .i64 64,.int .i64 128]] rfl (by (try simp only [List.map_toArray,List.map_cons,List.map_nil]);first|done|rfl|(simp only [List.length_drop,List.length_take];rfl)) ?_;(with_reducible refine (affine_Back.calls k t213 t214 t215 t216 t217 t218 64 128 t219 t220 true _ A6.out).mono ?_);rintro e wz8 ⟨rfl,hb⟩;refine ⟨_,rfl,?_⟩;have nz1_:=am (bw (by exact BKz1.out) hb);have nz2_:=am (bw (by exact BKz2.out) hb);have nz3_:=am (ss (by repeat (first|(with_reducible first|exact HB.out|apply sa|apply sn|apply sd|refine sx ?_ GEz1.out|refine sx ?_ GEz2.out)|exact HB.out)) hb);clear BKz1;clear BKz2;clear HB;have BKz1:=nz1_;have BKz2:=nz2_;have HB:=nz3_;clear nz1_ nz2_ nz3_;(try clear hb);(try clear hb2);(try clear hk);(try clear hi))|((with_reducible refine gate_dst (N:=5) rfl ?_);refine box_event ?hg (N:=5) ?hd (cs:=#[.int .i64 0,.int .i64 0]) (t:=25) ?hr ?_;(case hd => rfl);(case hg => rfl);(case hr => first|(go_simp;done)|(go_simp;rfl));intro gbz3 hg wz9 hbox hb;have nz1_:=am (bw (by exact BKz1.out) hb);have nz2_:=am (bw (by exact BKz2.out) hb);have nz3_:=am (ss (by repeat (first|(with_reducible first|exact HB.out|apply sa|apply sn|apply sd|refine sx ?_ GEz1.out|refine sx ?_ GEz2.out)|exact HB.out)) hb);have nz4_:=am (hbox);have nz5_:=am ((by rw [hg];exact (sz (by repeat (first|(with_reducible first|exact HB.out|apply sa|apply sn|apply sd|refine sx ?_ GEz1.out|refine sx ?_ GEz2.out)|exact HB.out))) : w.heap.size ≤ gbz3));have nz6_:=am ((by rw [hg];exact (sz (by repeat (first|(with_reducible first|exact HB.out|apply sa|apply sn|apply sd|refine sx ?_ GEz1.out|refine sx ?_ GEz2.out)|exact HB.out))) : w.heap.size ≤ gbz3));have nz7_:=nb (by exact BKz1.out) hg;have nz8_:=ng (by exact BKz1.out) hg;have nz9_:=nb (by exact BKz2.out) hg;have nz10_:=ng (by exact BKz2.out) hg;clear BKz1;clear BKz2;clear HB;have BKz1:=nz1_;have BKz2:=nz2_;have HB:=nz3_;have BKz3:=nz4_;have GWz3:=nz5_;have GEz3:=nz6_;have NBz1_222:=nz7_;have NBz3_202:=nz8_;have NBz2_222:=nz9_;have NBz3_212:=nz10_;clear nz1_ nz2_ nz3_ nz4_ nz5_ nz6_ nz7_ nz8_ nz9_ nz10_;clear hb hbox hg;have hnbz2:=NBz3_202.out;have hncz2:=NBz1_222.out;have hnbz3:=NBz3_212.out;have hncz3:=NBz2_222.out;have hczz3_0 : wz9.cell? ⟨gbz3,0,none⟩ = some (.int .i64 0):=(bc BKz3.out 0).trans rfl;have hczz3_1 : wz9.cell? ⟨gbz3,1,none⟩ = some (.int .i64 0):=(bc BKz3.out 1).trans rfl;have hfzz3_0:=bz BKz3.out 0;have hfzz3_1:=bz BKz3.out 1;have hczz4_0 : wz9.cell? ⟨gbz1,0,none⟩ = some (.int .i64 t199):=(bc BKz1.out 0).trans rfl;have hczz4_1 : wz9.cell? ⟨gbz1,1,none⟩ = some (.int .i64 t200):=(bc BKz1.out 1).trans rfl;have hfzz4_0:=bz BKz1.out 0;have hfzz4_1:=bz BKz1.out 1;have hczz5_0 : wz9.cell? ⟨gbz2,0,none⟩ = some (.int .i64 t209):=(bc BKz2.out 0).trans rfl;have hczz5_1 : wz9.cell? ⟨gbz2,1,none⟩ = some (.int .i64 t210):=(bc BKz2.out 1).trans rfl;have hfzz5_0:=bz BKz2.out 0;have hfzz5_1:=bz BKz2.out 1)|(go_at_call 30;(with_reducible refine (celluloidlaw14_same.calls  t223 t224 t225 t226 t227 t228 _ A13.out).mono ?_);rintro e wz10 ⟨rfl,hb⟩;have nz1_:=am (wz BKz1.out (by (with_reducible repeat (first|refine bn ?_ _|refine bd ?_|refine ba ?_ _|refine bf ?_ NBz1_222.out _));exact BKz1.out) hb);have nz2_:=am (wz BKz2.out (by (with_reducible repeat (first|refine bn ?_ _|refine bd ?_|refine ba ?_ _|refine bf ?_ NBz2_222.out _));exact BKz2.out) hb);have nz3_:=am (bw (g:=gbz3) (o:=.cells #[.int .i64 t219,.int .i64 t220] 25 (0,0)) (by (with_reducible repeat (first|refine bn ?_ _|refine bd ?_|refine ba ?_ _));refine bp (cs:=#[.int .i64 t219,.int .i64 0]) ?_ 1 _ rfl;(with_reducible repeat (first|refine bn ?_ _|refine bd ?_|refine ba ?_ _));refine bp (cs:=#[.int .i64 0,.int .i64 0]) ?_ 0 _ rfl;(with_reducible repeat (first|refine bn ?_ _|refine bd ?_|refine ba ?_ _));exact BKz3.out) hb);have nz4_:=am (ss (by repeat (first|(with_reducible first|exact HB.out|apply sa|apply sn|apply sd|refine sx ?_ GEz1.out|refine sx ?_ GEz2.out|refine sx ?_ GEz3.out)|exact HB.out)) hb);clear BKz1;clear BKz2;clear BKz3;clear HB;have BKz1:=nz1_;have BKz2:=nz2_;have BKz3:=nz3_;have HB:=nz4_;clear nz1_ nz2_ nz3_ nz4_;(try clear hb);(try clear hb2);(try clear hk);(try clear hi))|(go_at_call 19;(with_reducible refine (affine_Scale.calls k t223 t224 t225 t226 t227 t228 t229 _ A14.out).mono ?_);rintro e wz11 ⟨rfl,hb⟩;have nz1_:=am (bw (by exact BKz1.out) hb);have nz2_:=am (bw (by exact BKz2.out) hb);have nz3_:=am (bw (by exact BKz3.out) hb);have nz4_:=am (ss (by repeat (first|(with_reducible first|exact HB.out|apply sa|apply sn|apply sd|refine sx ?_ GEz1.out|refine sx ?_ GEz2.out|refine sx ?_ GEz3.out)|exact HB.out)) hb);clear BKz1;clear BKz2;clear BKz3;clear HB;have BKz1:=nz1_;have BKz2:=nz2_;have BKz3:=nz3_;have HB:=nz4_;clear nz1_ nz2_ nz3_ nz4_;(try clear hb);(try clear hb2);(try clear hk);(try clear hi))|((with_reducible refine gate_callee (f:=15) rfl ?_);refine goesL_ (some 22) rfl rfl Try.func15 (by kernel_rfl) rfl #[.agg #[.int .i64 t213,.int .i64 t214,.int .i64 t215,.int .i64 t216,.int .i64 t217,.int .i64 t218],.agg #[.int .i64 64,.int .i64 128]] rfl (by (try simp only [List.map_toArray,List.map_cons,List.map_nil]);first|done|rfl|(simp only [List.length_drop,List.length_take];rfl)) ?_;(with_reducible refine (affine_Back.calls k t213 t214 t215 t216 t217 t218 64 128 t219 t220 false _ A6.out).mono ?_);rintro e wz8 ⟨rfl,hb⟩;refine ⟨_,rfl,?_⟩;have nz1_:=am (bw (by exact BKz1.out) hb);have nz2_:=am (bw (by exact BKz2.out) hb);have nz3_:=am (ss (by repeat (first|(with_reducible first|exact HB.out|apply sa|apply sn|apply sd|refine sx ?_ GEz1.out|refine sx ?_ GEz2.out)|exact HB.out)) hb);clear BKz1;clear BKz2;clear HB;have BKz1:=nz1_;have BKz2:=nz2_;have HB:=nz3_;clear nz1_ nz2_ nz3_;(try clear hb);(try clear hb2);(try clear hk);(try clear hi))|((with_reducible refine gate_callee (f:=15) rfl ?_);refine goesL_ (some 22) rfl rfl Try.func15 (by kernel_rfl) rfl #[.agg #[.int .i64 t213,.int .i64 t214,.int .i64 t215,.int .i64 t216,.int .i64 t217,.int .i64 t218],.agg #[.int .i64 64,.int .i64 128]] rfl (by (try simp only [List.map_toArray,List.map_cons,List.map_nil]);first|done|rfl|(simp only [List.length_drop,List.length_take];rfl)) ?_;(with_reducible refine (affine_Back.calls k t213 t214 t215 t216 t217 t218 64 128 t219 t220 t221 _ A6.out).mono ?_);rintro e wz8 ⟨rfl,hb⟩;refine ⟨_,rfl,?_⟩;have nz1_:=am (bw (by exact BKz1.out) hb);have nz2_:=am (bw (by exact BKz2.out) hb);have nz3_:=am (ss (by repeat (first|(with_reducible first|exact HB.out|apply sa|apply sn|apply sd|refine sx ?_ GEz1.out|refine sx ?_ GEz2.out)|exact HB.out)) hb);clear BKz1;clear BKz2;clear HB;have BKz1:=nz1_;have BKz2:=nz2_;have HB:=nz3_;clear nz1_ nz2_ nz3_;(try clear hb);(try clear hb2);(try clear hk);(try clear hi))|((with_reducible refine gate_dst (N:=5) rfl ?_);refine box_event ?hg (N:=5) ?hd (cs:=#[.int .i64 0,.int .i64 0]) (t:=25) ?hr ?_;(case hd => rfl);(case hg => rfl);(case hr => first|(go_simp;done)|(go_simp;rfl));intro gbz3 hg wz9 hbox hb;have nz1_:=am (bw (by exact BKz1.out) hb);have nz2_:=am (bw (by exact BKz2.out) hb);have nz3_:=am (ss (by repeat (first|(with_reducible first|exact HB.out|apply sa|apply sn|apply sd|refine sx ?_ GEz1.out|refine sx ?_ GEz2.out)|exact HB.out)) hb);have nz4_:=am (hbox);have nz5_:=am ((by rw [hg];exact (sz (by repeat (first|(with_reducible first|exact HB.out|apply sa|apply sn|apply sd|refine sx ?_ GEz1.out|refine sx ?_ GEz2.out)|exact HB.out))) : w.heap.size ≤ gbz3));have nz6_:=am ((by rw [hg];exact (sz (by repeat (first|(with_reducible first|exact HB.out|apply sa|apply sn|apply sd|refine sx ?_ GEz1.out|refine sx ?_ GEz2.out)|exact HB.out))) : w.heap.size ≤ gbz3));have nz7_:=nb (by exact BKz1.out) hg;have nz8_:=ng (by exact BKz1.out) hg;have nz9_:=nb (by exact BKz2.out) hg;have nz10_:=ng (by exact BKz2.out) hg;clear BKz1;clear BKz2;clear HB;have BKz1:=nz1_;have BKz2:=nz2_;have HB:=nz3_;have BKz3:=nz4_;have GWz3:=nz5_;have GEz3:=nz6_;have NBz1_222:=nz7_;have NBz3_202:=nz8_;have NBz2_222:=nz9_;have NBz3_212:=nz10_;clear nz1_ nz2_ nz3_ nz4_ nz5_ nz6_ nz7_ nz8_ nz9_ nz10_;clear hb hbox hg;have hnbz2:=NBz3_202.out;have hncz2:=NBz1_222.out;have hnbz3:=NBz3_212.out;have hncz3:=NBz2_222.out;have hczz3_0 : wz9.cell? ⟨gbz3,0,none⟩ = some (.int .i64 0):=(bc BKz3.out 0).trans rfl;have hczz3_1 : wz9.cell? ⟨gbz3,1,none⟩ = some (.int .i64 0):=(bc BKz3.out 1).trans rfl;have hfzz3_0:=bz BKz3.out 0;have hfzz3_1:=bz BKz3.out 1;have hczz4_0 : wz9.cell? ⟨gbz1,0,none⟩ = some (.int .i64 t199):=(bc BKz1.out 0).trans rfl;have hczz4_1 : wz9.cell? ⟨gbz1,1,none⟩ = some (.int .i64 t200):=(bc BKz1.out 1).trans rfl;have hfzz4_0:=bz BKz1.out 0;have hfzz4_1:=bz BKz1.out 1))
    go_ret
    exact ⟨by first|rfl|(simp [errW_none,errW_some] <;> rfl)|(simp [*,errW_none,errW_some] <;> rfl),by repeat (first|(with_reducible first|exact HB.out|apply sa|apply sn|apply sd|refine sx ?_ GEz1.out|refine sx ?_ GEz2.out|refine sx ?_ GEz3.out)|exact HB.out)⟩

end Go.Proofs.Ytaognlikgbcejaa.P
