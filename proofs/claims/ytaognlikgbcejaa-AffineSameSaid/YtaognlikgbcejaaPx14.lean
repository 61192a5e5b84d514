/- Printed by printx.py (wip/tool) out of the translation: plain functions that tell what the program answers,and the proofs that the program comes to these answers,for all arguments of their kinds. Lean checks it. -/
import Derived.Test.YtaognlikgbcejaaShort
import Derived.Test.YtaognlikgbcejaaPx0
import Derived.Test.YtaognlikgbcejaaPx13
namespace Go.Proofs.Ytaognlikgbcejaa.P
open Go.RowKit Go.Proofs.YtaognlikgbcejaaW.PrintWords Go.Proofs.YtaognlikgbcejaaW.PrintLast Go.Proofs.YtaognlikgbcejaaW.PrintMore
attribute [local go_sem] max2_int min2_int max_two min_two max_three min_three max_four min_four max_five min_five max_six min_six   -- for this text's walks alone
set_option linter.unusedVariables false
set_option linter.unusedSimpArgs false

/-! ### affine_Color: function 24 -/
mutual
def affine_Color.j0 : Nat → Bool → Int → Int → Int → Int → Int → Int → Int → Int → Int → Int → Int → Int → Option (Int × Int × Int × Int)
  | 0,_,_,_,_,_,_,_,_,_,_,_,_,_ => none
  | k + 1,x15,x337000,x337001,x337002,x337003,x337004,x337005,x337006,x337007,x338000,x338001,x338002,x338003 => if x15 = true then (some (0,0,0,0)) else (affine_Color.l0 k 0 x338000 x338001 x338002 x338003 x337000 x337001 x337002 x337003 x337004 x337005 x337006 x337007 x338000 x338001 x338002 x338003)
def affine_Color.l0 : Nat → Int → Int → Int → Int → Int → Int → Int → Int → Int → Int → Int → Int → Int → Int → Int → Int → Int → Option (Int × Int × Int × Int)
  | 0,_,_,_,_,_,_,_,_,_,_,_,_,_,_,_,_,_ => none
  | k + 1,x27,x808,x809,x810,x811,x337000,x337001,x337002,x337003,x337004,x337005,x337006,x337007,x342000,x342001,x342002,x342003 => if x27 < 4 then (if x27 = 0 then ((affine_clamp.f (wrap64 (((wrap64 (x808 * x337000)) / 256) + x337004)) 0 255).bind fun t342 => (affine_Color.l0 k (0 + 1) x808 x809 x810 x811 x337000 x337001 x337002 x337003 x337004 x337005 x337006 x337007 t342 x342001 x342002 x342003)) else (if x27 = 1 then ((affine_clamp.f (wrap64 (((wrap64 (x809 * x337001)) / 256) + x337005)) 0 255).bind fun t343 => (affine_Color.l0 k (1 + 1) x808 x809 x810 x811 x337000 x337001 x337002 x337003 x337004 x337005 x337006 x337007 x342000 t343 x342002 x342003)) else (if x27 = 2 then ((affine_clamp.f (wrap64 (((wrap64 (x810 * x337002)) / 256) + x337006)) 0 255).bind fun t344 => (affine_Color.l0 k (2 + 1) x808 x809 x810 x811 x337000 x337001 x337002 x337003 x337004 x337005 x337006 x337007 x342000 x342001 t344 x342003)) else (if x27 = 3 then ((affine_clamp.f (wrap64 (((wrap64 (x811 * x337003)) / 256) + x337007)) 0 255).bind fun t345 => (affine_Color.l0 k (3 + 1) x808 x809 x810 x811 x337000 x337001 x337002 x337003 x337004 x337005 x337006 x337007 x342000 x342001 x342002 t345)) else (none))))) else (some (x342000,x342001,x342002,x342003))
end
def affine_Color.f (k : Nat) (a0_0 : Int) (a0_1 : Int) (a0_2 : Int) (a0_3 : Int) (a0_4 : Int) (a0_5 : Int) (a0_6 : Int) (a0_7 : Int) (a1_0 : Int) (a1_1 : Int) (a1_2 : Int) (a1_3 : Int) : Option (Int × Int × Int × Int):=(field_RightCx.f k a0_0 a0_1 a0_2 a0_3 a0_4 a0_5 a0_6 a0_7).bind fun t339 => (if t339 = true then ((field_RightRGBA.f k a1_0 a1_1 a1_2 a1_3).bind fun t340 => (affine_Color.j0 k (!t340) a0_0 a0_1 a0_2 a0_3 a0_4 a0_5 a0_6 a0_7 a1_0 a1_1 a1_2 a1_3)) else (affine_Color.j0 k true a0_0 a0_1 a0_2 a0_3 a0_4 a0_5 a0_6 a0_7 a1_0 a1_1 a1_2 a1_3))
theorem affine_Color.mono_l : ∀ k,(∀ y0 y1 y2 y3 y4 y5 y6 y7 y8 y9 y10 y11 y12,LeO (affine_Color.j0 k y0 y1 y2 y3 y4 y5 y6 y7 y8 y9 y10 y11 y12) (affine_Color.j0 (k + 1) y0 y1 y2 y3 y4 y5 y6 y7 y8 y9 y10 y11 y12)) ∧ (∀ y0 y1 y2 y3 y4 y5 y6 y7 y8 y9 y10 y11 y12 y13 y14 y15 y16,LeO (affine_Color.l0 k y0 y1 y2 y3 y4 y5 y6 y7 y8 y9 y10 y11 y12 y13 y14 y15 y16) (affine_Color.l0 (k + 1) y0 y1 y2 y3 y4 y5 y6 y7 y8 y9 y10 y11 y12 y13 y14 y15 y16))
  | 0 => ⟨fun _ _ _ _ _ _ _ _ _ _ _ _ _ r h => by simp [affine_Color.j0] at h,fun _ _ _ _ _ _ _ _ _ _ _ _ _ _ _ _ _ r h => by simp [affine_Color.l0] at h⟩
  | k + 1 => by
    obtain ⟨ih0,ih1⟩:=affine_Color.mono_l k;refine ⟨?_,?_⟩
    · intro y0 y1 y2 y3 y4 y5 y6 y7 y8 y9 y10 y11 y12
      unfold affine_Color.j0
      repeat' first
      | (with_reducible exact ih0 _ _ _ _ _ _ _ _ _ _ _ _ _)
      | (with_reducible exact ih1 _ _ _ _ _ _ _ _ _ _ _ _ _ _ _ _ _)
      | (with_reducible exact field_RightCx.mono _ _ _ _ _ _ _ _ _)
      | (with_reducible exact field_RightRGBA.mono _ _ _ _ _)
      | (with_reducible exact LeO.refl _)
      | (with_reducible exact LeO.none _)
      | (with_reducible refine LeO.ite ?_ ?_)
      | (with_reducible refine LeO.bind ?_ (fun _ => ?_))
      | exact ih0 _ _ _ _ _ _ _ _ _ _ _ _ _
      | exact ih1 _ _ _ _ _ _ _ _ _ _ _ _ _ _ _ _ _
      | exact field_RightCx.mono _ _ _ _ _ _ _ _ _
      | exact field_RightRGBA.mono _ _ _ _ _
      | exact LeO.none _
      | refine LeO.ite ?_ ?_
      | refine LeO.bind ?_ (fun _ => ?_)
    · intro y0 y1 y2 y3 y4 y5 y6 y7 y8 y9 y10 y11 y12 y13 y14 y15 y16
      unfold affine_Color.l0
      repeat' first
      | (with_reducible exact ih0 _ _ _ _ _ _ _ _ _ _ _ _ _)
      | (with_reducible exact ih1 _ _ _ _ _ _ _ _ _ _ _ _ _ _ _ _ _)
      | (with_reducible exact field_RightCx.mono _ _ _ _ _ _ _ _ _)
      | (with_reducible exact field_RightRGBA.mono _ _ _ _ _)
      | (with_reducible exact LeO.refl _)
      | (with_reducible exact LeO.none _)
      | (with_reducible refine LeO.ite ?_ ?_)
      | (with_reducible refine LeO.bind ?_ (fun _ => ?_))
      | exact ih0 _ _ _ _ _ _ _ _ _ _ _ _ _
      | exact ih1 _ _ _ _ _ _ _ _ _ _ _ _ _ _ _ _ _
      | exact field_RightCx.mono _ _ _ _ _ _ _ _ _
      | exact field_RightRGBA.mono _ _ _ _ _
      | exact LeO.none _
      | refine LeO.ite ?_ ?_
      | refine LeO.bind ?_ (fun _ => ?_)
theorem affine_Color.mono : ∀ a0 a1 a2 a3 a4 a5 a6 a7 a8 a9 a10 a11 k,LeO (affine_Color.f k a0 a1 a2 a3 a4 a5 a6 a7 a8 a9 a10 a11) (affine_Color.f (k + 1) a0 a1 a2 a3 a4 a5 a6 a7 a8 a9 a10 a11):=by
  intro a0 a1 a2 a3 a4 a5 a6 a7 a8 a9 a10 a11 k
  obtain ⟨ih0,ih1⟩:=affine_Color.mono_l k
  unfold affine_Color.f
  repeat' first
      | (with_reducible exact ih0 _ _ _ _ _ _ _ _ _ _ _ _ _)
      | (with_reducible exact ih1 _ _ _ _ _ _ _ _ _ _ _ _ _ _ _ _ _)
      | (with_reducible exact field_RightCx.mono _ _ _ _ _ _ _ _ _)
      | (with_reducible exact field_RightRGBA.mono _ _ _ _ _)
      | (with_reducible exact LeO.refl _)
      | (with_reducible exact LeO.none _)
      | (with_reducible refine LeO.ite ?_ ?_)
      | (with_reducible refine LeO.bind ?_ (fun _ => ?_))
      | exact ih0 _ _ _ _ _ _ _ _ _ _ _ _ _
      | exact ih1 _ _ _ _ _ _ _ _ _ _ _ _ _ _ _ _ _
      | exact field_RightCx.mono _ _ _ _ _ _ _ _ _
      | exact field_RightRGBA.mono _ _ _ _ _
      | exact LeO.none _
      | refine LeO.ite ?_ ?_
      | refine LeO.bind ?_ (fun _ => ?_)
def affine_Color.T7 : Bool × List (List Nat × List Nat):=(true,[([],[]),([],[]),([],[]),([],[]),([3,2],[2,3]),([4],[4]),([1,5],[1,5]),([6],[6]),([],[]),([],[]),([9,8],[8,9]),([10],[10]),([7,11],[7,11]),([12],[12]),([0,0,1,2,3,4,5,6,7,8,9,10,11,12,13],[0]),([14,13,13,0,1,2,3,4,5,6,7,8,9,10,11,12,13],[13,14])])
def affine_Color.B7 : List Nat:=[0,0,0,0,12,28,62,126,0,0,768,1792,4094,8190,16383,32767]
theorem affine_Color.tab7 : rtab .any (opsOf Try.f24 7) = affine_Color.T7:=by kernel_rfl
theorem affine_Color.bits7 : waitsOk affine_Color.T7.2 affine_Color.B7 = true:=by kernel_rfl
set_option maxHeartbeats 8000000 in
set_option maxRecDepth 100000 in
theorem affine_Color.calls (k : Nat) (a0_0 : Int) (a0_1 : Int) (a0_2 : Int) (a0_3 : Int) (a0_4 : Int) (a0_5 : Int) (a0_6 : Int) (a0_7 : Int) (a1_0 : Int) (a1_1 : Int) (a1_2 : Int) (a1_3 : Int) (r1 : Int) (r2 : Int) (r3 : Int) (r4 : Int) (w : World) (h : affine_Color.f k a0_0 a0_1 a0_2 a0_3 a0_4 a0_5 a0_6 a0_7 a1_0 a1_1 a1_2 a1_3 = some (r1,r2,r3,r4)) :
    Calls Try.prog 24 #[.agg #[.int .i64 a0_0,.int .i64 a0_1,.int .i64 a0_2,.int .i64 a0_3,.int .i64 a0_4,.int .i64 a0_5,.int .i64 a0_6,.int .i64 a0_7],.agg #[.int .i64 a1_0,.int .i64 a1_1,.int .i64 a1_2,.int .i64 a1_3]] w fun e w' => e = .returned (.agg #[.int .i64 r1,.int .i64 r2,.int .i64 r3,.int .i64 r4]) ∧ Below w.heap.size w w':=by
  have hu41:=Try.underlying41;have hu43:=Try.underlying43;have hu39:=Try.underlying39
  have hix39_0 : ∀ (c0_ c1_ c2_ c3_ : Value) (W : World),(Instr.index 39 (.agg #[c0_,c1_,c2_,c3_]) (.int .i64 0)).run Try.prog W = .ok (c0_) W:=fun c0_ c1_ c2_ c3_ W => by kernel_rfl
  have hix39_1 : ∀ (c0_ c1_ c2_ c3_ : Value) (W : World),(Instr.index 39 (.agg #[c0_,c1_,c2_,c3_]) (.int .i64 1)).run Try.prog W = .ok (c1_) W:=fun c0_ c1_ c2_ c3_ W => by kernel_rfl
  have hix39_2 : ∀ (c0_ c1_ c2_ c3_ : Value) (W : World),(Instr.index 39 (.agg #[c0_,c1_,c2_,c3_]) (.int .i64 2)).run Try.prog W = .ok (c2_) W:=fun c0_ c1_ c2_ c3_ W => by kernel_rfl
  have hix39_3 : ∀ (c0_ c1_ c2_ c3_ : Value) (W : World),(Instr.index 39 (.agg #[c0_,c1_,c2_,c3_]) (.int .i64 3)).run Try.prog W = .ok (c3_) W:=fun c0_ c1_ c2_ c3_ W => by kernel_rfl
  have HB:=am (Below.refl w.heap.size w);have H : ((field_RightCx.f k a0_0 a0_1 a0_2 a0_3 a0_4 a0_5 a0_6 a0_7).bind fun t339 => (if t339 = true then ((field_RightRGBA.f k a1_0 a1_1 a1_2 a1_3).bind fun t340 => (affine_Color.j0 k (!t340) a0_0 a0_1 a0_2 a0_3 a0_4 a0_5 a0_6 a0_7 a1_0 a1_1 a1_2 a1_3)) else (affine_Color.j0 k true a0_0 a0_1 a0_2 a0_3 a0_4 a0_5 a0_6 a0_7 a1_0 a1_1 a1_2 a1_3))) = some (r1,r2,r3,r4):=h;clear h;have HC3:=am H;clear H
  go_enter Try.func24,Try.ntmps24
  go_upto_region 1 with (first|((with_reducible refine gate_dst (N:=2) rfl ?_);refine box_event ?hg (N:=2) ?hd (cs:=#[.int .i64 a0_0,.int .i64 a0_1,.int .i64 a0_2,.int .i64 a0_3,.int .i64 a0_4,.int .i64 a0_5,.int .i64 a0_6,.int .i64 a0_7]) (t:=41) ?hr ?_;(case hd => rfl);(case hg => rfl);(case hr => first|(go_simp;done)|(go_simp;rfl));intro gb336 hg w4 hbox hb;have n0_:=am (ss (by repeat (first|(with_reducible first|exact HB.out|apply sa|apply sn|apply sd)|exact HB.out)) hb);have n1_:=am (hbox);have n2_:=am ((by rw [hg];exact (sz (by repeat (first|(with_reducible first|exact HB.out|apply sa|apply sn|apply sd)|exact HB.out))) : w.heap.size ≤ gb336));have n3_:=am ((by rw [hg];exact (sz (by repeat (first|(with_reducible first|exact HB.out|apply sa|apply sn|apply sd)|exact HB.out))) : w.heap.size ≤ gb336));clear HB;have HB:=n0_;have BK336:=n1_;have GW336:=n2_;have GE336:=n3_;clear n0_ n1_ n2_ n3_;clear hb hbox hg)|((with_reducible refine gate_dst (N:=3) rfl ?_);refine box_event ?hg (N:=3) ?hd (cs:=#[.int .i64 a1_0,.int .i64 a1_1,.int .i64 a1_2,.int .i64 a1_3]) (t:=43) ?hr ?_;(case hd => rfl);(case hg => rfl);(case hr => first|(go_simp;done)|(go_simp;rfl));intro gb337 hg w5 hbox hb;have n0_:=am (bw (by exact BK336.out) hb);have n1_:=am (ss (by repeat (first|(with_reducible first|exact HB.out|apply sa|apply sn|apply sd|refine sx ?_ GE336.out)|exact HB.out)) hb);have n2_:=am (hbox);have n3_:=am ((by rw [hg];exact (sz (by repeat (first|(with_reducible first|exact HB.out|apply sa|apply sn|apply sd|refine sx ?_ GE336.out)|exact HB.out))) : w.heap.size ≤ gb337));have n4_:=n3_;have n5_:=nb (by exact BK336.out) hg;have n6_:=ng (by exact BK336.out) hg;clear BK336;clear HB;have BK336:=n0_;have HB:=n1_;have BK337:=n2_;have GW337:=n3_;have GE337:=n4_;have NB336_337:=n5_;have NB337_336:=n6_;clear n0_ n1_ n2_ n3_ n4_ n5_ n6_;clear hb hbox hg)|((with_reducible refine gate_dst (N:=4) rfl ?_);refine box_event ?hg (N:=4) ?hd (cs:=#[.int .i64 0,.int .i64 0,.int .i64 0,.int .i64 0]) (t:=43) ?hr ?_;(case hd => rfl);(case hg => rfl);(case hr => first|(go_simp;done)|(go_simp;rfl));intro gb338 hg w6 hbox hb;have n0_:=am (bw (by exact BK336.out) hb);have n1_:=am (bw (by exact BK337.out) hb);have n2_:=am (ss (by repeat (first|(with_reducible first|exact HB.out|apply sa|apply sn|apply sd|refine sy ?_ (by assumption))|exact HB.out)) hb);have n3_:=am (hbox);have n4_:=am ((by rw [hg];exact (sz (by repeat (first|(with_reducible first|exact HB.out|apply sa|apply sn|apply sd|refine sy ?_ (by assumption))|exact HB.out))) : w.heap.size ≤ gb338));have n5_:=n4_;have n6_:=nb (by exact BK336.out) hg;have n7_:=am (Ne.symm n6_.out);have n8_:=nb (by exact BK337.out) hg;have n9_:=ng (by exact BK337.out) hg;clear BK336;clear BK337;clear HB;have BK336:=n0_;have BK337:=n1_;have HB:=n2_;have BK338:=n3_;have GW338:=n4_;have GE338:=n5_;have NB336_338:=n6_;have NB338_336:=n7_;have NB337_338:=n8_;have NB338_337:=n9_;clear n0_ n1_ n2_ n3_ n4_ n5_ n6_ n7_ n8_ n9_;clear hb hbox hg))
  (try simp only [Act.put,q1,q2,q3])
  go_cut [15] (fun v15 wc => ∃ (kq : Nat) (x15_2 : Bool),v15 = .bool x15_2 ∧ Aside0 (affine_Color.j0 kq x15_2 a0_0 a0_1 a0_2 a0_3 a0_4 a0_5 a0_6 a0_7 a1_0 a1_1 a1_2 a1_3 = some (r1,r2,r3,r4)) ∧ Aside0 (kq ≤ k) ∧ Aside0 (wc.heap[gb336]? = some (.cells #[.int .i64 a0_0,.int .i64 a0_1,.int .i64 a0_2,.int .i64 a0_3,.int .i64 a0_4,.int .i64 a0_5,.int .i64 a0_6,.int .i64 a0_7] 41 (0,0))) ∧ Aside0 (wc.heap[gb337]? = some (.cells #[.int .i64 a1_0,.int .i64 a1_1,.int .i64 a1_2,.int .i64 a1_3] 43 (0,0))) ∧ Aside0 (wc.heap[gb338]? = some (.cells #[.int .i64 0,.int .i64 0,.int .i64 0,.int .i64 0] 43 (0,0))) ∧ Aside0 (Below w.heap.size w wc))
  case first =>
    have H:=HC3.out;clear HC3;replace H:=Option.bind_eq_some_iff.mp H;obtain ⟨t339,A70,H⟩:=H;replace H : (if t339 = true then ((field_RightRGBA.f k a1_0 a1_1 a1_2 a1_3).bind fun t340 => (affine_Color.j0 k (!t340) a0_0 a0_1 a0_2 a0_3 a0_4 a0_5 a0_6 a0_7 a1_0 a1_1 a1_2 a1_3)) else (affine_Color.j0 k true a0_0 a0_1 a0_2 a0_3 a0_4 a0_5 a0_6 a0_7 a1_0 a1_1 a1_2 a1_3)) = some (r1,r2,r3,r4):=H;have A7:=am A70;clear A70
    by_cases c8 : t339 = true
    · subst c8
      have H1 : ((field_RightRGBA.f k a1_0 a1_1 a1_2 a1_3).bind fun t340 => (affine_Color.j0 k (!t340) a0_0 a0_1 a0_2 a0_3 a0_4 a0_5 a0_6 a0_7 a1_0 a1_1 a1_2 a1_3)) = some (r1,r2,r3,r4):=by rw [if_pos rfl] at H;exact H
      clear H;have H:=H1;clear H1;replace H:=Option.bind_eq_some_iff.mp H;obtain ⟨t340,A90,H⟩:=H;replace H : (affine_Color.j0 k (!t340) a0_0 a0_1 a0_2 a0_3 a0_4 a0_5 a0_6 a0_7 a1_0 a1_1 a1_2 a1_3) = some (r1,r2,r3,r4):=H;have A9:=am A90;clear A90;have H':=am H;clear H;have hnb10:=NB336_337.out;have hnc10:=NB337_336.out;have hnb11:=NB336_338.out;have hnc11:=NB338_336.out;have hcz12_0 : w6.cell? ⟨gb336,0,none⟩ = some (.int .i64 a0_0):=(bc BK336.out 0).trans rfl;have hcz12_1 : w6.cell? ⟨gb336,1,none⟩ = some (.int .i64 a0_1):=(bc BK336.out 1).trans rfl;have hcz12_2 : w6.cell? ⟨gb336,2,none⟩ = some (.int .i64 a0_2):=(bc BK336.out 2).trans rfl;have hcz12_3 : w6.cell? ⟨gb336,3,none⟩ = some (.int .i64 a0_3):=(bc BK336.out 3).trans rfl;have hcz12_4 : w6.cell? ⟨gb336,4,none⟩ = some (.int .i64 a0_4):=(bc BK336.out 4).trans rfl;have hcz12_5 : w6.cell? ⟨gb336,5,none⟩ = some (.int .i64 a0_5):=(bc BK336.out 5).trans rfl;have hcz12_6 : w6.cell? ⟨gb336,6,none⟩ = some (.int .i64 a0_6):=(bc BK336.out 6).trans rfl;have hcz12_7 : w6.cell? ⟨gb336,7,none⟩ = some (.int .i64 a0_7):=(bc BK336.out 7).trans rfl;have hfz12_0:=bz BK336.out 0;have hfz12_1:=bz BK336.out 1;have hfz12_2:=bz BK336.out 2;have hfz12_3:=bz BK336.out 3;have hfz12_4:=bz BK336.out 4;have hfz12_5:=bz BK336.out 5;have hfz12_6:=bz BK336.out 6;have hfz12_7:=bz BK336.out 7
      go_wp2_with (first|((with_reducible refine gate_callee (f:=41) rfl ?_);refine goesL_ (some 9) rfl rfl Try.func41 (by kernel_rfl) rfl #[.agg #[.int .i64 a0_0,.int .i64 a0_1,.int .i64 a0_2,.int .i64 a0_3,.int .i64 a0_4,.int .i64 a0_5,.int .i64 a0_6,.int .i64 a0_7]] rfl (by (try simp only [List.map_toArray,List.map_cons,List.map_nil]);first|done|rfl|(simp only [List.length_drop,List.length_take];rfl)) ?_;(with_reducible refine (field_RightCx.calls k a0_0 a0_1 a0_2 a0_3 a0_4 a0_5 a0_6 a0_7 true _ A7.out).mono ?_);rintro e w13 ⟨rfl,hb⟩;refine ⟨_,rfl,?_⟩;replace BK336:=am (bw (by exact BK336.out) hb);replace BK337:=am (bw (by exact BK337.out) hb);replace BK338:=am (bw (by exact BK338.out) hb);replace HB:=am (ss (by repeat (first|(with_reducible first|exact HB.out|apply sa|apply sn|apply sd|refine sy ?_ (by assumption))|exact HB.out)) hb);(try clear hb);(try clear hb2);(try clear hk);(try clear hi);have hnb14:=NB337_338.out;have hnc14:=NB338_337.out;obtain ⟨hcz15_0,hcz15_1,hcz15_2,hcz15_3⟩:=cq4 BK337.out;obtain ⟨hfz15_0,hfz15_1,hfz15_2,hfz15_3⟩:=fq4 BK337.out)|(go_at_call 42;(with_reducible refine (field_RightRGBA.calls k a1_0 a1_1 a1_2 a1_3 t340 _ A9.out).mono ?_);rintro e w16 ⟨rfl,hb⟩;replace BK336:=am (bw (by exact BK336.out) hb);replace BK337:=am (bw (by exact BK337.out) hb);replace BK338:=am (bw (by exact BK338.out) hb);replace HB:=am (ss (by repeat (first|(with_reducible first|exact HB.out|apply sa|apply sn|apply sd|refine sy ?_ (by assumption))|exact HB.out)) hb);(try clear hb);(try clear hb2);(try clear hk);(try clear hi)))
      go_meet
      case rel => exact ⟨_,(!t340),(by first|rfl|(simp;done)|(simp [*];done)),H',⟨by first|omega|exact Nat.le_refl _⟩,⟨by exact BK336.out⟩,⟨by exact BK337.out⟩,⟨by exact BK338.out⟩,⟨by repeat (first|(with_reducible first|exact HB.out|apply sa|apply sn|apply sd|refine sy ?_ (by assumption))|exact HB.out)⟩⟩
    · replace c8:=Bool.eq_false_iff.mpr c8
      subst c8
      have H1 : (affine_Color.j0 k true a0_0 a0_1 a0_2 a0_3 a0_4 a0_5 a0_6 a0_7 a1_0 a1_1 a1_2 a1_3) = some (r1,r2,r3,r4):=by rw [if_neg (show ¬ (false = true) by decide)] at H;exact H
      clear H;have H:=H1;clear H1;have H':=am H;clear H;have hnb17:=NB336_337.out;have hnc17:=NB337_336.out;have hnb18:=NB336_338.out;have hnc18:=NB338_336.out;have hcz19_0 : w6.cell? ⟨gb336,0,none⟩ = some (.int .i64 a0_0):=(bc BK336.out 0).trans rfl;have hcz19_1 : w6.cell? ⟨gb336,1,none⟩ = some (.int .i64 a0_1):=(bc BK336.out 1).trans rfl;have hcz19_2 : w6.cell? ⟨gb336,2,none⟩ = some (.int .i64 a0_2):=(bc BK336.out 2).trans rfl;have hcz19_3 : w6.cell? ⟨gb336,3,none⟩ = some (.int .i64 a0_3):=(bc BK336.out 3).trans rfl;have hcz19_4 : w6.cell? ⟨gb336,4,none⟩ = some (.int .i64 a0_4):=(bc BK336.out 4).trans rfl;have hcz19_5 : w6.cell? ⟨gb336,5,none⟩ = some (.int .i64 a0_5):=(bc BK336.out 5).trans rfl;have hcz19_6 : w6.cell? ⟨gb336,6,none⟩ = some (.int .i64 a0_6):=(bc BK336.out 6).trans rfl;have hcz19_7 : w6.cell? ⟨gb336,7,none⟩ = some (.int .i64 a0_7):=(bc BK336.out 7).trans rfl;have hfz19_0:=bz BK336.out 0;have hfz19_1:=bz BK336.out 1;have hfz19_2:=bz BK336.out 2;have hfz19_3:=bz BK336.out 3;have hfz19_4:=bz BK336.out 4;have hfz19_5:=bz BK336.out 5;have hfz19_6:=bz BK336.out 6;have hfz19_7:=bz BK336.out 7
      go_wp2_with (first|((with_reducible refine gate_callee (f:=41) rfl ?_);refine goesL_ (some 9) rfl rfl Try.func41 (by kernel_rfl) rfl #[.agg #[.int .i64 a0_0,.int .i64 a0_1,.int .i64 a0_2,.int .i64 a0_3,.int .i64 a0_4,.int .i64 a0_5,.int .i64 a0_6,.int .i64 a0_7]] rfl (by (try simp only [List.map_toArray,List.map_cons,List.map_nil]);first|done|rfl|(simp only [List.length_drop,List.length_take];rfl)) ?_;(with_reducible refine (field_RightCx.calls k a0_0 a0_1 a0_2 a0_3 a0_4 a0_5 a0_6 a0_7 false _ A7.out).mono ?_);rintro e w20 ⟨rfl,hb⟩;refine ⟨_,rfl,?_⟩;replace BK336:=am (bw (by exact BK336.out) hb);replace BK337:=am (bw (by exact BK337.out) hb);replace BK338:=am (bw (by exact BK338.out) hb);replace HB:=am (ss (by repeat (first|(with_reducible first|exact HB.out|apply sa|apply sn|apply sd|refine sy ?_ (by assumption))|exact HB.out)) hb);(try clear hb);(try clear hb2);(try clear hk);(try clear hi)))
      go_meet
      case rel => exact ⟨_,(true),(by first|rfl|(simp;done)|(simp [*];done)),H',⟨by first|omega|exact Nat.le_refl _⟩,⟨by exact BK336.out⟩,⟨by exact BK337.out⟩,⟨by exact BK338.out⟩,⟨by repeat (first|(with_reducible first|exact HB.out|apply sa|apply sn|apply sd|refine sy ?_ (by assumption))|exact HB.out)⟩⟩
  case rest =>
    clear HC3
    try clear c1
    try clear c2
    try clear p2
    try clear c4
    try clear c8
    try clear c10
    try clear c11
    try clear c14
    try clear c17
    try clear c18
    try clear hcz12_0
    try clear hcz12_1
    try clear hcz12_2
    try clear hcz12_3
    try clear hcz12_4
    try clear hcz12_5
    try clear hcz12_6
    try clear hcz12_7
    try clear hcz15_0
    try clear hcz15_1
    try clear hcz15_2
    try clear hcz15_3
    try clear hcz19_0
    try clear hcz19_1
    try clear hcz19_2
    try clear hcz19_3
    try clear hcz19_4
    try clear hcz19_5
    try clear hcz19_6
    try clear hcz19_7
    try clear hfz12_0
    try clear hfz12_1
    try clear hfz12_2
    try clear hfz12_3
    try clear hfz12_4
    try clear hfz12_5
    try clear hfz12_6
    try clear hfz12_7
    try clear hfz15_0
    try clear hfz15_1
    try clear hfz15_2
    try clear hfz15_3
    try clear hfz19_0
    try clear hfz19_1
    try clear hfz19_2
    try clear hfz19_3
    try clear hfz19_4
    try clear hfz19_5
    try clear hfz19_6
    try clear hfz19_7
    obtain ⟨kq,x15_2,rfl,HA,HJ2,BK336,BK337,BK338,HB⟩:=hcut
    cases kq with
    | zero => exact absurd HA.out (by simp [affine_Color.j0])
    | succ kj2 =>
      have H:=HA.out;clear HA;simp only [affine_Color.j0] at H
      by_cases c21 : x15_2 = true
      · subst c21
        have H1 : (some (0,0,0,0)) = some (r1,r2,r3,r4):=by rw [if_pos rfl] at H;exact H
        clear H;have H:=H1;clear H1;simp only [Option.some.injEq,Prod.mk.injEq] at H;obtain ⟨rfl,rfl,rfl,rfl⟩:=H;have hnb22:=NB338_336.out;have hnc22:=NB336_338.out;have hnb23:=NB338_337.out;have hnc23:=NB337_338.out;have hcz24_0 : wc.cell? ⟨gb338,0,none⟩ = some (.int .i64 0):=(bc BK338.out 0).trans rfl;have hcz24_1 : wc.cell? ⟨gb338,1,none⟩ = some (.int .i64 0):=(bc BK338.out 1).trans rfl;have hcz24_2 : wc.cell? ⟨gb338,2,none⟩ = some (.int .i64 0):=(bc BK338.out 2).trans rfl;have hcz24_3 : wc.cell? ⟨gb338,3,none⟩ = some (.int .i64 0):=(bc BK338.out 3).trans rfl;have hfz24_0:=bz BK338.out 0;have hfz24_1:=bz BK338.out 1;have hfz24_2:=bz BK338.out 2;have hfz24_3:=bz BK338.out 3
        go_wp2
        refine bodyPost_ret (results_cell_row rfl _ _ gb338 43 #[.int .i64 0,.int .i64 0,.int .i64 0,.int .i64 0] (0,0) _ rfl (by (with_reducible repeat (first|refine bn ?_ _|refine bd ?_|refine ba ?_ _));refine bp (cs:=#[.int .i64 0,.int .i64 0,.int .i64 0,.int .i64 0]) ?_ 3 _ rfl;(with_reducible repeat (first|refine bn ?_ _|refine bd ?_|refine ba ?_ _));refine bp (cs:=#[.int .i64 0,.int .i64 0,.int .i64 0,.int .i64 0]) ?_ 2 _ rfl;(with_reducible repeat (first|refine bn ?_ _|refine bd ?_|refine ba ?_ _));refine bp (cs:=#[.int .i64 0,.int .i64 0,.int .i64 0,.int .i64 0]) ?_ 1 _ rfl;(with_reducible repeat (first|refine bn ?_ _|refine bd ?_|refine ba ?_ _));refine bp (cs:=#[.int .i64 0,.int .i64 0,.int .i64 0,.int .i64 0]) ?_ 0 _ rfl;(with_reducible repeat (first|refine bn ?_ _|refine bd ?_|refine ba ?_ _));exact BK338.out) Try.underlying43 rfl (by kernel_rfl)) rfl ?_
        exact ⟨by first|rfl|(simp [errW_none,errW_some] <;> rfl)|(simp [*,errW_none,errW_some] <;> rfl),by repeat (first|(with_reducible first|exact HB.out|apply sa|apply sn|apply sd|refine sy ?_ (by assumption))|exact HB.out)⟩
      · replace c21:=Bool.eq_false_iff.mpr c21
        subst c21
        have H1 : (affine_Color.l0 kj2 0 a1_0 a1_1 a1_2 a1_3 a0_0 a0_1 a0_2 a0_3 a0_4 a0_5 a0_6 a0_7 a1_0 a1_1 a1_2 a1_3) = some (r1,r2,r3,r4):=by rw [if_neg (show ¬ (false = true) by decide)] at H;exact H
        clear H;have H:=H1;clear H1;have H':=am H;clear H;have hnb25:=NB337_336.out;have hnc25:=NB336_337.out;have hnb26:=NB337_338.out;have hnc26:=NB338_337.out;have hcz27_0 : wc.cell? ⟨gb337,0,none⟩ = some (.int .i64 a1_0):=(bc BK337.out 0).trans rfl;have hcz27_1 : wc.cell? ⟨gb337,1,none⟩ = some (.int .i64 a1_1):=(bc BK337.out 1).trans rfl;have hcz27_2 : wc.cell? ⟨gb337,2,none⟩ = some (.int .i64 a1_2):=(bc BK337.out 2).trans rfl;have hcz27_3 : wc.cell? ⟨gb337,3,none⟩ = some (.int .i64 a1_3):=(bc BK337.out 3).trans rfl;have hfz27_0:=bz BK337.out 0;have hfz27_1:=bz BK337.out 1;have hfz27_2:=bz BK337.out 2;have hfz27_3:=bz BK337.out 3
        go_wp2_with (first|((with_reducible refine gate_dst (N:=5) rfl ?_);refine box_event ?hg (N:=5) ?hd (cs:=#[.int .i64 0,.int .i64 0,.int .i64 0,.int .i64 0]) (t:=39) ?hr ?_;(case hd => rfl);(case hg => rfl);(case hr => first|(go_simp;done)|(go_simp;rfl));intro gb341 hg w28 hbox hb;have BK341:=am (hbox);obtain ⟨h1_,GW341⟩:=sg (by repeat (first|(with_reducible first|exact HB.out|apply sa|apply sn|apply sd|refine sy ?_ (by assumption))|exact HB.out)) hb hg;replace HB:=h1_;clear h1_;have GE341:=GW341;have NB336_341:=nb (by exact BK336.out) hg;replace BK336:=am (bw (by exact BK336.out) hb);have NB341_336:=am (Ne.symm NB336_341.out);have NB337_341:=nb (by exact BK337.out) hg;replace BK337:=am (bw (by exact BK337.out) hb);have NB341_337:=am (Ne.symm NB337_341.out);have NB338_341:=nb (by exact BK338.out) hg;have NB341_338:=ng (by exact BK338.out) hg;replace BK338:=am (bw (by exact BK338.out) hb);clear hb hbox hg;have hnb29:=NB341_336.out;have hnc29:=NB336_341.out;have hnb30:=NB341_337.out;have hnc30:=NB337_341.out;have hnb31:=NB341_338.out;have hnc31:=NB338_341.out;obtain ⟨hcz32_0,hcz32_1,hcz32_2,hcz32_3⟩:=cq4 BK341.out;obtain ⟨hfz32_0,hfz32_1,hfz32_2,hfz32_3⟩:=fq4 BK341.out))
        go_loopg [27] kj2 (fun kq v27 w' => ∃ (x27_2 : Int) (x342000_2 : Int) (x342001_2 : Int) (x342002_2 : Int) (x342003_2 : Int),v27 = .int .i64 x27_2 ∧ Aside0 (affine_Color.l0 kq x27_2 a1_0 a1_1 a1_2 a1_3 a0_0 a0_1 a0_2 a0_3 a0_4 a0_5 a0_6 a0_7 x342000_2 x342001_2 x342002_2 x342003_2 = some (r1,r2,r3,r4)) ∧ Aside0 (kq ≤ kj2) ∧ Aside0 (w'.heap[gb336]? = some (.cells #[.int .i64 a0_0,.int .i64 a0_1,.int .i64 a0_2,.int .i64 a0_3,.int .i64 a0_4,.int .i64 a0_5,.int .i64 a0_6,.int .i64 a0_7] 41 (0,0))) ∧ Aside0 (w'.heap[gb337]? = some (.cells #[.int .i64 a1_0,.int .i64 a1_1,.int .i64 a1_2,.int .i64 a1_3] 43 (0,0))) ∧ Aside0 (w'.heap[gb338]? = some (.cells #[.int .i64 0,.int .i64 0,.int .i64 0,.int .i64 0] 43 (0,0))) ∧ Aside0 (w'.heap[gb341]? = some (.cells #[.int .i64 x342000_2,.int .i64 x342001_2,.int .i64 x342002_2,.int .i64 x342003_2] 39 (0,0))) ∧ Aside0 (Below w.heap.size w w'))
        case atStart => exact ⟨(0),(a1_0),(a1_1),(a1_2),(a1_3),(by first|rfl|(simp;done)|(simp [*];done)),H',⟨Nat.le_refl _⟩,⟨by (with_reducible repeat (first|refine bn ?_ _|refine bd ?_|refine ba ?_ _|refine bf ?_ NB336_341.out _));exact BK336.out⟩,⟨by (with_reducible repeat (first|refine bn ?_ _|refine bd ?_|refine ba ?_ _|refine bf ?_ NB337_341.out _));exact BK337.out⟩,⟨by (with_reducible repeat (first|refine bn ?_ _|refine bd ?_|refine ba ?_ _|refine bf ?_ NB338_341.out _));exact BK338.out⟩,⟨by (with_reducible repeat (first|refine bn ?_ _|refine bd ?_|refine ba ?_ _));refine bp (cs:=#[.int .i64 a1_0,.int .i64 a1_1,.int .i64 a1_2,.int .i64 0]) ?_ 3 _ rfl;(with_reducible repeat (first|refine bn ?_ _|refine bd ?_|refine ba ?_ _));refine bp (cs:=#[.int .i64 a1_0,.int .i64 a1_1,.int .i64 0,.int .i64 0]) ?_ 2 _ rfl;(with_reducible repeat (first|refine bn ?_ _|refine bd ?_|refine ba ?_ _));refine bp (cs:=#[.int .i64 a1_0,.int .i64 0,.int .i64 0,.int .i64 0]) ?_ 1 _ rfl;(with_reducible repeat (first|refine bn ?_ _|refine bd ?_|refine ba ?_ _));refine bp (cs:=#[.int .i64 0,.int .i64 0,.int .i64 0,.int .i64 0]) ?_ 0 _ rfl;(with_reducible repeat (first|refine bn ?_ _|refine bd ?_|refine ba ?_ _));exact BK341.out⟩,⟨by repeat (first|(with_reducible first|exact HB.out|apply sa|apply sn|apply sd|refine sy ?_ (by assumption))|exact HB.out)⟩⟩
        case round =>
          clear H'
          try clear c1
          try clear c2
          try clear p2
          try clear c3
          try clear c4
          try clear c8
          try clear c10
          try clear c11
          try clear c14
          try clear c17
          try clear c18
          try clear c21
          try clear c22
          try clear c23
          try clear c24
          try clear c25
          try clear c26
          try clear c29
          try clear c30
          try clear c31
          try clear hcz12_0
          try clear hcz12_1
          try clear hcz12_2
          try clear hcz12_3
          try clear hcz12_4
          try clear hcz12_5
          try clear hcz12_6
          try clear hcz12_7
          try clear hcz15_0
          try clear hcz15_1
          try clear hcz15_2
          try clear hcz15_3
          try clear hcz19_0
          try clear hcz19_1
          try clear hcz19_2
          try clear hcz19_3
          try clear hcz19_4
          try clear hcz19_5
          try clear hcz19_6
          try clear hcz19_7
          try clear hcz24_0
          try clear hcz24_1
          try clear hcz24_2
          try clear hcz24_3
          try clear hcz27_0
          try clear hcz27_1
          try clear hcz27_2
          try clear hcz27_3
          try clear hcz32_0
          try clear hcz32_1
          try clear hcz32_2
          try clear hcz32_3
          try clear hfz12_0
          try clear hfz12_1
          try clear hfz12_2
          try clear hfz12_3
          try clear hfz12_4
          try clear hfz12_5
          try clear hfz12_6
          try clear hfz12_7
          try clear hfz15_0
          try clear hfz15_1
          try clear hfz15_2
          try clear hfz15_3
          try clear hfz19_0
          try clear hfz19_1
          try clear hfz19_2
          try clear hfz19_3
          try clear hfz19_4
          try clear hfz19_5
          try clear hfz19_6
          try clear hfz19_7
          try clear hfz24_0
          try clear hfz24_1
          try clear hfz24_2
          try clear hfz24_3
          try clear hfz27_0
          try clear hfz27_1
          try clear hfz27_2
          try clear hfz27_3
          try clear hfz32_0
          try clear hfz32_1
          try clear hfz32_2
          try clear hfz32_3
          try clear p2
          obtain ⟨x27_2,x342000_2,x342001_2,x342002_2,x342003_2,rfl,HA,HK2,BK336,BK337,BK338,BK341,HB⟩:=hrel
          cases gk with
          | zero => exact absurd HA.out (by simp [affine_Color.l0])
          | succ k2 =>
            have H:=HA.out;clear HA;simp only [affine_Color.l0] at H
            by_cases c33 : x27_2 < 4
            · rw [if_pos c33] at H
              have c33b0 : decide (x27_2 < 4) = true:=decide_eq_true c33;clear c33
              by_cases c34 : x27_2 = 0
              · subst c34
                have H1 : ((affine_clamp.f (wrap64 (((wrap64 (a1_0 * a0_0)) / 256) + a0_4)) 0 255).bind fun t342 => (affine_Color.l0 k2 (0 + 1) a1_0 a1_1 a1_2 a1_3 a0_0 a0_1 a0_2 a0_3 a0_4 a0_5 a0_6 a0_7 t342 x342001_2 x342002_2 x342003_2)) = some (r1,r2,r3,r4):=by rw [if_pos rfl] at H;exact H
                clear H;have H:=H1;clear H1;replace H:=Option.bind_eq_some_iff.mp H;obtain ⟨t342,A350,H⟩:=H;replace H : (affine_Color.l0 k2 (0 + 1) a1_0 a1_1 a1_2 a1_3 a0_0 a0_1 a0_2 a0_3 a0_4 a0_5 a0_6 a0_7 t342 x342001_2 x342002_2 x342003_2) = some (r1,r2,r3,r4):=H;have A35:=am A350;clear A350;have H':=am H;clear H
                try go_wp2
                replace BK336:=am (bd BK336.out);replace BK337:=am (bd BK337.out);replace BK338:=am (bd BK338.out);replace BK341:=am (bd BK341.out);replace HB:=am (sd HB.out);refine start_ (n:=16) (S:=fun w' => w'.cell? ⟨gb336,0,none⟩ = some (.int .i64 a0_0) ∧ w'.cell? ⟨gb336,1,none⟩ = some (.int .i64 a0_1) ∧ w'.cell? ⟨gb336,2,none⟩ = some (.int .i64 a0_2) ∧ w'.cell? ⟨gb336,3,none⟩ = some (.int .i64 a0_3) ∧ w'.cell? ⟨gb336,4,none⟩ = some (.int .i64 a0_4) ∧ w'.cell? ⟨gb336,5,none⟩ = some (.int .i64 a0_5) ∧ w'.cell? ⟨gb336,6,none⟩ = some (.int .i64 a0_6) ∧ w'.cell? ⟨gb336,7,none⟩ = some (.int .i64 a0_7)) (ds:=[]) #[false,false,false,false,false,false,false,false,false,false,false,false,false,false,false,false] (by kernel_rfl) rfl rfl ⟨(bc BK336.out 0).trans rfl,(bc BK336.out 1).trans rfl,(bc BK336.out 2).trans rfl,(bc BK336.out 3).trans rfl,(bc BK336.out 4).trans rfl,(bc BK336.out 5).trans rfl,(bc BK336.out 6).trans rfl,(bc BK336.out 7).trans rfl⟩ (fun hHeld => ?_);refine with_tabW affine_Color.tab7 affine_Color.bits7 (fun HT_ HW_ => ?_);generalize wr.drew = w36 at BK336 BK337 BK338 BK341 HB hHeld ⊢;refine pure_ (i:=0) (N:=some 31) (v:=?_) (a':=?_) #[true,false,false,false,false,false,false,false,false,false,false,false,false,false,false,false] rfl rfl (any_of HT_.out (by kernel_rfl)) (fun _ _ _ h => h) (Or.inl ⟨by rfl,?_⟩) ?_ ?_
                rotate_left
                · intro w'
                  go_simp
                  with_reducible rfl
                rotate_left
                · simp only [Act.put,q1,q2,q3,i64_w,i32_w]
                  rfl
                refine pure_ (i:=1) (N:=some 32) (v:=?_) (a':=?_) #[true,true,false,false,false,false,false,false,false,false,false,false,false,false,false,false] rfl rfl (any_of HT_.out (by kernel_rfl)) (fun _ _ _ h => h) (Or.inl ⟨by rfl,?_⟩) ?_ ?_
                rotate_left
                · intro w'
                  go_simp
                  with_reducible rfl
                rotate_left
                · simp only [Act.put,q1,q2,q3,i64_w,i32_w]
                  rfl
                refine pure_ (i:=2) (N:=some 33) (v:=?_) (a':=?_) #[true,true,true,false,false,false,false,false,false,false,false,false,false,false,false,false] rfl rfl (any_of HT_.out (by kernel_rfl)) (fun _ _ _ h => h) (Or.inl ⟨by rfl,?_⟩) ?_ ?_
                rotate_left
                · intro w'
                  go_simp
                  with_reducible rfl
                rotate_left
                · simp only [Act.put,q1,q2,q3,i64_w,i32_w]
                  rfl
                refine pure_ (i:=3) (N:=some 34) (v:=?_) (a':=?_) #[true,true,true,true,false,false,false,false,false,false,false,false,false,false,false,false] rfl rfl (any_of HT_.out (by kernel_rfl)) (fun _ _ _ h => h) (Or.inl ⟨by rfl,?_⟩) ?_ ?_
                rotate_left
                · intro w'
                  go_simp
                  with_reducible rfl
                rotate_left
                · simp only [Act.put,q1,q2,q3,i64_w,i32_w]
                  rfl
                refine pure_ (i:=4) (N:=some 35) (v:=?_) (a':=?_) #[true,true,true,true,true,false,false,false,false,false,false,false,false,false,false,false] rfl rfl (any_of HT_.out (by kernel_rfl)) (fun _ _ _ h => h) (Or.inl ⟨by rfl,?_⟩) ?_ ?_
                rotate_left
                · intro w'
                  go_simp
                  with_reducible rfl
                rotate_left
                · simp only [Act.put,q1,q2,q3,i64_w,i32_w]
                  rfl
                refine pure_ (i:=8) (N:=some 39) (v:=?_) (a':=?_) #[true,true,true,true,true,false,false,false,true,false,false,false,false,false,false,false] rfl rfl (any_of HT_.out (by kernel_rfl)) (fun _ _ _ h => h) (Or.inl ⟨by rfl,?_⟩) ?_ ?_
                rotate_left
                · intro w'
                  go_simp
                  with_reducible rfl
                rotate_left
                · simp only [Act.put,q1,q2,q3,i64_w,i32_w]
                  rfl
                refine pure_ (i:=9) (N:=some 40) (v:=?_) (a':=?_) #[true,true,true,true,true,false,false,false,true,true,false,false,false,false,false,false] rfl rfl (any_of HT_.out (by kernel_rfl)) (fun _ _ _ h => h) (Or.inl ⟨by rfl,?_⟩) ?_ ?_
                rotate_left
                · intro w'
                  go_simp
                  with_reducible rfl
                rotate_left
                · simp only [Act.put,q1,q2,q3,i64_w,i32_w]
                  rfl
                refine pure_ (i:=10) (N:=some 41) (v:=?_) (a':=?_) #[true,true,true,true,true,false,false,false,true,true,true,false,false,false,false,false] rfl rfl (any_of HT_.out (by kernel_rfl)) (fun _ _ _ h => h) (Or.inl ⟨by rfl,?_⟩) ?_ ?_
                rotate_left
                · intro w'
                  go_simp
                  with_reducible rfl
                rotate_left
                · simp only [Act.put,q1,q2,q3,i64_w,i32_w]
                  rfl
                refine take_ (i:=5) (N:=some 36) (v:=?_) (a':=?_) #[true,true,true,true,true,true,false,false,true,true,true,false,false,false,false,false] rfl rfl (take_ofW HT_.out HW_.out (by kernel_rfl)) (fun _ _ _ h => h) (Or.inl ⟨by rfl,?_⟩) hHeld ?_ ?_
                rotate_left
                · rintro w' ⟨s0,s1,s2,s3,s4,s5,s6,s7⟩
                  go_simp
                  with_reducible rfl
                rotate_left
                · simp only [Act.put,q1,q2,q3,i64_w,i32_w]
                  rfl
                refine pure_ (i:=6) (N:=some 37) (v:=?_) (a':=?_) #[true,true,true,true,true,true,true,false,true,true,true,false,false,false,false,false] rfl rfl (any_of HT_.out (by kernel_rfl)) (fun _ _ _ h => h) (Or.inl ⟨by rfl,?_⟩) ?_ ?_
                rotate_left
                · intro w'
                  go_simp
                  with_reducible rfl
                rotate_left
                · simp only [Act.put,q1,q2,q3,i64_w,i32_w]
                  rfl
                refine pure_ (i:=7) (N:=some 38) (v:=?_) (a':=?_) #[true,true,true,true,true,true,true,true,true,true,true,false,false,false,false,false] rfl rfl (any_of HT_.out (by kernel_rfl)) (fun _ _ _ h => h) (Or.inl ⟨by rfl,?_⟩) ?_ ?_
                rotate_left
                · intro w'
                  go_simp
                  with_reducible rfl
                rotate_left
                · simp only [Act.put,q1,q2,q3,i64_w,i32_w]
                  rfl
                refine take_ (i:=11) (N:=some 42) (v:=?_) (a':=?_) #[true,true,true,true,true,true,true,true,true,true,true,true,false,false,false,false] rfl rfl (take_ofW HT_.out HW_.out (by kernel_rfl)) (fun _ _ _ h => h) (Or.inl ⟨by rfl,?_⟩) hHeld ?_ ?_
                rotate_left
                · rintro w' ⟨s0,s1,s2,s3,s4,s5,s6,s7⟩
                  go_simp
                  with_reducible rfl
                rotate_left
                · simp only [Act.put,q1,q2,q3,i64_w,i32_w]
                  rfl
                refine pure_ (i:=12) (N:=some 43) (v:=?_) (a':=?_) #[true,true,true,true,true,true,true,true,true,true,true,true,true,false,false,false] rfl rfl (any_of HT_.out (by kernel_rfl)) (fun _ _ _ h => h) (Or.inl ⟨by rfl,?_⟩) ?_ ?_
                rotate_left
                · intro w'
                  go_simp
                  with_reducible rfl
                rotate_left
                · simp only [Act.put,q1,q2,q3,i64_w,i32_w]
                  rfl
                refine one_ (i:=13) (N:=some 44) #[true,true,true,true,true,true,true,true,true,true,true,true,true,true,false,false] rfl rfl (one_of HT_.out (by kernel_rfl)) (by decide) (fun K hK => ?_);refine goes_ Try.func43 (by kernel_rfl) rfl #[.int .i64 (wrap64 (((wrap64 (a1_0 * a0_0)) / 256) + a0_4)),.int .i64 0,.int .i64 255] (by rfl) rfl rfl (by (try simp only [List.map_toArray,List.map_cons,List.map_nil]);first|done|rfl|(simp only [List.length_drop,List.length_take];rfl)) ?_
                with_reducible refine (affine_clamp.calls (wrap64 (((wrap64 (a1_0 * a0_0)) / 256) + a0_4)) 0 255 t342 _ A35.out).mono ?_
                rintro e w37 ⟨rfl,hb⟩
                refine ⟨_,rfl,?_⟩;replace BK336:=am (bw (by exact BK336.out) hb);replace BK337:=am (bw (by exact BK337.out) hb);replace BK338:=am (bw (by exact BK338.out) hb);replace BK341:=am (bw (by exact BK341.out) hb);replace HB:=am (ss (by repeat (first|(with_reducible first|exact HB.out|apply sa|apply sn|apply sd|refine sy ?_ (by assumption))|exact HB.out)) hb);(try clear hb);(try clear hb2);(try clear hk);(try clear hi);refine hK.out _ _ ⟨(bc BK336.out 0).trans rfl,(bc BK336.out 1).trans rfl,(bc BK336.out 2).trans rfl,(bc BK336.out 3).trans rfl,(bc BK336.out 4).trans rfl,(bc BK336.out 5).trans rfl,(bc BK336.out 6).trans rfl,(bc BK336.out 7).trans rfl⟩ (fun hHeld => ?_);clear hK K;refine norm_ (a':=?_) ?_ ?_
                rotate_left
                · show Act.put _ (some 44) _ = _
                  simp only [Act.put,q1,q2,q3,i64_w,i32_w]
                  rfl
                refine pure_ (i:=14) (N:=some 45) (v:=?_) (a':=?_) #[true,true,true,true,true,true,true,true,true,true,true,true,true,true,true,false] rfl rfl (any_of HT_.out (by kernel_rfl)) (fun _ _ _ h => h) (Or.inl ⟨by rfl,?_⟩) ?_ ?_
                rotate_left
                · intro w'
                  go_simp
                  with_reducible rfl
                rotate_left
                · simp only [Act.put,q1,q2,q3,i64_w,i32_w]
                  rfl
                refine one_ (i:=15) (N:=none) #[true,true,true,true,true,true,true,true,true,true,true,true,true,true,true,true] rfl rfl (one_of HT_.out (by kernel_rfl)) (by decide) (fun K hK => ?_);have hs38 : w37.cell? ⟨gb341,0,none⟩ = some (.int .i64 x342000_2):=(bc BK341.out 0).trans rfl;have hfs38:=bz BK341.out 0;have hns38_0:=NB336_341.out;have hns38_1:=NB337_341.out;have hns38_2:=NB338_341.out;have hms38_0:=NB341_336.out;have hms38_1:=NB341_337.out;have hms38_2:=NB341_338.out;refine skip_ (w1:=?_) (by rfl) rfl ?_ ?_
                rotate_left
                · go_simp
                  rfl
                refine hK.out _ _ ⟨((cell_far (p:=⟨gb341,_,none⟩) NB336_341.out _).trans (hHeld.1)),((cell_far (p:=⟨gb341,_,none⟩) NB336_341.out _).trans (hHeld.2.1)),((cell_far (p:=⟨gb341,_,none⟩) NB336_341.out _).trans (hHeld.2.2.1)),((cell_far (p:=⟨gb341,_,none⟩) NB336_341.out _).trans (hHeld.2.2.2.1)),((cell_far (p:=⟨gb341,_,none⟩) NB336_341.out _).trans (hHeld.2.2.2.2.1)),((cell_far (p:=⟨gb341,_,none⟩) NB336_341.out _).trans (hHeld.2.2.2.2.2.1)),((cell_far (p:=⟨gb341,_,none⟩) NB336_341.out _).trans (hHeld.2.2.2.2.2.2.1)),((cell_far (p:=⟨gb341,_,none⟩) NB336_341.out _).trans (hHeld.2.2.2.2.2.2.2))⟩ (fun hHeld => ?_);clear hK K;refine done_ (done_of HT_.out (by kernel_rfl)) ?_
                try go_wp2
                go_roundg k2
                case measure => have:=HJ2.out;have:=HK2.out;omega
                case rel => exact ⟨(0 + 1),(t342),(x342001_2),(x342002_2),(x342003_2),(by first|rfl|(simp;done)|(simp [*];done)),H',⟨by have:=HJ2.out;have:=HK2.out;omega⟩,⟨by (with_reducible repeat (first|refine bn ?_ _|refine bd ?_|refine ba ?_ _|refine bf ?_ NB336_341.out _));exact BK336.out⟩,⟨by (with_reducible repeat (first|refine bn ?_ _|refine bd ?_|refine ba ?_ _|refine bf ?_ NB337_341.out _));exact BK337.out⟩,⟨by (with_reducible repeat (first|refine bn ?_ _|refine bd ?_|refine ba ?_ _|refine bf ?_ NB338_341.out _));exact BK338.out⟩,⟨by (with_reducible repeat (first|refine bn ?_ _|refine bd ?_|refine ba ?_ _));refine bp (cs:=#[.int .i64 x342000_2,.int .i64 x342001_2,.int .i64 x342002_2,.int .i64 x342003_2]) ?_ 0 _ rfl;(with_reducible repeat (first|refine bn ?_ _|refine bd ?_|refine ba ?_ _));exact BK341.out⟩,⟨by repeat (first|(with_reducible first|exact HB.out|apply sa|apply sn|apply sd|refine sy ?_ (by assumption))|exact HB.out)⟩⟩
              · rw [if_neg c34] at H
                by_cases c39 : x27_2 = 1
                · subst c39
                  have H1 : ((affine_clamp.f (wrap64 (((wrap64 (a1_1 * a0_1)) / 256) + a0_5)) 0 255).bind fun t343 => (affine_Color.l0 k2 (1 + 1) a1_0 a1_1 a1_2 a1_3 a0_0 a0_1 a0_2 a0_3 a0_4 a0_5 a0_6 a0_7 x342000_2 t343 x342002_2 x342003_2)) = some (r1,r2,r3,r4):=by rw [if_pos rfl] at H;exact H
                  clear H;have H:=H1;clear H1;replace H:=Option.bind_eq_some_iff.mp H;obtain ⟨t343,A400,H⟩:=H;replace H : (affine_Color.l0 k2 (1 + 1) a1_0 a1_1 a1_2 a1_3 a0_0 a0_1 a0_2 a0_3 a0_4 a0_5 a0_6 a0_7 x342000_2 t343 x342002_2 x342003_2) = some (r1,r2,r3,r4):=H;have A40:=am A400;clear A400;have H':=am H;clear H
                  try go_wp2
                  replace BK336:=am (bd BK336.out);replace BK337:=am (bd BK337.out);replace BK338:=am (bd BK338.out);replace BK341:=am (bd BK341.out);replace HB:=am (sd HB.out);refine start_ (n:=16) (S:=fun w' => w'.cell? ⟨gb336,0,none⟩ = some (.int .i64 a0_0) ∧ w'.cell? ⟨gb336,1,none⟩ = some (.int .i64 a0_1) ∧ w'.cell? ⟨gb336,2,none⟩ = some (.int .i64 a0_2) ∧ w'.cell? ⟨gb336,3,none⟩ = some (.int .i64 a0_3) ∧ w'.cell? ⟨gb336,4,none⟩ = some (.int .i64 a0_4) ∧ w'.cell? ⟨gb336,5,none⟩ = some (.int .i64 a0_5) ∧ w'.cell? ⟨gb336,6,none⟩ = some (.int .i64 a0_6) ∧ w'.cell? ⟨gb336,7,none⟩ = some (.int .i64 a0_7)) (ds:=[]) #[false,false,false,false,false,false,false,false,false,false,false,false,false,false,false,false] (by kernel_rfl) rfl rfl ⟨(bc BK336.out 0).trans rfl,(bc BK336.out 1).trans rfl,(bc BK336.out 2).trans rfl,(bc BK336.out 3).trans rfl,(bc BK336.out 4).trans rfl,(bc BK336.out 5).trans rfl,(bc BK336.out 6).trans rfl,(bc BK336.out 7).trans rfl⟩ (fun hHeld => ?_);refine with_tabW affine_Color.tab7 affine_Color.bits7 (fun HT_ HW_ => ?_);generalize wr.drew = w41 at BK336 BK337 BK338 BK341 HB hHeld ⊢;refine pure_ (i:=0) (N:=some 31) (v:=?_) (a':=?_) #[true,false,false,false,false,false,false,false,false,false,false,false,false,false,false,false] rfl rfl (any_of HT_.out (by kernel_rfl)) (fun _ _ _ h => h) (Or.inl ⟨by rfl,?_⟩) ?_ ?_
                  rotate_left
                  · intro w'
                    go_simp
                    with_reducible rfl
                  rotate_left
                  · simp only [Act.put,q1,q2,q3,i64_w,i32_w]
                    rfl
                  refine pure_ (i:=1) (N:=some 32) (v:=?_) (a':=?_) #[true,true,false,false,false,false,false,false,false,false,false,false,false,false,false,false] rfl rfl (any_of HT_.out (by kernel_rfl)) (fun _ _ _ h => h) (Or.inl ⟨by rfl,?_⟩) ?_ ?_
                  rotate_left
                  · intro w'
                    go_simp
                    with_reducible rfl
                  rotate_left
                  · simp only [Act.put,q1,q2,q3,i64_w,i32_w]
                    rfl
                  refine pure_ (i:=2) (N:=some 33) (v:=?_) (a':=?_) #[true,true,true,false,false,false,false,false,false,false,false,false,false,false,false,false] rfl rfl (any_of HT_.out (by kernel_rfl)) (fun _ _ _ h => h) (Or.inl ⟨by rfl,?_⟩) ?_ ?_
                  rotate_left
                  · intro w'
                    go_simp
                    with_reducible rfl
                  rotate_left
                  · simp only [Act.put,q1,q2,q3,i64_w,i32_w]
                    rfl
                  refine pure_ (i:=3) (N:=some 34) (v:=?_) (a':=?_) #[true,true,true,true,false,false,false,false,false,false,false,false,false,false,false,false] rfl rfl (any_of HT_.out (by kernel_rfl)) (fun _ _ _ h => h) (Or.inl ⟨by rfl,?_⟩) ?_ ?_
                  rotate_left
                  · intro w'
                    go_simp
                    with_reducible rfl
                  rotate_left
                  · simp only [Act.put,q1,q2,q3,i64_w,i32_w]
                    rfl
                  refine pure_ (i:=4) (N:=some 35) (v:=?_) (a':=?_) #[true,true,true,true,true,false,false,false,false,false,false,false,false,false,false,false] rfl rfl (any_of HT_.out (by kernel_rfl)) (fun _ _ _ h => h) (Or.inl ⟨by rfl,?_⟩) ?_ ?_
                  rotate_left
                  · intro w'
                    go_simp
                    with_reducible rfl
                  rotate_left
                  · simp only [Act.put,q1,q2,q3,i64_w,i32_w]
                    rfl
                  refine pure_ (i:=8) (N:=some 39) (v:=?_) (a':=?_) #[true,true,true,true,true,false,false,false,true,false,false,false,false,false,false,false] rfl rfl (any_of HT_.out (by kernel_rfl)) (fun _ _ _ h => h) (Or.inl ⟨by rfl,?_⟩) ?_ ?_
                  rotate_left
                  · intro w'
                    go_simp
                    with_reducible rfl
                  rotate_left
                  · simp only [Act.put,q1,q2,q3,i64_w,i32_w]
                    rfl
                  refine pure_ (i:=9) (N:=some 40) (v:=?_) (a':=?_) #[true,true,true,true,true,false,false,false,true,true,false,false,false,false,false,false] rfl rfl (any_of HT_.out (by kernel_rfl)) (fun _ _ _ h => h) (Or.inl ⟨by rfl,?_⟩) ?_ ?_
                  rotate_left
                  · intro w'
                    go_simp
                    with_reducible rfl
                  rotate_left
                  · simp only [Act.put,q1,q2,q3,i64_w,i32_w]
                    rfl
                  refine pure_ (i:=10) (N:=some 41) (v:=?_) (a':=?_) #[true,true,true,true,true,false,false,false,true,true,true,false,false,false,false,false] rfl rfl (any_of HT_.out (by kernel_rfl)) (fun _ _ _ h => h) (Or.inl ⟨by rfl,?_⟩) ?_ ?_
                  rotate_left
                  · intro w'
                    go_simp
                    with_reducible rfl
                  rotate_left
                  · simp only [Act.put,q1,q2,q3,i64_w,i32_w]
                    rfl
                  refine take_ (i:=5) (N:=some 36) (v:=?_) (a':=?_) #[true,true,true,true,true,true,false,false,true,true,true,false,false,false,false,false] rfl rfl (take_ofW HT_.out HW_.out (by kernel_rfl)) (fun _ _ _ h => h) (Or.inl ⟨by rfl,?_⟩) hHeld ?_ ?_
                  rotate_left
                  · rintro w' ⟨s0,s1,s2,s3,s4,s5,s6,s7⟩
                    go_simp
                    with_reducible rfl
                  rotate_left
                  · simp only [Act.put,q1,q2,q3,i64_w,i32_w]
                    rfl
                  refine pure_ (i:=6) (N:=some 37) (v:=?_) (a':=?_) #[true,true,true,true,true,true,true,false,true,true,true,false,false,false,false,false] rfl rfl (any_of HT_.out (by kernel_rfl)) (fun _ _ _ h => h) (Or.inl ⟨by rfl,?_⟩) ?_ ?_
                  rotate_left
                  · intro w'
                    go_simp
                    with_reducible rfl
                  rotate_left
                  · simp only [Act.put,q1,q2,q3,i64_w,i32_w]
                    rfl
                  refine pure_ (i:=7) (N:=some 38) (v:=?_) (a':=?_) #[true,true,true,true,true,true,true,true,true,true,true,false,false,false,false,false] rfl rfl (any_of HT_.out (by kernel_rfl)) (fun _ _ _ h => h) (Or.inl ⟨by rfl,?_⟩) ?_ ?_
                  rotate_left
                  · intro w'
                    go_simp
                    with_reducible rfl
                  rotate_left
                  · simp only [Act.put,q1,q2,q3,i64_w,i32_w]
                    rfl
                  refine take_ (i:=11) (N:=some 42) (v:=?_) (a':=?_) #[true,true,true,true,true,true,true,true,true,true,true,true,false,false,false,false] rfl rfl (take_ofW HT_.out HW_.out (by kernel_rfl)) (fun _ _ _ h => h) (Or.inl ⟨by rfl,?_⟩) hHeld ?_ ?_
                  rotate_left
                  · rintro w' ⟨s0,s1,s2,s3,s4,s5,s6,s7⟩
                    go_simp
                    with_reducible rfl
                  rotate_left
                  · simp only [Act.put,q1,q2,q3,i64_w,i32_w]
                    rfl
                  refine pure_ (i:=12) (N:=some 43) (v:=?_) (a':=?_) #[true,true,true,true,true,true,true,true,true,true,true,true,true,false,false,false] rfl rfl (any_of HT_.out (by kernel_rfl)) (fun _ _ _ h => h) (Or.inl ⟨by rfl,?_⟩) ?_ ?_
                  rotate_left
                  · intro w'
                    go_simp
                    with_reducible rfl
                  rotate_left
                  · simp only [Act.put,q1,q2,q3,i64_w,i32_w]
                    rfl
                  refine one_ (i:=13) (N:=some 44) #[true,true,true,true,true,true,true,true,true,true,true,true,true,true,false,false] rfl rfl (one_of HT_.out (by kernel_rfl)) (by decide) (fun K hK => ?_);refine goes_ Try.func43 (by kernel_rfl) rfl #[.int .i64 (wrap64 (((wrap64 (a1_1 * a0_1)) / 256) + a0_5)),.int .i64 0,.int .i64 255] (by rfl) rfl rfl (by (try simp only [List.map_toArray,List.map_cons,List.map_nil]);first|done|rfl|(simp only [List.length_drop,List.length_take];rfl)) ?_
                  with_reducible refine (affine_clamp.calls (wrap64 (((wrap64 (a1_1 * a0_1)) / 256) + a0_5)) 0 255 t343 _ A40.out).mono ?_
                  rintro e w42 ⟨rfl,hb⟩
                  refine ⟨_,rfl,?_⟩;replace BK336:=am (bw (by exact BK336.out) hb);replace BK337:=am (bw (by exact BK337.out) hb);replace BK338:=am (bw (by exact BK338.out) hb);replace BK341:=am (bw (by exact BK341.out) hb);replace HB:=am (ss (by repeat (first|(with_reducible first|exact HB.out|apply sa|apply sn|apply sd|refine sy ?_ (by assumption))|exact HB.out)) hb);(try clear hb);(try clear hb2);(try clear hk);(try clear hi);refine hK.out _ _ ⟨(bc BK336.out 0).trans rfl,(bc BK336.out 1).trans rfl,(bc BK336.out 2).trans rfl,(bc BK336.out 3).trans rfl,(bc BK336.out 4).trans rfl,(bc BK336.out 5).trans rfl,(bc BK336.out 6).trans rfl,(bc BK336.out 7).trans rfl⟩ (fun hHeld => ?_);clear hK K;refine norm_ (a':=?_) ?_ ?_
                  rotate_left
                  · show Act.put _ (some 44) _ = _
                    simp only [Act.put,q1,q2,q3,i64_w,i32_w]
                    rfl
                  refine pure_ (i:=14) (N:=some 45) (v:=?_) (a':=?_) #[true,true,true,true,true,true,true,true,true,true,true,true,true,true,true,false] rfl rfl (any_of HT_.out (by kernel_rfl)) (fun _ _ _ h => h) (Or.inl ⟨by rfl,?_⟩) ?_ ?_
                  rotate_left
                  · intro w'
                    go_simp
                    with_reducible rfl
                  rotate_left
                  · simp only [Act.put,q1,q2,q3,i64_w,i32_w]
                    rfl
                  refine one_ (i:=15) (N:=none) #[true,true,true,true,true,true,true,true,true,true,true,true,true,true,true,true] rfl rfl (one_of HT_.out (by kernel_rfl)) (by decide) (fun K hK => ?_);have hs43 : w42.cell? ⟨gb341,1,none⟩ = some (.int .i64 x342001_2):=(bc BK341.out 1).trans rfl;have hfs43:=bz BK341.out 1;have hns43_0:=NB336_341.out;have hns43_1:=NB337_341.out;have hns43_2:=NB338_341.out;have hms43_0:=NB341_336.out;have hms43_1:=NB341_337.out;have hms43_2:=NB341_338.out;refine skip_ (w1:=?_) (by rfl) rfl ?_ ?_
                  rotate_left
                  · go_simp
                    rfl
                  refine hK.out _ _ ⟨((cell_far (p:=⟨gb341,_,none⟩) NB336_341.out _).trans (hHeld.1)),((cell_far (p:=⟨gb341,_,none⟩) NB336_341.out _).trans (hHeld.2.1)),((cell_far (p:=⟨gb341,_,none⟩) NB336_341.out _).trans (hHeld.2.2.1)),((cell_far (p:=⟨gb341,_,none⟩) NB336_341.out _).trans (hHeld.2.2.2.1)),((cell_far (p:=⟨gb341,_,none⟩) NB336_341.out _).trans (hHeld.2.2.2.2.1)),((cell_far (p:=⟨gb341,_,none⟩) NB336_341.out _).trans (hHeld.2.2.2.2.2.1)),((cell_far (p:=⟨gb341,_,none⟩) NB336_341.out _).trans (hHeld.2.2.2.2.2.2.1)),((cell_far (p:=⟨gb341,_,none⟩) NB336_341.out _).trans (hHeld.2.2.2.2.2.2.2))⟩ (fun hHeld => ?_);clear hK K;refine done_ (done_of HT_.out (by kernel_rfl)) ?_
                  try go_wp2
                  go_roundg k2
                  case measure => have:=HJ2.out;have:=HK2.out;omega
                  case rel => exact ⟨(1 + 1),(x342000_2),(t343),(x342002_2),(x342003_2),(by first|rfl|(simp;done)|(simp [*];done)),H',⟨by have:=HJ2.out;have:=HK2.out;omega⟩,⟨by (with_reducible repeat (first|refine bn ?_ _|refine bd ?_|refine ba ?_ _|refine bf ?_ NB336_341.out _));exact BK336.out⟩,⟨by (with_reducible repeat (first|refine bn ?_ _|refine bd ?_|refine ba ?_ _|refine bf ?_ NB337_341.out _));exact BK337.out⟩,⟨by (with_reducible repeat (first|refine bn ?_ _|refine bd ?_|refine ba ?_ _|refine bf ?_ NB338_341.out _));exact BK338.out⟩,⟨by (with_reducible repeat (first|refine bn ?_ _|refine bd ?_|refine ba ?_ _));refine bp (cs:=#[.int .i64 x342000_2,.int .i64 x342001_2,.int .i64 x342002_2,.int .i64 x342003_2]) ?_ 1 _ rfl;(with_reducible repeat (first|refine bn ?_ _|refine bd ?_|refine ba ?_ _));exact BK341.out⟩,⟨by repeat (first|(with_reducible first|exact HB.out|apply sa|apply sn|apply sd|refine sy ?_ (by assumption))|exact HB.out)⟩⟩
                · rw [if_neg c39] at H
                  by_cases c44 : x27_2 = 2
                  · subst c44
                    have H1 : ((affine_clamp.f (wrap64 (((wrap64 (a1_2 * a0_2)) / 256) + a0_6)) 0 255).bind fun t344 => (affine_Color.l0 k2 (2 + 1) a1_0 a1_1 a1_2 a1_3 a0_0 a0_1 a0_2 a0_3 a0_4 a0_5 a0_6 a0_7 x342000_2 x342001_2 t344 x342003_2)) = some (r1,r2,r3,r4):=by rw [if_pos rfl] at H;exact H
                    clear H;have H:=H1;clear H1;replace H:=Option.bind_eq_some_iff.mp H;obtain ⟨t344,A450,H⟩:=H;replace H : (affine_Color.l0 k2 (2 + 1) a1_0 a1_1 a1_2 a1_3 a0_0 a0_1 a0_2 a0_3 a0_4 a0_5 a0_6 a0_7 x342000_2 x342001_2 t344 x342003_2) = some (r1,r2,r3,r4):=H;have A45:=am A450;clear A450;have H':=am H;clear H
                    try go_wp2
                    replace BK336:=am (bd BK336.out);replace BK337:=am (bd BK337.out);replace BK338:=am (bd BK338.out);replace BK341:=am (bd BK341.out);replace HB:=am (sd HB.out);refine start_ (n:=16) (S:=fun w' => w'.cell? ⟨gb336,0,none⟩ = some (.int .i64 a0_0) ∧ w'.cell? ⟨gb336,1,none⟩ = some (.int .i64 a0_1) ∧ w'.cell? ⟨gb336,2,none⟩ = some (.int .i64 a0_2) ∧ w'.cell? ⟨gb336,3,none⟩ = some (.int .i64 a0_3) ∧ w'.cell? ⟨gb336,4,none⟩ = some (.int .i64 a0_4) ∧ w'.cell? ⟨gb336,5,none⟩ = some (.int .i64 a0_5) ∧ w'.cell? ⟨gb336,6,none⟩ = some (.int .i64 a0_6) ∧ w'.cell? ⟨gb336,7,none⟩ = some (.int .i64 a0_7)) (ds:=[]) #[false,false,false,false,false,false,false,false,false,false,false,false,false,false,false,false] (by kernel_rfl) rfl rfl ⟨(bc BK336.out 0).trans rfl,(bc BK336.out 1).trans rfl,(bc BK336.out 2).trans rfl,(bc BK336.out 3).trans rfl,(bc BK336.out 4).trans rfl,(bc BK336.out 5).trans rfl,(bc BK336.out 6).trans rfl,(bc BK336.out 7).trans rfl⟩ (fun hHeld => ?_);refine with_tabW affine_Color.tab7 affine_Color.bits7 (fun HT_ HW_ => ?_);generalize wr.drew = w46 at BK336 BK337 BK338 BK341 HB hHeld ⊢;refine pure_ (i:=0) (N:=some 31) (v:=?_) (a':=?_) #[true,false,false,false,false,false,false,false,false,false,false,false,false,false,false,false] rfl rfl (any_of HT_.out (by kernel_rfl)) (fun _ _ _ h => h) (Or.inl ⟨by rfl,?_⟩) ?_ ?_
                    rotate_left
                    · intro w'
                      go_simp
                      with_reducible rfl
                    rotate_left
                    · simp only [Act.put,q1,q2,q3,i64_w,i32_w]
                      rfl
                    refine pure_ (i:=1) (N:=some 32) (v:=?_) (a':=?_) #[true,true,false,false,false,false,false,false,false,false,false,false,false,false,false,false] rfl rfl (any_of HT_.out (by kernel_rfl)) (fun _ _ _ h => h) (Or.inl ⟨by rfl,?_⟩) ?_ ?_
                    rotate_left
                    · intro w'
                      go_simp
                      with_reducible rfl
                    rotate_left
                    · simp only [Act.put,q1,q2,q3,i64_w,i32_w]
                      rfl
                    refine pure_ (i:=2) (N:=some 33) (v:=?_) (a':=?_) #[true,true,true,false,false,false,false,false,false,false,false,false,false,false,false,false] rfl rfl (any_of HT_.out (by kernel_rfl)) (fun _ _ _ h => h) (Or.inl ⟨by rfl,?_⟩) ?_ ?_
                    rotate_left
                    · intro w'
                      go_simp
                      with_reducible rfl
                    rotate_left
                    · simp only [Act.put,q1,q2,q3,i64_w,i32_w]
                      rfl
                    refine pure_ (i:=3) (N:=some 34) (v:=?_) (a':=?_) #[true,true,true,true,false,false,false,false,false,false,false,false,false,false,false,false] rfl rfl (any_of HT_.out (by kernel_rfl)) (fun _ _ _ h => h) (Or.inl ⟨by rfl,?_⟩) ?_ ?_
                    rotate_left
                    · intro w'
                      go_simp
                      with_reducible rfl
                    rotate_left
                    · simp only [Act.put,q1,q2,q3,i64_w,i32_w]
                      rfl
                    refine pure_ (i:=4) (N:=some 35) (v:=?_) (a':=?_) #[true,true,true,true,true,false,false,false,false,false,false,false,false,false,false,false] rfl rfl (any_of HT_.out (by kernel_rfl)) (fun _ _ _ h => h) (Or.inl ⟨by rfl,?_⟩) ?_ ?_
                    rotate_left
                    · intro w'
                      go_simp
                      with_reducible rfl
                    rotate_left
                    · simp only [Act.put,q1,q2,q3,i64_w,i32_w]
                      rfl
                    refine pure_ (i:=8) (N:=some 39) (v:=?_) (a':=?_) #[true,true,true,true,true,false,false,false,true,false,false,false,false,false,false,false] rfl rfl (any_of HT_.out (by kernel_rfl)) (fun _ _ _ h => h) (Or.inl ⟨by rfl,?_⟩) ?_ ?_
                    rotate_left
                    · intro w'
                      go_simp
                      with_reducible rfl
                    rotate_left
                    · simp only [Act.put,q1,q2,q3,i64_w,i32_w]
                      rfl
                    refine pure_ (i:=9) (N:=some 40) (v:=?_) (a':=?_) #[true,true,true,true,true,false,false,false,true,true,false,false,false,false,false,false] rfl rfl (any_of HT_.out (by kernel_rfl)) (fun _ _ _ h => h) (Or.inl ⟨by rfl,?_⟩) ?_ ?_
                    rotate_left
                    · intro w'
                      go_simp
                      with_reducible rfl
                    rotate_left
                    · simp only [Act.put,q1,q2,q3,i64_w,i32_w]
                      rfl
                    refine pure_ (i:=10) (N:=some 41) (v:=?_) (a':=?_) #[true,true,true,true,true,false,false,false,true,true,true,false,false,false,false,false] rfl rfl (any_of HT_.out (by kernel_rfl)) (fun _ _ _ h => h) (Or.inl ⟨by rfl,?_⟩) ?_ ?_
                    rotate_left
                    · intro w'
                      go_simp
                      with_reducible rfl
                    rotate_left
                    · simp only [Act.put,q1,q2,q3,i64_w,i32_w]
                      rfl
                    refine take_ (i:=5) (N:=some 36) (v:=?_) (a':=?_) #[true,true,true,true,true,true,false,false,true,true,true,false,false,false,false,false] rfl rfl (take_ofW HT_.out HW_.out (by kernel_rfl)) (fun _ _ _ h => h) (Or.inl ⟨by rfl,?_⟩) hHeld ?_ ?_
                    rotate_left
                    · rintro w' ⟨s0,s1,s2,s3,s4,s5,s6,s7⟩
                      go_simp
                      with_reducible rfl
                    rotate_left
                    · simp only [Act.put,q1,q2,q3,i64_w,i32_w]
                      rfl
                    refine pure_ (i:=6) (N:=some 37) (v:=?_) (a':=?_) #[true,true,true,true,true,true,true,false,true,true,true,false,false,false,false,false] rfl rfl (any_of HT_.out (by kernel_rfl)) (fun _ _ _ h => h) (Or.inl ⟨by rfl,?_⟩) ?_ ?_
                    rotate_left
                    · intro w'
                      go_simp
                      with_reducible rfl
                    rotate_left
                    · simp only [Act.put,q1,q2,q3,i64_w,i32_w]
                      rfl
                    refine pure_ (i:=7) (N:=some 38) (v:=?_) (a':=?_) #[true,true,true,true,true,true,true,true,true,true,true,false,false,false,false,false] rfl rfl (any_of HT_.out (by kernel_rfl)) (fun _ _ _ h => h) (Or.inl ⟨by rfl,?_⟩) ?_ ?_
                    rotate_left
                    · intro w'
                      go_simp
                      with_reducible rfl
                    rotate_left
                    · simp only [Act.put,q1,q2,q3,i64_w,i32_w]
                      rfl
                    refine take_ (i:=11) (N:=some 42) (v:=?_) (a':=?_) #[true,true,true,true,true,true,true,true,true,true,true,true,false,false,false,false] rfl rfl (take_ofW HT_.out HW_.out (by kernel_rfl)) (fun _ _ _ h => h) (Or.inl ⟨by rfl,?_⟩) hHeld ?_ ?_
                    rotate_left
                    · rintro w' ⟨s0,s1,s2,s3,s4,s5,s6,s7⟩
                      go_simp
                      with_reducible rfl
                    rotate_left
                    · simp only [Act.put,q1,q2,q3,i64_w,i32_w]
                      rfl
                    refine pure_ (i:=12) (N:=some 43) (v:=?_) (a':=?_) #[true,true,true,true,true,true,true,true,true,true,true,true,true,false,false,false] rfl rfl (any_of HT_.out (by kernel_rfl)) (fun _ _ _ h => h) (Or.inl ⟨by rfl,?_⟩) ?_ ?_
                    rotate_left
                    · intro w'
                      go_simp
                      with_reducible rfl
                    rotate_left
                    · simp only [Act.put,q1,q2,q3,i64_w,i32_w]
                      rfl
                    refine one_ (i:=13) (N:=some 44) #[true,true,true,true,true,true,true,true,true,true,true,true,true,true,false,false] rfl rfl (one_of HT_.out (by kernel_rfl)) (by decide) (fun K hK => ?_);refine goes_ Try.func43 (by kernel_rfl) rfl #[.int .i64 (wrap64 (((wrap64 (a1_2 * a0_2)) / 256) + a0_6)),.int .i64 0,.int .i64 255] (by rfl) rfl rfl (by (try simp only [List.map_toArray,List.map_cons,List.map_nil]);first|done|rfl|(simp only [List.length_drop,List.length_take];rfl)) ?_
                    with_reducible refine (affine_clamp.calls (wrap64 (((wrap64 (a1_2 * a0_2)) / 256) + a0_6)) 0 255 t344 _ A45.out).mono ?_
                    rintro e w47 ⟨rfl,hb⟩
                    refine ⟨_,rfl,?_⟩;replace BK336:=am (bw (by exact BK336.out) hb);replace BK337:=am (bw (by exact BK337.out) hb);replace BK338:=am (bw (by exact BK338.out) hb);replace BK341:=am (bw (by exact BK341.out) hb);replace HB:=am (ss (by repeat (first|(with_reducible first|exact HB.out|apply sa|apply sn|apply sd|refine sy ?_ (by assumption))|exact HB.out)) hb);(try clear hb);(try clear hb2);(try clear hk);(try clear hi);refine hK.out _ _ ⟨(bc BK336.out 0).trans rfl,(bc BK336.out 1).trans rfl,(bc BK336.out 2).trans rfl,(bc BK336.out 3).trans rfl,(bc BK336.out 4).trans rfl,(bc BK336.out 5).trans rfl,(bc BK336.out 6).trans rfl,(bc BK336.out 7).trans rfl⟩ (fun hHeld => ?_);clear hK K;refine norm_ (a':=?_) ?_ ?_
                    rotate_left
                    · show Act.put _ (some 44) _ = _
                      simp only [Act.put,q1,q2,q3,i64_w,i32_w]
                      rfl
                    refine pure_ (i:=14) (N:=some 45) (v:=?_) (a':=?_) #[true,true,true,true,true,true,true,true,true,true,true,true,true,true,true,false] rfl rfl (any_of HT_.out (by kernel_rfl)) (fun _ _ _ h => h) (Or.inl ⟨by rfl,?_⟩) ?_ ?_
                    rotate_left
                    · intro w'
                      go_simp
                      with_reducible rfl
                    rotate_left
                    · simp only [Act.put,q1,q2,q3,i64_w,i32_w]
                      rfl
                    refine one_ (i:=15) (N:=none) #[true,true,true,true,true,true,true,true,true,true,true,true,true,true,true,true] rfl rfl (one_of HT_.out (by kernel_rfl)) (by decide) (fun K hK => ?_);have hs48 : w47.cell? ⟨gb341,2,none⟩ = some (.int .i64 x342002_2):=(bc BK341.out 2).trans rfl;have hfs48:=bz BK341.out 2;have hns48_0:=NB336_341.out;have hns48_1:=NB337_341.out;have hns48_2:=NB338_341.out;have hms48_0:=NB341_336.out;have hms48_1:=NB341_337.out;have hms48_2:=NB341_338.out;refine skip_ (w1:=?_) (by rfl) rfl ?_ ?_
                    rotate_left
                    · go_simp
                      rfl
                    refine hK.out _ _ ⟨((cell_far (p:=⟨gb341,_,none⟩) NB336_341.out _).trans (hHeld.1)),((cell_far (p:=⟨gb341,_,none⟩) NB336_341.out _).trans (hHeld.2.1)),((cell_far (p:=⟨gb341,_,none⟩) NB336_341.out _).trans (hHeld.2.2.1)),((cell_far (p:=⟨gb341,_,none⟩) NB336_341.out _).trans (hHeld.2.2.2.1)),((cell_far (p:=⟨gb341,_,none⟩) NB336_341.out _).trans (hHeld.2.2.2.2.1)),((cell_far (p:=⟨gb341,_,none⟩) NB336_341.out _).trans (hHeld.2.2.2.2.2.1)),((cell_far (p:=⟨gb341,_,none⟩) NB336_341.out _).trans (hHeld.2.2.2.2.2.2.1)),((cell_far (p:=⟨gb341,_,none⟩) NB336_341.out _).trans (hHeld.2.2.2.2.2.2.2))⟩ (fun hHeld => ?_);clear hK K;refine done_ (done_of HT_.out (by kernel_rfl)) ?_
                    try go_wp2
                    go_roundg k2
                    case measure => have:=HJ2.out;have:=HK2.out;omega
                    case rel => exact ⟨(2 + 1),(x342000_2),(x342001_2),(t344),(x342003_2),(by first|rfl|(simp;done)|(simp [*];done)),H',⟨by have:=HJ2.out;have:=HK2.out;omega⟩,⟨by (with_reducible repeat (first|refine bn ?_ _|refine bd ?_|refine ba ?_ _|refine bf ?_ NB336_341.out _));exact BK336.out⟩,⟨by (with_reducible repeat (first|refine bn ?_ _|refine bd ?_|refine ba ?_ _|refine bf ?_ NB337_341.out _));exact BK337.out⟩,⟨by (with_reducible repeat (first|refine bn ?_ _|refine bd ?_|refine ba ?_ _|refine bf ?_ NB338_341.out _));exact BK338.out⟩,⟨by (with_reducible repeat (first|refine bn ?_ _|refine bd ?_|refine ba ?_ _));refine bp (cs:=#[.int .i64 x342000_2,.int .i64 x342001_2,.int .i64 x342002_2,.int .i64 x342003_2]) ?_ 2 _ rfl;(with_reducible repeat (first|refine bn ?_ _|refine bd ?_|refine ba ?_ _));exact BK341.out⟩,⟨by repeat (first|(with_reducible first|exact HB.out|apply sa|apply sn|apply sd|refine sy ?_ (by assumption))|exact HB.out)⟩⟩
                  · rw [if_neg c44] at H
                    by_cases c49 : x27_2 = 3
                    · subst c49
                      have H1 : ((affine_clamp.f (wrap64 (((wrap64 (a1_3 * a0_3)) / 256) + a0_7)) 0 255).bind fun t345 => (affine_Color.l0 k2 (3 + 1) a1_0 a1_1 a1_2 a1_3 a0_0 a0_1 a0_2 a0_3 a0_4 a0_5 a0_6 a0_7 x342000_2 x342001_2 x342002_2 t345)) = some (r1,r2,r3,r4):=by rw [if_pos rfl] at H;exact H
                      clear H;have H:=H1;clear H1;replace H:=Option.bind_eq_some_iff.mp H;obtain ⟨t345,A500,H⟩:=H;replace H : (affine_Color.l0 k2 (3 + 1) a1_0 a1_1 a1_2 a1_3 a0_0 a0_1 a0_2 a0_3 a0_4 a0_5 a0_6 a0_7 x342000_2 x342001_2 x342002_2 t345) = some (r1,r2,r3,r4):=H;have A50:=am A500;clear A500;have H':=am H;clear H
                      try go_wp2
                      replace BK336:=am (bd BK336.out);replace BK337:=am (bd BK337.out);replace BK338:=am (bd BK338.out);replace BK341:=am (bd BK341.out);replace HB:=am (sd HB.out);refine start_ (n:=16) (S:=fun w' => w'.cell? ⟨gb336,0,none⟩ = some (.int .i64 a0_0) ∧ w'.cell? ⟨gb336,1,none⟩ = some (.int .i64 a0_1) ∧ w'.cell? ⟨gb336,2,none⟩ = some (.int .i64 a0_2) ∧ w'.cell? ⟨gb336,3,none⟩ = some (.int .i64 a0_3) ∧ w'.cell? ⟨gb336,4,none⟩ = some (.int .i64 a0_4) ∧ w'.cell? ⟨gb336,5,none⟩ = some (.int .i64 a0_5) ∧ w'.cell? ⟨gb336,6,none⟩ = some (.int .i64 a0_6) ∧ w'.cell? ⟨gb336,7,none⟩ = some (.int .i64 a0_7)) (ds:=[]) #[false,false,false,false,false,false,false,false,false,false,false,false,false,false,false,false] (by kernel_rfl) rfl rfl ⟨(bc BK336.out 0).trans rfl,(bc BK336.out 1).trans rfl,(bc BK336.out 2).trans rfl,(bc BK336.out 3).trans rfl,(bc BK336.out 4).trans rfl,(bc BK336.out 5).trans rfl,(bc BK336.out 6).trans rfl,(bc BK336.out 7).trans rfl⟩ (fun hHeld => ?_);refine with_tabW affine_Color.tab7 affine_Color.bits7 (fun HT_ HW_ => ?_);generalize wr.drew = w51 at BK336 BK337 BK338 BK341 HB hHeld ⊢;refine pure_ (i:=0) (N:=some 31) (v:=?_) (a':=?_) #[true,false,false,false,false,false,false,false,false,false,false,false,false,false,false,false] rfl rfl (any_of HT_.out (by kernel_rfl)) (fun _ _ _ h => h) (Or.inl ⟨by rfl,?_⟩) ?_ ?_
                      rotate_left
                      · intro w'
                        go_simp
                        with_reducible rfl
                      rotate_left
                      · simp only [Act.put,q1,q2,q3,i64_w,i32_w]
                        rfl
                      refine pure_ (i:=1) (N:=some 32) (v:=?_) (a':=?_) #[true,true,false,false,false,false,false,false,false,false,false,false,false,false,false,false] rfl rfl (any_of HT_.out (by kernel_rfl)) (fun _ _ _ h => h) (Or.inl ⟨by rfl,?_⟩) ?_ ?_
                      rotate_left
                      · intro w'
                        go_simp
                        with_reducible rfl
                      rotate_left
                      · simp only [Act.put,q1,q2,q3,i64_w,i32_w]
                        rfl
                      refine pure_ (i:=2) (N:=some 33) (v:=?_) (a':=?_) #[true,true,true,false,false,false,false,false,false,false,false,false,false,false,false,false] rfl rfl (any_of HT_.out (by kernel_rfl)) (fun _ _ _ h => h) (Or.inl ⟨by rfl,?_⟩) ?_ ?_
                      rotate_left
                      · intro w'
                        go_simp
                        with_reducible rfl
                      rotate_left
                      · simp only [Act.put,q1,q2,q3,i64_w,i32_w]
                        rfl
                      refine pure_ (i:=3) (N:=some 34) (v:=?_) (a':=?_) #[true,true,true,true,false,false,false,false,false,false,false,false,false,false,false,false] rfl rfl (any_of HT_.out (by kernel_rfl)) (fun _ _ _ h => h) (Or.inl ⟨by rfl,?_⟩) ?_ ?_
                      rotate_left
                      · intro w'
                        go_simp
                        with_reducible rfl
                      rotate_left
                      · simp only [Act.put,q1,q2,q3,i64_w,i32_w]
                        rfl
                      refine pure_ (i:=4) (N:=some 35) (v:=?_) (a':=?_) #[true,true,true,true,true,false,false,false,false,false,false,false,false,false,false,false] rfl rfl (any_of HT_.out (by kernel_rfl)) (fun _ _ _ h => h) (Or.inl ⟨by rfl,?_⟩) ?_ ?_
                      rotate_left
                      · intro w'
                        go_simp
                        with_reducible rfl
                      rotate_left
                      · simp only [Act.put,q1,q2,q3,i64_w,i32_w]
                        rfl
                      refine pure_ (i:=8) (N:=some 39) (v:=?_) (a':=?_) #[true,true,true,true,true,false,false,false,true,false,false,false,false,false,false,false] rfl rfl (any_of HT_.out (by kernel_rfl)) (fun _ _ _ h => h) (Or.inl ⟨by rfl,?_⟩) ?_ ?_
                      rotate_left
                      · intro w'
                        go_simp
                        with_reducible rfl
                      rotate_left
                      · simp only [Act.put,q1,q2,q3,i64_w,i32_w]
                        rfl
                      refine pure_ (i:=9) (N:=some 40) (v:=?_) (a':=?_) #[true,true,true,true,true,false,false,false,true,true,false,false,false,false,false,false] rfl rfl (any_of HT_.out (by kernel_rfl)) (fun _ _ _ h => h) (Or.inl ⟨by rfl,?_⟩) ?_ ?_
                      rotate_left
                      · intro w'
                        go_simp
                        with_reducible rfl
                      rotate_left
                      · simp only [Act.put,q1,q2,q3,i64_w,i32_w]
                        rfl
                      refine pure_ (i:=10) (N:=some 41) (v:=?_) (a':=?_) #[true,true,true,true,true,false,false,false,true,true,true,false,false,false,false,false] rfl rfl (any_of HT_.out (by kernel_rfl)) (fun _ _ _ h => h) (Or.inl ⟨by rfl,?_⟩) ?_ ?_
                      rotate_left
                      · intro w'
                        go_simp
                        with_reducible rfl
                      rotate_left
                      · simp only [Act.put,q1,q2,q3,i64_w,i32_w]
                        rfl
                      refine take_ (i:=5) (N:=some 36) (v:=?_) (a':=?_) #[true,true,true,true,true,true,false,false,true,true,true,false,false,false,false,false] rfl rfl (take_ofW HT_.out HW_.out (by kernel_rfl)) (fun _ _ _ h => h) (Or.inl ⟨by rfl,?_⟩) hHeld ?_ ?_
                      rotate_left
                      · rintro w' ⟨s0,s1,s2,s3,s4,s5,s6,s7⟩
                        go_simp
                        with_reducible rfl
                      rotate_left
                      · simp only [Act.put,q1,q2,q3,i64_w,i32_w]
                        rfl
                      refine pure_ (i:=6) (N:=some 37) (v:=?_) (a':=?_) #[true,true,true,true,true,true,true,false,true,true,true,false,false,false,false,false] rfl rfl (any_of HT_.out (by kernel_rfl)) (fun _ _ _ h => h) (Or.inl ⟨by rfl,?_⟩) ?_ ?_
                      rotate_left
                      · intro w'
                        go_simp
                        with_reducible rfl
                      rotate_left
                      · simp only [Act.put,q1,q2,q3,i64_w,i32_w]
                        rfl
                      refine pure_ (i:=7) (N:=some 38) (v:=?_) (a':=?_) #[true,true,true,true,true,true,true,true,true,true,true,false,false,false,false,false] rfl rfl (any_of HT_.out (by kernel_rfl)) (fun _ _ _ h => h) (Or.inl ⟨by rfl,?_⟩) ?_ ?_
                      rotate_left
                      · intro w'
                        go_simp
                        with_reducible rfl
                      rotate_left
                      · simp only [Act.put,q1,q2,q3,i64_w,i32_w]
                        rfl
                      refine take_ (i:=11) (N:=some 42) (v:=?_) (a':=?_) #[true,true,true,true,true,true,true,true,true,true,true,true,false,false,false,false] rfl rfl (take_ofW HT_.out HW_.out (by kernel_rfl)) (fun _ _ _ h => h) (Or.inl ⟨by rfl,?_⟩) hHeld ?_ ?_
                      rotate_left
                      · rintro w' ⟨s0,s1,s2,s3,s4,s5,s6,s7⟩
                        go_simp
                        with_reducible rfl
                      rotate_left
                      · simp only [Act.put,q1,q2,q3,i64_w,i32_w]
                        rfl
                      refine pure_ (i:=12) (N:=some 43) (v:=?_) (a':=?_) #[true,true,true,true,true,true,true,true,true,true,true,true,true,false,false,false] rfl rfl (any_of HT_.out (by kernel_rfl)) (fun _ _ _ h => h) (Or.inl ⟨by rfl,?_⟩) ?_ ?_
                      rotate_left
                      · intro w'
                        go_simp
                        with_reducible rfl
                      rotate_left
                      · simp only [Act.put,q1,q2,q3,i64_w,i32_w]
                        rfl
                      refine one_ (i:=13) (N:=some 44) #[true,true,true,true,true,true,true,true,true,true,true,true,true,true,false,false] rfl rfl (one_of HT_.out (by kernel_rfl)) (by decide) (fun K hK => ?_);refine goes_ Try.func43 (by kernel_rfl) rfl #[.int .i64 (wrap64 (((wrap64 (a1_3 * a0_3)) / 256) + a0_7)),.int .i64 0,.int .i64 255] (by rfl) rfl rfl (by (try simp only [List.map_toArray,List.map_cons,List.map_nil]);first|done|rfl|(simp only [List.length_drop,List.length_take];rfl)) ?_
                      with_reducible refine (affine_clamp.calls (wrap64 (((wrap64 (a1_3 * a0_3)) / 256) + a0_7)) 0 255 t345 _ A50.out).mono ?_
                      rintro e w52 ⟨rfl,hb⟩
                      refine ⟨_,rfl,?_⟩;replace BK336:=am (bw (by exact BK336.out) hb);replace BK337:=am (bw (by exact BK337.out) hb);replace BK338:=am (bw (by exact BK338.out) hb);replace BK341:=am (bw (by exact BK341.out) hb);replace HB:=am (ss (by repeat (first|(with_reducible first|exact HB.out|apply sa|apply sn|apply sd|refine sy ?_ (by assumption))|exact HB.out)) hb);(try clear hb);(try clear hb2);(try clear hk);(try clear hi);refine hK.out _ _ ⟨(bc BK336.out 0).trans rfl,(bc BK336.out 1).trans rfl,(bc BK336.out 2).trans rfl,(bc BK336.out 3).trans rfl,(bc BK336.out 4).trans rfl,(bc BK336.out 5).trans rfl,(bc BK336.out 6).trans rfl,(bc BK336.out 7).trans rfl⟩ (fun hHeld => ?_);clear hK K;refine norm_ (a':=?_) ?_ ?_
                      rotate_left
                      · show Act.put _ (some 44) _ = _
                        simp only [Act.put,q1,q2,q3,i64_w,i32_w]
                        rfl
                      refine pure_ (i:=14) (N:=some 45) (v:=?_) (a':=?_) #[true,true,true,true,true,true,true,true,true,true,true,true,true,true,true,false] rfl rfl (any_of HT_.out (by kernel_rfl)) (fun _ _ _ h => h) (Or.inl ⟨by rfl,?_⟩) ?_ ?_
                      rotate_left
                      · intro w'
                        go_simp
                        with_reducible rfl
                      rotate_left
                      · simp only [Act.put,q1,q2,q3,i64_w,i32_w]
                        rfl
                      refine one_ (i:=15) (N:=none) #[true,true,true,true,true,true,true,true,true,true,true,true,true,true,true,true] rfl rfl (one_of HT_.out (by kernel_rfl)) (by decide) (fun K hK => ?_);have hs53 : w52.cell? ⟨gb341,3,none⟩ = some (.int .i64 x342003_2):=(bc BK341.out 3).trans rfl;have hfs53:=bz BK341.out 3;have hns53_0:=NB336_341.out;have hns53_1:=NB337_341.out;have hns53_2:=NB338_341.out;have hms53_0:=NB341_336.out;have hms53_1:=NB341_337.out;have hms53_2:=NB341_338.out;refine skip_ (w1:=?_) (by rfl) rfl ?_ ?_
                      rotate_left
                      · go_simp
                        rfl
                      refine hK.out _ _ ⟨((cell_far (p:=⟨gb341,_,none⟩) NB336_341.out _).trans (hHeld.1)),((cell_far (p:=⟨gb341,_,none⟩) NB336_341.out _).trans (hHeld.2.1)),((cell_far (p:=⟨gb341,_,none⟩) NB336_341.out _).trans (hHeld.2.2.1)),((cell_far (p:=⟨gb341,_,none⟩) NB336_341.out _).trans (hHeld.2.2.2.1)),((cell_far (p:=⟨gb341,_,none⟩) NB336_341.out _).trans (hHeld.2.2.2.2.1)),((cell_far (p:=⟨gb341,_,none⟩) NB336_341.out _).trans (hHeld.2.2.2.2.2.1)),((cell_far (p:=⟨gb341,_,none⟩) NB336_341.out _).trans (hHeld.2.2.2.2.2.2.1)),((cell_far (p:=⟨gb341,_,none⟩) NB336_341.out _).trans (hHeld.2.2.2.2.2.2.2))⟩ (fun hHeld => ?_);clear hK K;refine done_ (done_of HT_.out (by kernel_rfl)) ?_
                      try go_wp2
                      go_roundg k2
                      case measure => have:=HJ2.out;have:=HK2.out;omega
                      case rel => exact ⟨(3 + 1),(x342000_2),(x342001_2),(x342002_2),(t345),(by first|rfl|(simp;done)|(simp [*];done)),H',⟨by have:=HJ2.out;have:=HK2.out;omega⟩,⟨by (with_reducible repeat (first|refine bn ?_ _|refine bd ?_|refine ba ?_ _|refine bf ?_ NB336_341.out _));exact BK336.out⟩,⟨by (with_reducible repeat (first|refine bn ?_ _|refine bd ?_|refine ba ?_ _|refine bf ?_ NB337_341.out _));exact BK337.out⟩,⟨by (with_reducible repeat (first|refine bn ?_ _|refine bd ?_|refine ba ?_ _|refine bf ?_ NB338_341.out _));exact BK338.out⟩,⟨by (with_reducible repeat (first|refine bn ?_ _|refine bd ?_|refine ba ?_ _));refine bp (cs:=#[.int .i64 x342000_2,.int .i64 x342001_2,.int .i64 x342002_2,.int .i64 x342003_2]) ?_ 3 _ rfl;(with_reducible repeat (first|refine bn ?_ _|refine bd ?_|refine ba ?_ _));exact BK341.out⟩,⟨by repeat (first|(with_reducible first|exact HB.out|apply sa|apply sn|apply sd|refine sy ?_ (by assumption))|exact HB.out)⟩⟩
                    · rw [if_neg c49] at H
                      exact absurd H (by simp)
            · rw [if_neg c33] at H
              have c33b0 : decide (x27_2 < 4) = false:=decide_eq_false c33;clear c33;simp only [Option.some.injEq,Prod.mk.injEq] at H;obtain ⟨rfl,rfl,rfl,rfl⟩:=H;have hnb54:=NB341_336.out;have hnc54:=NB336_341.out;have hnb55:=NB341_337.out;have hnc55:=NB337_341.out;have hnb56:=NB341_338.out;have hnc56:=NB338_341.out;have hcz57_0 : wr.cell? ⟨gb341,0,none⟩ = some (.int .i64 x342000_2):=(bc BK341.out 0).trans rfl;have hcz57_1 : wr.cell? ⟨gb341,1,none⟩ = some (.int .i64 x342001_2):=(bc BK341.out 1).trans rfl;have hcz57_2 : wr.cell? ⟨gb341,2,none⟩ = some (.int .i64 x342002_2):=(bc BK341.out 2).trans rfl;have hcz57_3 : wr.cell? ⟨gb341,3,none⟩ = some (.int .i64 x342003_2):=(bc BK341.out 3).trans rfl;have hfz57_0:=bz BK341.out 0;have hfz57_1:=bz BK341.out 1;have hfz57_2:=bz BK341.out 2;have hfz57_3:=bz BK341.out 3;have hnb58:=NB338_336.out;have hnc58:=NB336_338.out;have hnb59:=NB338_337.out;have hnc59:=NB337_338.out;have hcz60_0 : wr.cell? ⟨gb338,0,none⟩ = some (.int .i64 0):=(bc BK338.out 0).trans rfl;have hcz60_1 : wr.cell? ⟨gb338,1,none⟩ = some (.int .i64 0):=(bc BK338.out 1).trans rfl;have hcz60_2 : wr.cell? ⟨gb338,2,none⟩ = some (.int .i64 0):=(bc BK338.out 2).trans rfl;have hcz60_3 : wr.cell? ⟨gb338,3,none⟩ = some (.int .i64 0):=(bc BK338.out 3).trans rfl;have hfz60_0:=bz BK338.out 0;have hfz60_1:=bz BK338.out 1;have hfz60_2:=bz BK338.out 2;have hfz60_3:=bz BK338.out 3
              go_wp2
              refine bodyPost_ret (results_cell_row rfl _ _ gb338 43 #[.int .i64 x342000_2,.int .i64 x342001_2,.int .i64 x342002_2,.int .i64 x342003_2] (0,0) _ rfl (by (with_reducible repeat (first|refine bn ?_ _|refine bd ?_|refine ba ?_ _));refine bp (cs:=#[.int .i64 x342000_2,.int .i64 x342001_2,.int .i64 x342002_2,.int .i64 0]) ?_ 3 _ rfl;(with_reducible repeat (first|refine bn ?_ _|refine bd ?_|refine ba ?_ _));refine bp (cs:=#[.int .i64 x342000_2,.int .i64 x342001_2,.int .i64 0,.int .i64 0]) ?_ 2 _ rfl;(with_reducible repeat (first|refine bn ?_ _|refine bd ?_|refine ba ?_ _));refine bp (cs:=#[.int .i64 x342000_2,.int .i64 0,.int .i64 0,.int .i64 0]) ?_ 1 _ rfl;(with_reducible repeat (first|refine bn ?_ _|refine bd ?_|refine ba ?_ _));refine bp (cs:=#[.int .i64 0,.int .i64 0,.int .i64 0,.int .i64 0]) ?_ 0 _ rfl;(with_reducible repeat (first|refine bn ?_ _|refine bd ?_|refine ba ?_ _));exact BK338.out) Try.underlying43 rfl (by kernel_rfl)) rfl ?_
              exact ⟨by first|rfl|(simp [errW_none,errW_some] <;> rfl)|(simp [*,errW_none,errW_some] <;> rfl),by repeat (first|(with_reducible first|exact HB.out|apply sa|apply sn|apply sd|refine sy ?_ (by assumption))|exact HB.out)⟩

end Go.Proofs.Ytaognlikgbcejaa.P
