/- Printed by printx.py (wip/tool) out of the translation: plain functions that tell what the program answers,and the proofs that the program comes to these answers,for all arguments of their kinds. Lean checks it. -/
import Derived.Test.YtnofihkmgedbfaaShort
import Derived.Test.YtnofihkmgedbfaaPx0
import Derived.Test.YtnofihkmgedbfaaPx1
import Derived.Test.YtnofihkmgedbfaaPx3
import Derived.Test.YtnofihkmgedbfaaPx7
namespace Go.Proofs.Ytnofihkmgedbfaa.P
open Go.RowKit Go.Proofs.YtnofihkmgedbfaaW.PrintWords Go.Proofs.YtnofihkmgedbfaaW.PrintLast Go.Proofs.YtnofihkmgedbfaaW.PrintMore
attribute [local go_sem] max2_int min2_int max_two min_two max_three min_three max_four min_four max_five min_five max_six min_six   -- for this text's walks alone
set_option linter.unusedVariables false
set_option linter.unusedSimpArgs false

/-! ### celluloidlaw18_StrokeShifts: function 9 -/
def celluloidlaw18_StrokeShifts.j0 : Nat → Int → Int → Bool → Int → Int → Int → Int → Int → Int → Int → Int → Int → Int → Int → Int → Int → Int → Option (Bool)
  | 0,_,_,_,_,_,_,_,_,_,_,_,_,_,_,_,_,_ => none
  | k + 1,x1,x2,x74,x368000,x368001,x368002,x368003,x368004,x368005,x369000,x369001,x370000,x370001,x370002,x370003,x370004,x370005 => if x74 = true then ((celluloidlaw18_awake.f k).bind fun t386 => (some t386)) else ((stroke_Near.f x368000 x368001 x368002 x368003 x368004 x368005 x1 x2).bind fun t387 => ((stroke_Near.f x370000 x370001 x370002 x370003 x370004 x370005 (wrap64 (x1 + x369000)) (wrap64 (x2 + x369001))).bind fun t388 => (if (t387 == t388) = true then ((celluloidlaw18_awake.f k).bind fun t389 => (some t389)) else (some false))))
def celluloidlaw18_StrokeShifts.f (k : Nat) (a0_0 : Int) (a0_1 : Int) (a0_2 : Int) (a0_3 : Int) (a0_4 : Int) (a0_5 : Int) (a1 : Int) (a2 : Int) (a3 : Int) (a4 : Int) : Option (Bool):=(celluloidlaw18_ref.f a0_0 a0_1 a0_2 a0_3 a0_4 a0_5).bind fun bt370 => ((celluloidref18_Right.f k bt370.1 bt370.2.1 bt370.2.2.1 bt370.2.2.2.1 bt370.2.2.2.2.1 bt370.2.2.2.2.2).bind fun t376 => (if t376 = true then ((celluloidlaw18_ref.f (wrap64 (a0_0 + (wrap64 (2 * (wrap64 (a3)))))) (wrap64 (a0_1 + (wrap64 (2 * (wrap64 (a4)))))) (wrap64 (a0_2 + (wrap64 (2 * (wrap64 (a3)))))) (wrap64 (a0_3 + (wrap64 (2 * (wrap64 (a4)))))) a0_4 a0_5).bind fun bt377 => ((celluloidref18_Right.f k bt377.1 bt377.2.1 bt377.2.2.1 bt377.2.2.2.1 bt377.2.2.2.2.1 bt377.2.2.2.2.2).bind fun t383 => (if t383 = true then ((celluloidlaw18_far.f a1 a2).bind fun t384 => (if t384 = true then (celluloidlaw18_StrokeShifts.j0 k a1 a2 true a0_0 a0_1 a0_2 a0_3 a0_4 a0_5 (wrap64 (2 * (wrap64 (a3)))) (wrap64 (2 * (wrap64 (a4)))) (wrap64 (a0_0 + (wrap64 (2 * (wrap64 (a3)))))) (wrap64 (a0_1 + (wrap64 (2 * (wrap64 (a4)))))) (wrap64 (a0_2 + (wrap64 (2 * (wrap64 (a3)))))) (wrap64 (a0_3 + (wrap64 (2 * (wrap64 (a4)))))) a0_4 a0_5) else ((celluloidlaw18_far.f (wrap64 (a1 + (wrap64 (2 * (wrap64 (a3)))))) (wrap64 (a2 + (wrap64 (2 * (wrap64 (a4))))))).bind fun t385 => (celluloidlaw18_StrokeShifts.j0 k a1 a2 t385 a0_0 a0_1 a0_2 a0_3 a0_4 a0_5 (wrap64 (2 * (wrap64 (a3)))) (wrap64 (2 * (wrap64 (a4)))) (wrap64 (a0_0 + (wrap64 (2 * (wrap64 (a3)))))) (wrap64 (a0_1 + (wrap64 (2 * (wrap64 (a4)))))) (wrap64 (a0_2 + (wrap64 (2 * (wrap64 (a3)))))) (wrap64 (a0_3 + (wrap64 (2 * (wrap64 (a4)))))) a0_4 a0_5)))) else (celluloidlaw18_StrokeShifts.j0 k a1 a2 true a0_0 a0_1 a0_2 a0_3 a0_4 a0_5 (wrap64 (2 * (wrap64 (a3)))) (wrap64 (2 * (wrap64 (a4)))) (wrap64 (a0_0 + (wrap64 (2 * (wrap64 (a3)))))) (wrap64 (a0_1 + (wrap64 (2 * (wrap64 (a4)))))) (wrap64 (a0_2 + (wrap64 (2 * (wrap64 (a3)))))) (wrap64 (a0_3 + (wrap64 (2 * (wrap64 (a4)))))) a0_4 a0_5)))) else (celluloidlaw18_StrokeShifts.j0 k a1 a2 true a0_0 a0_1 a0_2 a0_3 a0_4 a0_5 (wrap64 (2 * (wrap64 (a3)))) (wrap64 (2 * (wrap64 (a4)))) (wrap64 (a0_0 + (wrap64 (2 * (wrap64 (a3)))))) (wrap64 (a0_1 + (wrap64 (2 * (wrap64 (a4)))))) (wrap64 (a0_2 + (wrap64 (2 * (wrap64 (a3)))))) (wrap64 (a0_3 + (wrap64 (2 * (wrap64 (a4)))))) a0_4 a0_5)))
theorem celluloidlaw18_StrokeShifts.mono_l : ∀ k,(∀ y0 y1 y2 y3 y4 y5 y6 y7 y8 y9 y10 y11 y12 y13 y14 y15 y16,LeO (celluloidlaw18_StrokeShifts.j0 k y0 y1 y2 y3 y4 y5 y6 y7 y8 y9 y10 y11 y12 y13 y14 y15 y16) (celluloidlaw18_StrokeShifts.j0 (k + 1) y0 y1 y2 y3 y4 y5 y6 y7 y8 y9 y10 y11 y12 y13 y14 y15 y16))
  | 0 => fun _ _ _ _ _ _ _ _ _ _ _ _ _ _ _ _ _ r h => by simp [celluloidlaw18_StrokeShifts.j0] at h
  | k + 1 => by
    have ih0:=celluloidlaw18_StrokeShifts.mono_l k
    · intro y0 y1 y2 y3 y4 y5 y6 y7 y8 y9 y10 y11 y12 y13 y14 y15 y16
      unfold celluloidlaw18_StrokeShifts.j0
      repeat' first
      | (with_reducible exact ih0 _ _ _ _ _ _ _ _ _ _ _ _ _ _ _ _ _)
      | (with_reducible exact celluloidlaw18_awake.mono _)
      | (with_reducible exact celluloidref18_Right.mono _ _ _ _ _ _ _)
      | (with_reducible exact LeO.refl _)
      | (with_reducible exact LeO.none _)
      | (with_reducible refine LeO.ite ?_ ?_)
      | (with_reducible refine LeO.bind ?_ (fun _ => ?_))
      | exact ih0 _ _ _ _ _ _ _ _ _ _ _ _ _ _ _ _ _
      | exact celluloidlaw18_awake.mono _
      | exact celluloidref18_Right.mono _ _ _ _ _ _ _
      | exact LeO.none _
      | refine LeO.ite ?_ ?_
      | refine LeO.bind ?_ (fun _ => ?_)
theorem celluloidlaw18_StrokeShifts.mono : ∀ a0 a1 a2 a3 a4 a5 a6 a7 a8 a9 k,LeO (celluloidlaw18_StrokeShifts.f k a0 a1 a2 a3 a4 a5 a6 a7 a8 a9) (celluloidlaw18_StrokeShifts.f (k + 1) a0 a1 a2 a3 a4 a5 a6 a7 a8 a9):=by
  intro a0 a1 a2 a3 a4 a5 a6 a7 a8 a9 k
  have ih0:=celluloidlaw18_StrokeShifts.mono_l k
  unfold celluloidlaw18_StrokeShifts.f
  repeat' first
      | (with_reducible exact ih0 _ _ _ _ _ _ _ _ _ _ _ _ _ _ _ _ _)
      | (with_reducible exact celluloidlaw18_awake.mono _)
      | (with_reducible exact celluloidref18_Right.mono _ _ _ _ _ _ _)
      | (with_reducible exact LeO.refl _)
      | (with_reducible exact LeO.none _)
      | (with_reducible refine LeO.ite ?_ ?_)
      | (with_reducible refine LeO.bind ?_ (fun _ => ?_))
      | exact ih0 _ _ _ _ _ _ _ _ _ _ _ _ _ _ _ _ _
      | exact celluloidlaw18_awake.mono _
      | exact celluloidref18_Right.mono _ _ _ _ _ _ _
      | exact LeO.none _
      | refine LeO.ite ?_ ?_
      | refine LeO.bind ?_ (fun _ => ?_)
def celluloidlaw18_StrokeShifts.T3 : Bool × List (List Nat × List Nat):=(true,[([],[]),([0],[0]),([1],[1]),([],[]),([3],[3]),([2,4],[2,4]),([],[]),([6],[6]),([7],[7]),([],[]),([9],[9]),([8,10],[8,10]),([5,11],[5,11]),([],[]),([13],[13]),([14],[14]),([],[]),([16],[16]),([15,17],[15,17]),([],[]),([19],[19]),([20],[20]),([],[]),([22],[22]),([21,23],[21,23]),([18,24],[18,24]),([0,1,2,3,4,5,6,7,8,9,10,11,12],[]),([26,12,0,1,2,3,4,5,6,7,8,9,10,11,12],[12,26]),([0,1,2,3,4,5,6,7,8,9,10,11,12,13,14,15,16,17,18,19,20,21,22,23,24,25,26,27],[]),([28,25,27,0,1,2,3,4,5,6,7,8,9,10,11,12,13,14,15,16,17,18,19,20,21,22,23,24,25,26,27],[25,28])])
def celluloidlaw18_StrokeShifts.B3 : List Nat:=[0,1,3,0,8,31,0,64,192,0,512,1984,4095,0,8192,24576,0,65536,253952,0,524288,1572864,0,4194304,16252928,33546240,8191,67117055,268435455,536870911]
theorem celluloidlaw18_StrokeShifts.tab3 : rtab .any (opsOf Try.f9 3) = celluloidlaw18_StrokeShifts.T3:=by kernel_rfl
theorem celluloidlaw18_StrokeShifts.bits3 : waitsOk celluloidlaw18_StrokeShifts.T3.2 celluloidlaw18_StrokeShifts.B3 = true:=by kernel_rfl
def celluloidlaw18_StrokeShifts.T6 : Bool × List (List Nat × List Nat):=(true,[([],[]),([],[]),([],[]),([0,1,2],[0,1,2]),([],[]),([],[]),([],[]),([6],[6]),([5,7],[5,7]),([],[]),([],[]),([10],[10]),([9,11],[9,11]),([4,8,12,3],[4,8,12]),([3,13],[3,13]),([14,13],[14]),([15,15],[15]),([15,16],[15,16]),([17,16,0,1,2,3,4,5,6,7,8,9,10,11,12,13,14,15,16,17],[17])])
def celluloidlaw18_StrokeShifts.B6 : List Nat:=[0,0,0,7,0,0,0,64,224,0,0,1024,3584,8191,16383,32767,65535,131071,262143]
theorem celluloidlaw18_StrokeShifts.tab6 : rtab .any (opsOf Try.f9 6) = celluloidlaw18_StrokeShifts.T6:=by kernel_rfl
theorem celluloidlaw18_StrokeShifts.bits6 : waitsOk celluloidlaw18_StrokeShifts.T6.2 celluloidlaw18_StrokeShifts.B6 = true:=by kernel_rfl
set_option maxHeartbeats 8000000 in
set_option maxRecDepth 100000 in
theorem celluloidlaw18_StrokeShifts.calls (k : Nat) (a0_0 : Int) (a0_1 : Int) (a0_2 : Int) (a0_3 : Int) (a0_4 : Int) (a0_5 : Int) (a1 : Int) (a2 : Int) (a3 : Int) (a4 : Int) (r : Bool) (w : World) (h : celluloidlaw18_StrokeShifts.f k a0_0 a0_1 a0_2 a0_3 a0_4 a0_5 a1 a2 a3 a4 = some r) :
    Calls Try.prog 9 #[.agg #[.int .i64 a0_0,.int .i64 a0_1,.int .i64 a0_2,.int .i64 a0_3,.int .i64 a0_4,.int .i64 a0_5],.int .i64 a1,.int .i64 a2,.int .i16 a3,.int .i16 a4] w fun e w' => e = .returned (.bool r) ∧ Below w.heap.size w w':=by
  have hu25:=Try.underlying25;have hu23:=Try.underlying23;have HB:=am (Below.refl w.heap.size w);have H : ((celluloidlaw18_ref.f a0_0 a0_1 a0_2 a0_3 a0_4 a0_5).bind fun bt370 => ((celluloidref18_Right.f k bt370.1 bt370.2.1 bt370.2.2.1 bt370.2.2.2.1 bt370.2.2.2.2.1 bt370.2.2.2.2.2).bind fun t376 => (if t376 = true then ((celluloidlaw18_ref.f (wrap64 (a0_0 + (wrap64 (2 * (wrap64 (a3)))))) (wrap64 (a0_1 + (wrap64 (2 * (wrap64 (a4)))))) (wrap64 (a0_2 + (wrap64 (2 * (wrap64 (a3)))))) (wrap64 (a0_3 + (wrap64 (2 * (wrap64 (a4)))))) a0_4 a0_5).bind fun bt377 => ((celluloidref18_Right.f k bt377.1 bt377.2.1 bt377.2.2.1 bt377.2.2.2.1 bt377.2.2.2.2.1 bt377.2.2.2.2.2).bind fun t383 => (if t383 = true then ((celluloidlaw18_far.f a1 a2).bind fun t384 => (if t384 = true then (celluloidlaw18_StrokeShifts.j0 k a1 a2 true a0_0 a0_1 a0_2 a0_3 a0_4 a0_5 (wrap64 (2 * (wrap64 (a3)))) (wrap64 (2 * (wrap64 (a4)))) (wrap64 (a0_0 + (wrap64 (2 * (wrap64 (a3)))))) (wrap64 (a0_1 + (wrap64 (2 * (wrap64 (a4)))))) (wrap64 (a0_2 + (wrap64 (2 * (wrap64 (a3)))))) (wrap64 (a0_3 + (wrap64 (2 * (wrap64 (a4)))))) a0_4 a0_5) else ((celluloidlaw18_far.f (wrap64 (a1 + (wrap64 (2 * (wrap64 (a3)))))) (wrap64 (a2 + (wrap64 (2 * (wrap64 (a4))))))).bind fun t385 => (celluloidlaw18_StrokeShifts.j0 k a1 a2 t385 a0_0 a0_1 a0_2 a0_3 a0_4 a0_5 (wrap64 (2 * (wrap64 (a3)))) (wrap64 (2 * (wrap64 (a4)))) (wrap64 (a0_0 + (wrap64 (2 * (wrap64 (a3)))))) (wrap64 (a0_1 + (wrap64 (2 * (wrap64 (a4)))))) (wrap64 (a0_2 + (wrap64 (2 * (wrap64 (a3)))))) (wrap64 (a0_3 + (wrap64 (2 * (wrap64 (a4)))))) a0_4 a0_5)))) else (celluloidlaw18_StrokeShifts.j0 k a1 a2 true a0_0 a0_1 a0_2 a0_3 a0_4 a0_5 (wrap64 (2 * (wrap64 (a3)))) (wrap64 (2 * (wrap64 (a4)))) (wrap64 (a0_0 + (wrap64 (2 * (wrap64 (a3)))))) (wrap64 (a0_1 + (wrap64 (2 * (wrap64 (a4)))))) (wrap64 (a0_2 + (wrap64 (2 * (wrap64 (a3)))))) (wrap64 (a0_3 + (wrap64 (2 * (wrap64 (a4)))))) a0_4 a0_5)))) else (celluloidlaw18_StrokeShifts.j0 k a1 a2 true a0_0 a0_1 a0_2 a0_3 a0_4 a0_5 (wrap64 (2 * (wrap64 (a3)))) (wrap64 (2 * (wrap64 (a4)))) (wrap64 (a0_0 + (wrap64 (2 * (wrap64 (a3)))))) (wrap64 (a0_1 + (wrap64 (2 * (wrap64 (a4)))))) (wrap64 (a0_2 + (wrap64 (2 * (wrap64 (a3)))))) (wrap64 (a0_3 + (wrap64 (2 * (wrap64 (a4)))))) a0_4 a0_5)))) = some r:=h;clear h;have HC6:=am H;clear H
  go_enter Try.func9,Try.ntmps9
  try go_wp2_with (first|((with_reducible refine gate_dst (N:=5) rfl ?_);refine box_event ?hg (N:=5) ?hd (cs:=#[.int .i64 a0_0,.int .i64 a0_1,.int .i64 a0_2,.int .i64 a0_3,.int .i64 a0_4,.int .i64 a0_5]) (t:=25) ?hr ?_;(case hd => rfl);(case hg => rfl);(case hr => first|(go_simp;done)|(go_simp;rfl));intro gb367 hg w7 hbox hb;have BK367:=am (hbox);have GW367:=am ((by rw [hg];exact (sz (by repeat (first|(with_reducible first|exact HB.out|apply sa|apply sn|apply sd)|exact HB.out))) : w.heap.size ≤ gb367));have GE367:=am ((by rw [hg];exact (sz (by repeat (first|(with_reducible first|exact HB.out|apply sa|apply sn|apply sd)|exact HB.out))) : w.heap.size ≤ gb367));replace HB:=am (ss (by repeat (first|(with_reducible first|exact HB.out|apply sa|apply sn|apply sd)|exact HB.out)) hb);clear hb hbox hg)|((with_reducible refine gate_dst (N:=11) rfl ?_);refine box_event ?hg (N:=11) ?hd (cs:=#[.int .i64 0,.int .i64 0]) (t:=23) ?hr ?_;(case hd => rfl);(case hg => rfl);(case hr => first|(go_simp;done)|(go_simp;rfl));intro gb368 hg w8 hbox hb;have BK368:=am (hbox);obtain ⟨h1_,GW368⟩:=sg (by repeat (first|(with_reducible first|exact HB.out|apply sa|apply sn|apply sd|refine sx ?_ GE367.out)|exact HB.out)) hb hg;replace HB:=h1_;clear h1_;have GE368:=GW368;have NB367_368:=nb (by exact BK367.out) hg;have NB368_367:=ng (by exact BK367.out) hg;replace BK367:=am (bw (by exact BK367.out) hb);clear hb hbox hg;have hnb9:=NB368_367.out;have hnc9:=NB367_368.out;obtain ⟨hcz10_0,hcz10_1⟩:=cq2 BK368.out;obtain ⟨hfz10_0,hfz10_1⟩:=fq2 BK368.out;obtain ⟨hcz11_0,hcz11_1,hcz11_2,hcz11_3,hcz11_4,hcz11_5⟩:=cq6 BK367.out;obtain ⟨hfz11_0,hfz11_1,hfz11_2,hfz11_3,hfz11_4,hfz11_5⟩:=fq6 BK367.out)|((with_reducible refine gate_dst (N:=12) rfl ?_);refine box_event ?hg (N:=12) ?hd (cs:=#[.int .i64 0,.int .i64 0,.int .i64 0,.int .i64 0,.int .i64 0,.int .i64 0]) (t:=25) ?hr ?_;(case hd => rfl);(case hg => rfl);(case hr => first|(go_simp;done)|(go_simp;rfl));intro gb369 hg w12 hbox hb;have BK369:=am (hbox);obtain ⟨h1_,GW369⟩:=sg (by repeat (first|(with_reducible first|exact HB.out|apply sa|apply sn|apply sd|refine sy ?_ (by assumption))|exact HB.out)) hb hg;replace HB:=h1_;clear h1_;have GE369:=GW369;have NB367_369:=am (by have:=blk_lt BK367.out;rw [hg];(try simp only [ks,kd,ke,ka]);omega : gb367 ≠ gb369);have NB369_367:=am (by have:=blk_lt BK367.out;rw [hg];(try simp only [ks,kd,ke,ka]);omega : gb369 ≠ gb367);replace BK367:=am (wz BK367.out (by (with_reducible repeat (first|refine bn ?_ _|refine bd ?_|refine ba ?_ _|refine bf ?_ NB367_368.out _));exact BK367.out) hb);have NB368_369:=am (by have:=blk_lt BK368.out;rw [hg];(try simp only [ks,kd,ke,ka]);omega : gb368 ≠ gb369);have NB369_368:=am (by have:=blk_lt BK368.out;rw [hg];(try simp only [ks,kd,ke,ka]);omega : gb369 ≠ gb368);replace BK368:=am (bw (g:=gb368) (o:=.cells #[.int .i64 (wrap64 (2 * (wrap64 (a3)))),.int .i64 (wrap64 (2 * (wrap64 (a4))))] 23 (0,0)) (bp (bp BK368.out 0 _ rfl) 1 _ rfl) hb);clear hb hbox hg;have hnb13:=NB369_367.out;have hnc13:=NB367_369.out;have hnb14:=NB369_368.out;have hnc14:=NB368_369.out;obtain ⟨hcz15_0,hcz15_1,hcz15_2,hcz15_3,hcz15_4,hcz15_5⟩:=cq6 BK369.out;obtain ⟨hfz15_0,hfz15_1,hfz15_2,hfz15_3,hfz15_4,hfz15_5⟩:=fq6 BK369.out))
  have n0_ : Aside0 (((((((w12.setCell ⟨gb369,0,none⟩ (.int .i64 a0_0)).setCell ⟨gb369,1,none⟩ (.int .i64 a0_1)).setCell ⟨gb369,2,none⟩ (.int .i64 a0_2)).setCell ⟨gb369,3,none⟩ (.int .i64 a0_3)).setCell ⟨gb369,4,none⟩ (.int .i64 a0_4)).setCell ⟨gb369,5,none⟩ (.int .i64 a0_5)).heap[gb367]? = some (.cells #[.int .i64 a0_0,.int .i64 a0_1,.int .i64 a0_2,.int .i64 a0_3,.int .i64 a0_4,.int .i64 a0_5] 25 (0,0))):=⟨by (with_reducible repeat (first|refine bn ?_ _|refine bd ?_|refine ba ?_ _|refine bf ?_ NB367_369.out _));exact BK367.out⟩;have n1_ : Aside0 (((((((w12.setCell ⟨gb369,0,none⟩ (.int .i64 a0_0)).setCell ⟨gb369,1,none⟩ (.int .i64 a0_1)).setCell ⟨gb369,2,none⟩ (.int .i64 a0_2)).setCell ⟨gb369,3,none⟩ (.int .i64 a0_3)).setCell ⟨gb369,4,none⟩ (.int .i64 a0_4)).setCell ⟨gb369,5,none⟩ (.int .i64 a0_5)).heap[gb368]? = some (.cells #[.int .i64 (wrap64 (2 * (wrap64 (a3)))),.int .i64 (wrap64 (2 * (wrap64 (a4))))] 23 (0,0))):=⟨by (with_reducible repeat (first|refine bn ?_ _|refine bd ?_|refine ba ?_ _|refine bf ?_ NB368_369.out _));exact BK368.out⟩;have n2_ : Aside0 (((((((w12.setCell ⟨gb369,0,none⟩ (.int .i64 a0_0)).setCell ⟨gb369,1,none⟩ (.int .i64 a0_1)).setCell ⟨gb369,2,none⟩ (.int .i64 a0_2)).setCell ⟨gb369,3,none⟩ (.int .i64 a0_3)).setCell ⟨gb369,4,none⟩ (.int .i64 a0_4)).setCell ⟨gb369,5,none⟩ (.int .i64 a0_5)).heap[gb369]? = some (.cells #[.int .i64 a0_0,.int .i64 a0_1,.int .i64 a0_2,.int .i64 a0_3,.int .i64 a0_4,.int .i64 a0_5] 25 (0,0))):=⟨(bp6 BK369.out)⟩;have n3_ : Aside0 (Below w.heap.size w ((((((w12.setCell ⟨gb369,0,none⟩ (.int .i64 a0_0)).setCell ⟨gb369,1,none⟩ (.int .i64 a0_1)).setCell ⟨gb369,2,none⟩ (.int .i64 a0_2)).setCell ⟨gb369,3,none⟩ (.int .i64 a0_3)).setCell ⟨gb369,4,none⟩ (.int .i64 a0_4)).setCell ⟨gb369,5,none⟩ (.int .i64 a0_5))):=⟨by repeat (first|(with_reducible first|exact HB.out|apply sa|apply sn|apply sd|refine sy ?_ (by assumption))|exact HB.out)⟩;(try clear BK367);(try clear BK368);(try clear BK369);(try clear HB);generalize ((((((w12.setCell ⟨gb369,0,none⟩ (.int .i64 a0_0)).setCell ⟨gb369,1,none⟩ (.int .i64 a0_1)).setCell ⟨gb369,2,none⟩ (.int .i64 a0_2)).setCell ⟨gb369,3,none⟩ (.int .i64 a0_3)).setCell ⟨gb369,4,none⟩ (.int .i64 a0_4)).setCell ⟨gb369,5,none⟩ (.int .i64 a0_5)) = w16 at n0_ n1_ n2_ n3_ ⊢;have BK367:=n0_;have BK368:=n1_;have BK369:=n2_;have HB:=n3_;clear n0_ n1_ n2_ n3_;replace BK367:=am (bd BK367.out);replace BK368:=am (bd BK368.out);replace BK369:=am (bd BK369.out);replace HB:=am (sd HB.out);refine start_ (n:=30) (S:=fun w' => w'.cell? ⟨gb367,0,none⟩ = some (.int .i64 a0_0) ∧ w'.cell? ⟨gb367,1,none⟩ = some (.int .i64 a0_1) ∧ w'.cell? ⟨gb367,2,none⟩ = some (.int .i64 a0_2) ∧ w'.cell? ⟨gb367,3,none⟩ = some (.int .i64 a0_3) ∧ w'.cell? ⟨gb367,4,none⟩ = some (.int .i64 a0_4) ∧ w'.cell? ⟨gb367,5,none⟩ = some (.int .i64 a0_5) ∧ w'.cell? ⟨gb368,0,none⟩ = some (.int .i64 (wrap64 (2 * (wrap64 (a3))))) ∧ w'.cell? ⟨gb368,1,none⟩ = some (.int .i64 (wrap64 (2 * (wrap64 (a4)))))) (ds:=[]) #[false,false,false,false,false,false,false,false,false,false,false,false,false,false,false,false,false,false,false,false,false,false,false,false,false,false,false,false,false,false] (by kernel_rfl) rfl rfl ⟨(bc BK367.out 0).trans rfl,(bc BK367.out 1).trans rfl,(bc BK367.out 2).trans rfl,(bc BK367.out 3).trans rfl,(bc BK367.out 4).trans rfl,(bc BK367.out 5).trans rfl,(bc BK368.out 0).trans rfl,(bc BK368.out 1).trans rfl⟩ (fun hHeld => ?_);refine with_tabW celluloidlaw18_StrokeShifts.tab3 celluloidlaw18_StrokeShifts.bits3 (fun HT_ HW_ => ?_);generalize w16.drew = w17 at BK367 BK368 BK369 HB hHeld ⊢;refine pure_ (i:=0) (N:=some 21) (v:=?_) (a':=?_) #[true,false,false,false,false,false,false,false,false,false,false,false,false,false,false,false,false,false,false,false,false,false,false,false,false,false,false,false,false,false] rfl rfl (any_of HT_.out (by kernel_rfl)) (fun _ _ _ h => h) (Or.inl ⟨by rfl,?_⟩) ?_ ?_
  rotate_left
  · intro w'
    go_simp
    with_reducible rfl
  rotate_left
  · simp only [Act.put,q1,q2,q3,i64_w,i32_w]
    rfl
  refine pure_ (i:=1) (N:=some 22) (v:=?_) (a':=?_) #[true,true,false,false,false,false,false,false,false,false,false,false,false,false,false,false,false,false,false,false,false,false,false,false,false,false,false,false,false,false] rfl rfl (any_of HT_.out (by kernel_rfl)) (fun _ _ _ h => h) (Or.inl ⟨by rfl,?_⟩) ?_ ?_
  rotate_left
  · intro w'
    go_simp
    with_reducible rfl
  rotate_left
  · simp only [Act.put,q1,q2,q3,i64_w,i32_w]
    rfl
  refine pure_ (i:=3) (N:=some 24) (v:=?_) (a':=?_) #[true,true,false,true,false,false,false,false,false,false,false,false,false,false,false,false,false,false,false,false,false,false,false,false,false,false,false,false,false,false] rfl rfl (any_of HT_.out (by kernel_rfl)) (fun _ _ _ h => h) (Or.inl ⟨by rfl,?_⟩) ?_ ?_
  rotate_left
  · intro w'
    go_simp
    with_reducible rfl
  rotate_left
  · simp only [Act.put,q1,q2,q3,i64_w,i32_w]
    rfl
  refine pure_ (i:=6) (N:=some 27) (v:=?_) (a':=?_) #[true,true,false,true,false,false,true,false,false,false,false,false,false,false,false,false,false,false,false,false,false,false,false,false,false,false,false,false,false,false] rfl rfl (any_of HT_.out (by kernel_rfl)) (fun _ _ _ h => h) (Or.inl ⟨by rfl,?_⟩) ?_ ?_
  rotate_left
  · intro w'
    go_simp
    with_reducible rfl
  rotate_left
  · simp only [Act.put,q1,q2,q3,i64_w,i32_w]
    rfl
  refine pure_ (i:=7) (N:=some 28) (v:=?_) (a':=?_) #[true,true,false,true,false,false,true,true,false,false,false,false,false,false,false,false,false,false,false,false,false,false,false,false,false,false,false,false,false,false] rfl rfl (any_of HT_.out (by kernel_rfl)) (fun _ _ _ h => h) (Or.inl ⟨by rfl,?_⟩) ?_ ?_
  rotate_left
  · intro w'
    go_simp
    with_reducible rfl
  rotate_left
  · simp only [Act.put,q1,q2,q3,i64_w,i32_w]
    rfl
  refine pure_ (i:=9) (N:=some 30) (v:=?_) (a':=?_) #[true,true,false,true,false,false,true,true,false,true,false,false,false,false,false,false,false,false,false,false,false,false,false,false,false,false,false,false,false,false] rfl rfl (any_of HT_.out (by kernel_rfl)) (fun _ _ _ h => h) (Or.inl ⟨by rfl,?_⟩) ?_ ?_
  rotate_left
  · intro w'
    go_simp
    with_reducible rfl
  rotate_left
  · simp only [Act.put,q1,q2,q3,i64_w,i32_w]
    rfl
  refine pure_ (i:=13) (N:=some 34) (v:=?_) (a':=?_) #[true,true,false,true,false,false,true,true,false,true,false,false,false,true,false,false,false,false,false,false,false,false,false,false,false,false,false,false,false,false] rfl rfl (any_of HT_.out (by kernel_rfl)) (fun _ _ _ h => h) (Or.inl ⟨by rfl,?_⟩) ?_ ?_
  rotate_left
  · intro w'
    go_simp
    with_reducible rfl
  rotate_left
  · simp only [Act.put,q1,q2,q3,i64_w,i32_w]
    rfl
  refine pure_ (i:=14) (N:=some 35) (v:=?_) (a':=?_) #[true,true,false,true,false,false,true,true,false,true,false,false,false,true,true,false,false,false,false,false,false,false,false,false,false,false,false,false,false,false] rfl rfl (any_of HT_.out (by kernel_rfl)) (fun _ _ _ h => h) (Or.inl ⟨by rfl,?_⟩) ?_ ?_
  rotate_left
  · intro w'
    go_simp
    with_reducible rfl
  rotate_left
  · simp only [Act.put,q1,q2,q3,i64_w,i32_w]
    rfl
  refine pure_ (i:=16) (N:=some 37) (v:=?_) (a':=?_) #[true,true,false,true,false,false,true,true,false,true,false,false,false,true,true,false,true,false,false,false,false,false,false,false,false,false,false,false,false,false] rfl rfl (any_of HT_.out (by kernel_rfl)) (fun _ _ _ h => h) (Or.inl ⟨by rfl,?_⟩) ?_ ?_
  rotate_left
  · intro w'
    go_simp
    with_reducible rfl
  rotate_left
  · simp only [Act.put,q1,q2,q3,i64_w,i32_w]
    rfl
  refine pure_ (i:=19) (N:=some 40) (v:=?_) (a':=?_) #[true,true,false,true,false,false,true,true,false,true,false,false,false,true,true,false,true,false,false,true,false,false,false,false,false,false,false,false,false,false] rfl rfl (any_of HT_.out (by kernel_rfl)) (fun _ _ _ h => h) (Or.inl ⟨by rfl,?_⟩) ?_ ?_
  rotate_left
  · intro w'
    go_simp
    with_reducible rfl
  rotate_left
  · simp only [Act.put,q1,q2,q3,i64_w,i32_w]
    rfl
  refine pure_ (i:=20) (N:=some 41) (v:=?_) (a':=?_) #[true,true,false,true,false,false,true,true,false,true,false,false,false,true,true,false,true,false,false,true,true,false,false,false,false,false,false,false,false,false] rfl rfl (any_of HT_.out (by kernel_rfl)) (fun _ _ _ h => h) (Or.inl ⟨by rfl,?_⟩) ?_ ?_
  rotate_left
  · intro w'
    go_simp
    with_reducible rfl
  rotate_left
  · simp only [Act.put,q1,q2,q3,i64_w,i32_w]
    rfl
  refine pure_ (i:=22) (N:=some 43) (v:=?_) (a':=?_) #[true,true,false,true,false,false,true,true,false,true,false,false,false,true,true,false,true,false,false,true,true,false,true,false,false,false,false,false,false,false] rfl rfl (any_of HT_.out (by kernel_rfl)) (fun _ _ _ h => h) (Or.inl ⟨by rfl,?_⟩) ?_ ?_
  rotate_left
  · intro w'
    go_simp
    with_reducible rfl
  rotate_left
  · simp only [Act.put,q1,q2,q3,i64_w,i32_w]
    rfl
  refine take_ (i:=2) (N:=some 23) (v:=?_) (a':=?_) #[true,true,true,true,false,false,true,true,false,true,false,false,false,true,true,false,true,false,false,true,true,false,true,false,false,false,false,false,false,false] rfl rfl (take_ofW HT_.out HW_.out (by kernel_rfl)) (fun _ _ _ h => h) (Or.inl ⟨by rfl,?_⟩) hHeld ?_ ?_
  rotate_left
  · rintro w' ⟨s0,s1,s2,s3,s4,s5,s6,s7⟩
    go_simp
    with_reducible rfl
  rotate_left
  · simp only [Act.put,q1,q2,q3,i64_w,i32_w]
    rfl
  refine take_ (i:=4) (N:=some 25) (v:=?_) (a':=?_) #[true,true,true,true,true,false,true,true,false,true,false,false,false,true,true,false,true,false,false,true,true,false,true,false,false,false,false,false,false,false] rfl rfl (take_ofW HT_.out HW_.out (by kernel_rfl)) (fun _ _ _ h => h) (Or.inl ⟨by rfl,?_⟩) hHeld ?_ ?_
  rotate_left
  · rintro w' ⟨s0,s1,s2,s3,s4,s5,s6,s7⟩
    go_simp
    with_reducible rfl
  rotate_left
  · simp only [Act.put,q1,q2,q3,i64_w,i32_w]
    rfl
  refine pure_ (i:=5) (N:=some 26) (v:=?_) (a':=?_) #[true,true,true,true,true,true,true,true,false,true,false,false,false,true,true,false,true,false,false,true,true,false,true,false,false,false,false,false,false,false] rfl rfl (any_of HT_.out (by kernel_rfl)) (fun _ _ _ h => h) (Or.inl ⟨by rfl,?_⟩) ?_ ?_
  rotate_left
  · intro w'
    go_simp
    with_reducible rfl
  rotate_left
  · simp only [Act.put,q1,q2,q3,i64_w,i32_w]
    rfl
  refine take_ (i:=8) (N:=some 29) (v:=?_) (a':=?_) #[true,true,true,true,true,true,true,true,true,true,false,false,false,true,true,false,true,false,false,true,true,false,true,false,false,false,false,false,false,false] rfl rfl (take_ofW HT_.out HW_.out (by kernel_rfl)) (fun _ _ _ h => h) (Or.inl ⟨by rfl,?_⟩) hHeld ?_ ?_
  rotate_left
  · rintro w' ⟨s0,s1,s2,s3,s4,s5,s6,s7⟩
    go_simp
    with_reducible rfl
  rotate_left
  · simp only [Act.put,q1,q2,q3,i64_w,i32_w]
    rfl
  refine take_ (i:=10) (N:=some 31) (v:=?_) (a':=?_) #[true,true,true,true,true,true,true,true,true,true,true,false,false,true,true,false,true,false,false,true,true,false,true,false,false,false,false,false,false,false] rfl rfl (take_ofW HT_.out HW_.out (by kernel_rfl)) (fun _ _ _ h => h) (Or.inl ⟨by rfl,?_⟩) hHeld ?_ ?_
  rotate_left
  · rintro w' ⟨s0,s1,s2,s3,s4,s5,s6,s7⟩
    go_simp
    with_reducible rfl
  rotate_left
  · simp only [Act.put,q1,q2,q3,i64_w,i32_w]
    rfl
  refine pure_ (i:=11) (N:=some 32) (v:=?_) (a':=?_) #[true,true,true,true,true,true,true,true,true,true,true,true,false,true,true,false,true,false,false,true,true,false,true,false,false,false,false,false,false,false] rfl rfl (any_of HT_.out (by kernel_rfl)) (fun _ _ _ h => h) (Or.inl ⟨by rfl,?_⟩) ?_ ?_
  rotate_left
  · intro w'
    go_simp
    with_reducible rfl
  rotate_left
  · simp only [Act.put,q1,q2,q3,i64_w,i32_w]
    rfl
  refine pure_ (i:=12) (N:=some 33) (v:=?_) (a':=?_) #[true,true,true,true,true,true,true,true,true,true,true,true,true,true,true,false,true,false,false,true,true,false,true,false,false,false,false,false,false,false] rfl rfl (any_of HT_.out (by kernel_rfl)) (fun _ _ _ h => h) (Or.inl ⟨by rfl,?_⟩) ?_ ?_
  rotate_left
  · intro w'
    go_simp
    with_reducible rfl
  rotate_left
  · simp only [Act.put,q1,q2,q3,i64_w,i32_w]
    rfl
  refine pure_ (i:=26) (N:=some 47) (v:=?_) (a':=?_) #[true,true,true,true,true,true,true,true,true,true,true,true,true,true,true,false,true,false,false,true,true,false,true,false,false,false,true,false,false,false] rfl rfl (any_of HT_.out (by kernel_rfl)) (fun _ _ _ h => h) (Or.inl ⟨by rfl,?_⟩) ?_ ?_
  rotate_left
  · intro w'
    go_simp
    with_reducible rfl
  rotate_left
  · simp only [Act.put,q1,q2,q3,i64_w,i32_w]
    rfl
  refine take_ (i:=15) (N:=some 36) (v:=?_) (a':=?_) #[true,true,true,true,true,true,true,true,true,true,true,true,true,true,true,true,true,false,false,true,true,false,true,false,false,false,true,false,false,false] rfl rfl (take_ofW HT_.out HW_.out (by kernel_rfl)) (fun _ _ _ h => h) (Or.inl ⟨by rfl,?_⟩) hHeld ?_ ?_
  rotate_left
  · rintro w' ⟨s0,s1,s2,s3,s4,s5,s6,s7⟩
    go_simp
    with_reducible rfl
  rotate_left
  · simp only [Act.put,q1,q2,q3,i64_w,i32_w]
    rfl
  refine take_ (i:=17) (N:=some 38) (v:=?_) (a':=?_) #[true,true,true,true,true,true,true,true,true,true,true,true,true,true,true,true,true,true,false,true,true,false,true,false,false,false,true,false,false,false] rfl rfl (take_ofW HT_.out HW_.out (by kernel_rfl)) (fun _ _ _ h => h) (Or.inl ⟨by rfl,?_⟩) hHeld ?_ ?_
  rotate_left
  · rintro w' ⟨s0,s1,s2,s3,s4,s5,s6,s7⟩
    go_simp
    with_reducible rfl
  rotate_left
  · simp only [Act.put,q1,q2,q3,i64_w,i32_w]
    rfl
  refine pure_ (i:=18) (N:=some 39) (v:=?_) (a':=?_) #[true,true,true,true,true,true,true,true,true,true,true,true,true,true,true,true,true,true,true,true,true,false,true,false,false,false,true,false,false,false] rfl rfl (any_of HT_.out (by kernel_rfl)) (fun _ _ _ h => h) (Or.inl ⟨by rfl,?_⟩) ?_ ?_
  rotate_left
  · intro w'
    go_simp
    with_reducible rfl
  rotate_left
  · simp only [Act.put,q1,q2,q3,i64_w,i32_w]
    rfl
  refine take_ (i:=21) (N:=some 42) (v:=?_) (a':=?_) #[true,true,true,true,true,true,true,true,true,true,true,true,true,true,true,true,true,true,true,true,true,true,true,false,false,false,true,false,false,false] rfl rfl (take_ofW HT_.out HW_.out (by kernel_rfl)) (fun _ _ _ h => h) (Or.inl ⟨by rfl,?_⟩) hHeld ?_ ?_
  rotate_left
  · rintro w' ⟨s0,s1,s2,s3,s4,s5,s6,s7⟩
    go_simp
    with_reducible rfl
  rotate_left
  · simp only [Act.put,q1,q2,q3,i64_w,i32_w]
    rfl
  refine take_ (i:=23) (N:=some 44) (v:=?_) (a':=?_) #[true,true,true,true,true,true,true,true,true,true,true,true,true,true,true,true,true,true,true,true,true,true,true,true,false,false,true,false,false,false] rfl rfl (take_ofW HT_.out HW_.out (by kernel_rfl)) (fun _ _ _ h => h) (Or.inl ⟨by rfl,?_⟩) hHeld ?_ ?_
  rotate_left
  · rintro w' ⟨s0,s1,s2,s3,s4,s5,s6,s7⟩
    go_simp
    with_reducible rfl
  rotate_left
  · simp only [Act.put,q1,q2,q3,i64_w,i32_w]
    rfl
  refine pure_ (i:=24) (N:=some 45) (v:=?_) (a':=?_) #[true,true,true,true,true,true,true,true,true,true,true,true,true,true,true,true,true,true,true,true,true,true,true,true,true,false,true,false,false,false] rfl rfl (any_of HT_.out (by kernel_rfl)) (fun _ _ _ h => h) (Or.inl ⟨by rfl,?_⟩) ?_ ?_
  rotate_left
  · intro w'
    go_simp
    with_reducible rfl
  rotate_left
  · simp only [Act.put,q1,q2,q3,i64_w,i32_w]
    rfl
  refine pure_ (i:=25) (N:=some 46) (v:=?_) (a':=?_) #[true,true,true,true,true,true,true,true,true,true,true,true,true,true,true,true,true,true,true,true,true,true,true,true,true,true,true,false,false,false] rfl rfl (any_of HT_.out (by kernel_rfl)) (fun _ _ _ h => h) (Or.inl ⟨by rfl,?_⟩) ?_ ?_
  rotate_left
  · intro w'
    go_simp
    with_reducible rfl
  rotate_left
  · simp only [Act.put,q1,q2,q3,i64_w,i32_w]
    rfl
  refine one_ (i:=27) (N:=none) #[true,true,true,true,true,true,true,true,true,true,true,true,true,true,true,true,true,true,true,true,true,true,true,true,true,true,true,true,false,false] rfl rfl (one_of HT_.out (by kernel_rfl)) (by decide) (fun K hK => ?_);have hs18 : w17.cell? ⟨gb369,0,none⟩ = some (.int .i64 a0_0):=(bc BK369.out 0).trans rfl;have hfs18:=bz BK369.out 0;have hns18_0:=NB367_369.out;have hns18_1:=NB368_369.out;have hms18_0:=NB369_367.out;have hms18_1:=NB369_368.out;have hs19 : w17.cell? ⟨gb369,1,none⟩ = some (.int .i64 a0_1):=(bc BK369.out 1).trans rfl;have hfs19:=bz BK369.out 1;have hns19_0:=NB367_369.out;have hns19_1:=NB368_369.out;have hms19_0:=NB369_367.out;have hms19_1:=NB369_368.out;refine skip_ (w1:=?_) (by rfl) rfl ?_ ?_
  rotate_left
  · go_simp
    rfl
  refine hK.out _ _ ⟨((cell_far (p:=⟨gb369,_,none⟩) NB367_369.out _).trans (((cell_far (p:=⟨gb369,_,none⟩) NB367_369.out _).trans (hHeld.1)))),((cell_far (p:=⟨gb369,_,none⟩) NB367_369.out _).trans (((cell_far (p:=⟨gb369,_,none⟩) NB367_369.out _).trans (hHeld.2.1)))),((cell_far (p:=⟨gb369,_,none⟩) NB367_369.out _).trans (((cell_far (p:=⟨gb369,_,none⟩) NB367_369.out _).trans (hHeld.2.2.1)))),((cell_far (p:=⟨gb369,_,none⟩) NB367_369.out _).trans (((cell_far (p:=⟨gb369,_,none⟩) NB367_369.out _).trans (hHeld.2.2.2.1)))),((cell_far (p:=⟨gb369,_,none⟩) NB367_369.out _).trans (((cell_far (p:=⟨gb369,_,none⟩) NB367_369.out _).trans (hHeld.2.2.2.2.1)))),((cell_far (p:=⟨gb369,_,none⟩) NB367_369.out _).trans (((cell_far (p:=⟨gb369,_,none⟩) NB367_369.out _).trans (hHeld.2.2.2.2.2.1)))),((cell_far (p:=⟨gb369,_,none⟩) NB368_369.out _).trans (((cell_far (p:=⟨gb369,_,none⟩) NB368_369.out _).trans (hHeld.2.2.2.2.2.2.1)))),((cell_far (p:=⟨gb369,_,none⟩) NB368_369.out _).trans (((cell_far (p:=⟨gb369,_,none⟩) NB368_369.out _).trans (hHeld.2.2.2.2.2.2.2))))⟩ (fun hHeld => ?_);clear hK K;refine pure_ (i:=28) (N:=some 48) (v:=?_) (a':=?_) #[true,true,true,true,true,true,true,true,true,true,true,true,true,true,true,true,true,true,true,true,true,true,true,true,true,true,true,true,true,false] rfl rfl (any_of HT_.out (by kernel_rfl)) (fun _ _ _ h => h) (Or.inl ⟨by rfl,?_⟩) ?_ ?_
  rotate_left
  · intro w'
    go_simp
    with_reducible rfl
  rotate_left
  · simp only [Act.put,q1,q2,q3,i64_w,i32_w]
    rfl
  refine one_ (i:=29) (N:=none) #[true,true,true,true,true,true,true,true,true,true,true,true,true,true,true,true,true,true,true,true,true,true,true,true,true,true,true,true,true,true] rfl rfl (one_of HT_.out (by kernel_rfl)) (by decide) (fun K hK => ?_);have hs20 : w17.cell? ⟨gb369,2,none⟩ = some (.int .i64 a0_2):=(bc BK369.out 2).trans rfl;have hfs20:=bz BK369.out 2;have hns20_0:=NB367_369.out;have hns20_1:=NB368_369.out;have hms20_0:=NB369_367.out;have hms20_1:=NB369_368.out;have hs21 : w17.cell? ⟨gb369,3,none⟩ = some (.int .i64 a0_3):=(bc BK369.out 3).trans rfl;have hfs21:=bz BK369.out 3;have hns21_0:=NB367_369.out;have hns21_1:=NB368_369.out;have hms21_0:=NB369_367.out;have hms21_1:=NB369_368.out;refine skip_ (w1:=?_) (by rfl) rfl ?_ ?_
  rotate_left
  · go_simp
    rfl
  refine hK.out _ _ ⟨((cell_far (p:=⟨gb369,_,none⟩) NB367_369.out _).trans (((cell_far (p:=⟨gb369,_,none⟩) NB367_369.out _).trans (hHeld.1)))),((cell_far (p:=⟨gb369,_,none⟩) NB367_369.out _).trans (((cell_far (p:=⟨gb369,_,none⟩) NB367_369.out _).trans (hHeld.2.1)))),((cell_far (p:=⟨gb369,_,none⟩) NB367_369.out _).trans (((cell_far (p:=⟨gb369,_,none⟩) NB367_369.out _).trans (hHeld.2.2.1)))),((cell_far (p:=⟨gb369,_,none⟩) NB367_369.out _).trans (((cell_far (p:=⟨gb369,_,none⟩) NB367_369.out _).trans (hHeld.2.2.2.1)))),((cell_far (p:=⟨gb369,_,none⟩) NB367_369.out _).trans (((cell_far (p:=⟨gb369,_,none⟩) NB367_369.out _).trans (hHeld.2.2.2.2.1)))),((cell_far (p:=⟨gb369,_,none⟩) NB367_369.out _).trans (((cell_far (p:=⟨gb369,_,none⟩) NB367_369.out _).trans (hHeld.2.2.2.2.2.1)))),((cell_far (p:=⟨gb369,_,none⟩) NB368_369.out _).trans (((cell_far (p:=⟨gb369,_,none⟩) NB368_369.out _).trans (hHeld.2.2.2.2.2.2.1)))),((cell_far (p:=⟨gb369,_,none⟩) NB368_369.out _).trans (((cell_far (p:=⟨gb369,_,none⟩) NB368_369.out _).trans (hHeld.2.2.2.2.2.2.2))))⟩ (fun hHeld => ?_);clear hK K;refine done_ (done_of HT_.out (by kernel_rfl)) ?_
  go_upto_region 4 with (fail)
  go_cut [74] (fun v74 wc => ∃ (kq : Nat) (x74_5 : Bool),v74 = .bool x74_5 ∧ Aside0 (celluloidlaw18_StrokeShifts.j0 kq a1 a2 x74_5 a0_0 a0_1 a0_2 a0_3 a0_4 a0_5 (wrap64 (2 * (wrap64 (a3)))) (wrap64 (2 * (wrap64 (a4)))) (wrap64 (a0_0 + (wrap64 (2 * (wrap64 (a3)))))) (wrap64 (a0_1 + (wrap64 (2 * (wrap64 (a4)))))) (wrap64 (a0_2 + (wrap64 (2 * (wrap64 (a3)))))) (wrap64 (a0_3 + (wrap64 (2 * (wrap64 (a4)))))) a0_4 a0_5 = some r) ∧ Aside0 (kq ≤ k) ∧ Aside0 (wc.heap[gb367]? = some (.cells #[.int .i64 a0_0,.int .i64 a0_1,.int .i64 a0_2,.int .i64 a0_3,.int .i64 a0_4,.int .i64 a0_5] 25 (0,0))) ∧ Aside0 (wc.heap[gb368]? = some (.cells #[.int .i64 (wrap64 (2 * (wrap64 (a3)))),.int .i64 (wrap64 (2 * (wrap64 (a4))))] 23 (0,0))) ∧ Aside0 (wc.heap[gb369]? = some (.cells #[.int .i64 (wrap64 (a0_0 + (wrap64 (2 * (wrap64 (a3)))))),.int .i64 (wrap64 (a0_1 + (wrap64 (2 * (wrap64 (a4)))))),.int .i64 (wrap64 (a0_2 + (wrap64 (2 * (wrap64 (a3)))))),.int .i64 (wrap64 (a0_3 + (wrap64 (2 * (wrap64 (a4)))))),.int .i64 a0_4,.int .i64 a0_5] 25 (0,0))) ∧ Aside0 (Below w.heap.size w wc))
  case first =>
    have H:=HC6.out;clear HC6;replace H:=Option.bind_eq_some_iff.mp H;obtain ⟨⟨t370,t371,t372,t373,t374,t375⟩,A220,H⟩:=H;replace H : ((celluloidref18_Right.f k t370 t371 t372 t373 t374 t375).bind fun t376 => (if t376 = true then ((celluloidlaw18_ref.f (wrap64 (a0_0 + (wrap64 (2 * (wrap64 (a3)))))) (wrap64 (a0_1 + (wrap64 (2 * (wrap64 (a4)))))) (wrap64 (a0_2 + (wrap64 (2 * (wrap64 (a3)))))) (wrap64 (a0_3 + (wrap64 (2 * (wrap64 (a4)))))) a0_4 a0_5).bind fun bt377 => ((celluloidref18_Right.f k bt377.1 bt377.2.1 bt377.2.2.1 bt377.2.2.2.1 bt377.2.2.2.2.1 bt377.2.2.2.2.2).bind fun t383 => (if t383 = true then ((celluloidlaw18_far.f a1 a2).bind fun t384 => (if t384 = true then (celluloidlaw18_StrokeShifts.j0 k a1 a2 true a0_0 a0_1 a0_2 a0_3 a0_4 a0_5 (wrap64 (2 * (wrap64 (a3)))) (wrap64 (2 * (wrap64 (a4)))) (wrap64 (a0_0 + (wrap64 (2 * (wrap64 (a3)))))) (wrap64 (a0_1 + (wrap64 (2 * (wrap64 (a4)))))) (wrap64 (a0_2 + (wrap64 (2 * (wrap64 (a3)))))) (wrap64 (a0_3 + (wrap64 (2 * (wrap64 (a4)))))) a0_4 a0_5) else ((celluloidlaw18_far.f (wrap64 (a1 + (wrap64 (2 * (wrap64 (a3)))))) (wrap64 (a2 + (wrap64 (2 * (wrap64 (a4))))))).bind fun t385 => (celluloidlaw18_StrokeShifts.j0 k a1 a2 t385 a0_0 a0_1 a0_2 a0_3 a0_4 a0_5 (wrap64 (2 * (wrap64 (a3)))) (wrap64 (2 * (wrap64 (a4)))) (wrap64 (a0_0 + (wrap64 (2 * (wrap64 (a3)))))) (wrap64 (a0_1 + (wrap64 (2 * (wrap64 (a4)))))) (wrap64 (a0_2 + (wrap64 (2 * (wrap64 (a3)))))) (wrap64 (a0_3 + (wrap64 (2 * (wrap64 (a4)))))) a0_4 a0_5)))) else (celluloidlaw18_StrokeShifts.j0 k a1 a2 true a0_0 a0_1 a0_2 a0_3 a0_4 a0_5 (wrap64 (2 * (wrap64 (a3)))) (wrap64 (2 * (wrap64 (a4)))) (wrap64 (a0_0 + (wrap64 (2 * (wrap64 (a3)))))) (wrap64 (a0_1 + (wrap64 (2 * (wrap64 (a4)))))) (wrap64 (a0_2 + (wrap64 (2 * (wrap64 (a3)))))) (wrap64 (a0_3 + (wrap64 (2 * (wrap64 (a4)))))) a0_4 a0_5)))) else (celluloidlaw18_StrokeShifts.j0 k a1 a2 true a0_0 a0_1 a0_2 a0_3 a0_4 a0_5 (wrap64 (2 * (wrap64 (a3)))) (wrap64 (2 * (wrap64 (a4)))) (wrap64 (a0_0 + (wrap64 (2 * (wrap64 (a3)))))) (wrap64 (a0_1 + (wrap64 (2 * (wrap64 (a4)))))) (wrap64 (a0_2 + (wrap64 (2 * (wrap64 (a3)))))) (wrap64 (a0_3 + (wrap64 (2 * (wrap64 (a4)))))) a0_4 a0_5))) = some r:=H;have A22:=am A220;clear A220;replace H:=Option.bind_eq_some_iff.mp H;obtain ⟨t376,A230,H⟩:=H;replace H : (if t376 = true then ((celluloidlaw18_ref.f (wrap64 (a0_0 + (wrap64 (2 * (wrap64 (a3)))))) (wrap64 (a0_1 + (wrap64 (2 * (wrap64 (a4)))))) (wrap64 (a0_2 + (wrap64 (2 * (wrap64 (a3)))))) (wrap64 (a0_3 + (wrap64 (2 * (wrap64 (a4)))))) a0_4 a0_5).bind fun bt377 => ((celluloidref18_Right.f k bt377.1 bt377.2.1 bt377.2.2.1 bt377.2.2.2.1 bt377.2.2.2.2.1 bt377.2.2.2.2.2).bind fun t383 => (if t383 = true then ((celluloidlaw18_far.f a1 a2).bind fun t384 => (if t384 = true then (celluloidlaw18_StrokeShifts.j0 k a1 a2 true a0_0 a0_1 a0_2 a0_3 a0_4 a0_5 (wrap64 (2 * (wrap64 (a3)))) (wrap64 (2 * (wrap64 (a4)))) (wrap64 (a0_0 + (wrap64 (2 * (wrap64 (a3)))))) (wrap64 (a0_1 + (wrap64 (2 * (wrap64 (a4)))))) (wrap64 (a0_2 + (wrap64 (2 * (wrap64 (a3)))))) (wrap64 (a0_3 + (wrap64 (2 * (wrap64 (a4)))))) a0_4 a0_5) else ((celluloidlaw18_far.f (wrap64 (a1 + (wrap64 (2 * (wrap64 (a3)))))) (wrap64 (a2 + (wrap64 (2 * (wrap64 (a4))))))).bind fun t385 => (celluloidlaw18_StrokeShifts.j0 k a1 a2 t385 a0_0 a0_1 a0_2 a0_3 a0_4 a0_5 (wrap64 (2 * (wrap64 (a3)))) (wrap64 (2 * (wrap64 (a4)))) (wrap64 (a0_0 + (wrap64 (2 * (wrap64 (a3)))))) (wrap64 (a0_1 + (wrap64 (2 * (wrap64 (a4)))))) (wrap64 (a0_2 + (wrap64 (2 * (wrap64 (a3)))))) (wrap64 (a0_3 + (wrap64 (2 * (wrap64 (a4)))))) a0_4 a0_5)))) else (celluloidlaw18_StrokeShifts.j0 k a1 a2 true a0_0 a0_1 a0_2 a0_3 a0_4 a0_5 (wrap64 (2 * (wrap64 (a3)))) (wrap64 (2 * (wrap64 (a4)))) (wrap64 (a0_0 + (wrap64 (2 * (wrap64 (a3)))))) (wrap64 (a0_1 + (wrap64 (2 * (wrap64 (a4)))))) (wrap64 (a0_2 + (wrap64 (2 * (wrap64 (a3)))))) (wrap64 (a0_3 + (wrap64 (2 * (wrap64 (a4)))))) a0_4 a0_5)))) else (celluloidlaw18_StrokeShifts.j0 k a1 a2 true a0_0 a0_1 a0_2 a0_3 a0_4 a0_5 (wrap64 (2 * (wrap64 (a3)))) (wrap64 (2 * (wrap64 (a4)))) (wrap64 (a0_0 + (wrap64 (2 * (wrap64 (a3)))))) (wrap64 (a0_1 + (wrap64 (2 * (wrap64 (a4)))))) (wrap64 (a0_2 + (wrap64 (2 * (wrap64 (a3)))))) (wrap64 (a0_3 + (wrap64 (2 * (wrap64 (a4)))))) a0_4 a0_5)) = some r:=H;have A23:=am A230;clear A230
    by_cases c24 : t376 = true
    · subst c24
      have H1 : ((celluloidlaw18_ref.f (wrap64 (a0_0 + (wrap64 (2 * (wrap64 (a3)))))) (wrap64 (a0_1 + (wrap64 (2 * (wrap64 (a4)))))) (wrap64 (a0_2 + (wrap64 (2 * (wrap64 (a3)))))) (wrap64 (a0_3 + (wrap64 (2 * (wrap64 (a4)))))) a0_4 a0_5).bind fun bt377 => ((celluloidref18_Right.f k bt377.1 bt377.2.1 bt377.2.2.1 bt377.2.2.2.1 bt377.2.2.2.2.1 bt377.2.2.2.2.2).bind fun t383 => (if t383 = true then ((celluloidlaw18_far.f a1 a2).bind fun t384 => (if t384 = true then (celluloidlaw18_StrokeShifts.j0 k a1 a2 true a0_0 a0_1 a0_2 a0_3 a0_4 a0_5 (wrap64 (2 * (wrap64 (a3)))) (wrap64 (2 * (wrap64 (a4)))) (wrap64 (a0_0 + (wrap64 (2 * (wrap64 (a3)))))) (wrap64 (a0_1 + (wrap64 (2 * (wrap64 (a4)))))) (wrap64 (a0_2 + (wrap64 (2 * (wrap64 (a3)))))) (wrap64 (a0_3 + (wrap64 (2 * (wrap64 (a4)))))) a0_4 a0_5) else ((celluloidlaw18_far.f (wrap64 (a1 + (wrap64 (2 * (wrap64 (a3)))))) (wrap64 (a2 + (wrap64 (2 * (wrap64 (a4))))))).bind fun t385 => (celluloidlaw18_StrokeShifts.j0 k a1 a2 t385 a0_0 a0_1 a0_2 a0_3 a0_4 a0_5 (wrap64 (2 * (wrap64 (a3)))) (wrap64 (2 * (wrap64 (a4)))) (wrap64 (a0_0 + (wrap64 (2 * (wrap64 (a3)))))) (wrap64 (a0_1 + (wrap64 (2 * (wrap64 (a4)))))) (wrap64 (a0_2 + (wrap64 (2 * (wrap64 (a3)))))) (wrap64 (a0_3 + (wrap64 (2 * (wrap64 (a4)))))) a0_4 a0_5)))) else (celluloidlaw18_StrokeShifts.j0 k a1 a2 true a0_0 a0_1 a0_2 a0_3 a0_4 a0_5 (wrap64 (2 * (wrap64 (a3)))) (wrap64 (2 * (wrap64 (a4)))) (wrap64 (a0_0 + (wrap64 (2 * (wrap64 (a3)))))) (wrap64 (a0_1 + (wrap64 (2 * (wrap64 (a4)))))) (wrap64 (a0_2 + (wrap64 (2 * (wrap64 (a3)))))) (wrap64 (a0_3 + (wrap64 (2 * (wrap64 (a4)))))) a0_4 a0_5)))) = some r:=by rw [if_pos rfl] at H;exact H
      clear H;have H:=H1;clear H1;replace H:=Option.bind_eq_some_iff.mp H;obtain ⟨⟨t377,t378,t379,t380,t381,t382⟩,A250,H⟩:=H;replace H : ((celluloidref18_Right.f k t377 t378 t379 t380 t381 t382).bind fun t383 => (if t383 = true then ((celluloidlaw18_far.f a1 a2).bind fun t384 => (if t384 = true then (celluloidlaw18_StrokeShifts.j0 k a1 a2 true a0_0 a0_1 a0_2 a0_3 a0_4 a0_5 (wrap64 (2 * (wrap64 (a3)))) (wrap64 (2 * (wrap64 (a4)))) (wrap64 (a0_0 + (wrap64 (2 * (wrap64 (a3)))))) (wrap64 (a0_1 + (wrap64 (2 * (wrap64 (a4)))))) (wrap64 (a0_2 + (wrap64 (2 * (wrap64 (a3)))))) (wrap64 (a0_3 + (wrap64 (2 * (wrap64 (a4)))))) a0_4 a0_5) else ((celluloidlaw18_far.f (wrap64 (a1 + (wrap64 (2 * (wrap64 (a3)))))) (wrap64 (a2 + (wrap64 (2 * (wrap64 (a4))))))).bind fun t385 => (celluloidlaw18_StrokeShifts.j0 k a1 a2 t385 a0_0 a0_1 a0_2 a0_3 a0_4 a0_5 (wrap64 (2 * (wrap64 (a3)))) (wrap64 (2 * (wrap64 (a4)))) (wrap64 (a0_0 + (wrap64 (2 * (wrap64 (a3)))))) (wrap64 (a0_1 + (wrap64 (2 * (wrap64 (a4)))))) (wrap64 (a0_2 + (wrap64 (2 * (wrap64 (a3)))))) (wrap64 (a0_3 + (wrap64 (2 * (wrap64 (a4)))))) a0_4 a0_5)))) else (celluloidlaw18_StrokeShifts.j0 k a1 a2 true a0_0 a0_1 a0_2 a0_3 a0_4 a0_5 (wrap64 (2 * (wrap64 (a3)))) (wrap64 (2 * (wrap64 (a4)))) (wrap64 (a0_0 + (wrap64 (2 * (wrap64 (a3)))))) (wrap64 (a0_1 + (wrap64 (2 * (wrap64 (a4)))))) (wrap64 (a0_2 + (wrap64 (2 * (wrap64 (a3)))))) (wrap64 (a0_3 + (wrap64 (2 * (wrap64 (a4)))))) a0_4 a0_5))) = some r:=H;have A25:=am A250;clear A250;replace H:=Option.bind_eq_some_iff.mp H;obtain ⟨t383,A260,H⟩:=H;replace H : (if t383 = true then ((celluloidlaw18_far.f a1 a2).bind fun t384 => (if t384 = true then (celluloidlaw18_StrokeShifts.j0 k a1 a2 true a0_0 a0_1 a0_2 a0_3 a0_4 a0_5 (wrap64 (2 * (wrap64 (a3)))) (wrap64 (2 * (wrap64 (a4)))) (wrap64 (a0_0 + (wrap64 (2 * (wrap64 (a3)))))) (wrap64 (a0_1 + (wrap64 (2 * (wrap64 (a4)))))) (wrap64 (a0_2 + (wrap64 (2 * (wrap64 (a3)))))) (wrap64 (a0_3 + (wrap64 (2 * (wrap64 (a4)))))) a0_4 a0_5) else ((celluloidlaw18_far.f (wrap64 (a1 + (wrap64 (2 * (wrap64 (a3)))))) (wrap64 (a2 + (wrap64 (2 * (wrap64 (a4))))))).bind fun t385 => (celluloidlaw18_StrokeShifts.j0 k a1 a2 t385 a0_0 a0_1 a0_2 a0_3 a0_4 a0_5 (wrap64 (2 * (wrap64 (a3)))) (wrap64 (2 * (wrap64 (a4)))) (wrap64 (a0_0 + (wrap64 (2 * (wrap64 (a3)))))) (wrap64 (a0_1 + (wrap64 (2 * (wrap64 (a4)))))) (wrap64 (a0_2 + (wrap64 (2 * (wrap64 (a3)))))) (wrap64 (a0_3 + (wrap64 (2 * (wrap64 (a4)))))) a0_4 a0_5)))) else (celluloidlaw18_StrokeShifts.j0 k a1 a2 true a0_0 a0_1 a0_2 a0_3 a0_4 a0_5 (wrap64 (2 * (wrap64 (a3)))) (wrap64 (2 * (wrap64 (a4)))) (wrap64 (a0_0 + (wrap64 (2 * (wrap64 (a3)))))) (wrap64 (a0_1 + (wrap64 (2 * (wrap64 (a4)))))) (wrap64 (a0_2 + (wrap64 (2 * (wrap64 (a3)))))) (wrap64 (a0_3 + (wrap64 (2 * (wrap64 (a4)))))) a0_4 a0_5)) = some r:=H;have A26:=am A260;clear A260
      by_cases c27 : t383 = true
      · subst c27
        have H1 : ((celluloidlaw18_far.f a1 a2).bind fun t384 => (if t384 = true then (celluloidlaw18_StrokeShifts.j0 k a1 a2 true a0_0 a0_1 a0_2 a0_3 a0_4 a0_5 (wrap64 (2 * (wrap64 (a3)))) (wrap64 (2 * (wrap64 (a4)))) (wrap64 (a0_0 + (wrap64 (2 * (wrap64 (a3)))))) (wrap64 (a0_1 + (wrap64 (2 * (wrap64 (a4)))))) (wrap64 (a0_2 + (wrap64 (2 * (wrap64 (a3)))))) (wrap64 (a0_3 + (wrap64 (2 * (wrap64 (a4)))))) a0_4 a0_5) else ((celluloidlaw18_far.f (wrap64 (a1 + (wrap64 (2 * (wrap64 (a3)))))) (wrap64 (a2 + (wrap64 (2 * (wrap64 (a4))))))).bind fun t385 => (celluloidlaw18_StrokeShifts.j0 k a1 a2 t385 a0_0 a0_1 a0_2 a0_3 a0_4 a0_5 (wrap64 (2 * (wrap64 (a3)))) (wrap64 (2 * (wrap64 (a4)))) (wrap64 (a0_0 + (wrap64 (2 * (wrap64 (a3)))))) (wrap64 (a0_1 + (wrap64 (2 * (wrap64 (a4)))))) (wrap64 (a0_2 + (wrap64 (2 * (wrap64 (a3)))))) (wrap64 (a0_3 + (wrap64 (2 * (wrap64 (a4)))))) a0_4 a0_5)))) = some r:=by rw [if_pos rfl] at H;exact H
        clear H;have H:=H1;clear H1;replace H:=Option.bind_eq_some_iff.mp H;obtain ⟨t384,A280,H⟩:=H;replace H : (if t384 = true then (celluloidlaw18_StrokeShifts.j0 k a1 a2 true a0_0 a0_1 a0_2 a0_3 a0_4 a0_5 (wrap64 (2 * (wrap64 (a3)))) (wrap64 (2 * (wrap64 (a4)))) (wrap64 (a0_0 + (wrap64 (2 * (wrap64 (a3)))))) (wrap64 (a0_1 + (wrap64 (2 * (wrap64 (a4)))))) (wrap64 (a0_2 + (wrap64 (2 * (wrap64 (a3)))))) (wrap64 (a0_3 + (wrap64 (2 * (wrap64 (a4)))))) a0_4 a0_5) else ((celluloidlaw18_far.f (wrap64 (a1 + (wrap64 (2 * (wrap64 (a3)))))) (wrap64 (a2 + (wrap64 (2 * (wrap64 (a4))))))).bind fun t385 => (celluloidlaw18_StrokeShifts.j0 k a1 a2 t385 a0_0 a0_1 a0_2 a0_3 a0_4 a0_5 (wrap64 (2 * (wrap64 (a3)))) (wrap64 (2 * (wrap64 (a4)))) (wrap64 (a0_0 + (wrap64 (2 * (wrap64 (a3)))))) (wrap64 (a0_1 + (wrap64 (2 * (wrap64 (a4)))))) (wrap64 (a0_2 + (wrap64 (2 * (wrap64 (a3)))))) (wrap64 (a0_3 + (wrap64 (2 * (wrap64 (a4)))))) a0_4 a0_5))) = some r:=H;have A28:=am A280;clear A280
        by_cases c29 : t384 = true
        · subst c29
          have H1 : (celluloidlaw18_StrokeShifts.j0 k a1 a2 true a0_0 a0_1 a0_2 a0_3 a0_4 a0_5 (wrap64 (2 * (wrap64 (a3)))) (wrap64 (2 * (wrap64 (a4)))) (wrap64 (a0_0 + (wrap64 (2 * (wrap64 (a3)))))) (wrap64 (a0_1 + (wrap64 (2 * (wrap64 (a4)))))) (wrap64 (a0_2 + (wrap64 (2 * (wrap64 (a3)))))) (wrap64 (a0_3 + (wrap64 (2 * (wrap64 (a4)))))) a0_4 a0_5) = some r:=by rw [if_pos rfl] at H;exact H
          clear H;have H:=H1;clear H1;have H':=am H;clear H;have hnb30:=NB367_368.out;have hnc30:=NB368_367.out;have hnb31:=NB367_369.out;have hnc31:=NB369_367.out;have hcz32_0 : w17.cell? ⟨gb367,0,none⟩ = some (.int .i64 a0_0):=(bc BK367.out 0).trans rfl;have hcz32_1 : w17.cell? ⟨gb367,1,none⟩ = some (.int .i64 a0_1):=(bc BK367.out 1).trans rfl;have hcz32_2 : w17.cell? ⟨gb367,2,none⟩ = some (.int .i64 a0_2):=(bc BK367.out 2).trans rfl;have hcz32_3 : w17.cell? ⟨gb367,3,none⟩ = some (.int .i64 a0_3):=(bc BK367.out 3).trans rfl;have hcz32_4 : w17.cell? ⟨gb367,4,none⟩ = some (.int .i64 a0_4):=(bc BK367.out 4).trans rfl;have hcz32_5 : w17.cell? ⟨gb367,5,none⟩ = some (.int .i64 a0_5):=(bc BK367.out 5).trans rfl;have hfz32_0:=bz BK367.out 0;have hfz32_1:=bz BK367.out 1;have hfz32_2:=bz BK367.out 2;have hfz32_3:=bz BK367.out 3;have hfz32_4:=bz BK367.out 4;have hfz32_5:=bz BK367.out 5
          go_wp2_with (first|((with_reducible refine gate_callee (f:=11) rfl ?_);refine goesL_ (some 50) rfl rfl Try.func11 (by kernel_rfl) rfl #[.agg #[.int .i64 a0_0,.int .i64 a0_1,.int .i64 a0_2,.int .i64 a0_3,.int .i64 a0_4,.int .i64 a0_5]] rfl (by (try simp only [List.map_toArray,List.map_cons,List.map_nil]);first|done|rfl|(simp only [List.length_drop,List.length_take];rfl)) ?_;(with_reducible refine (celluloidlaw18_ref.calls a0_0 a0_1 a0_2 a0_3 a0_4 a0_5 t370 t371 t372 t373 t374 t375 _ A22.out).mono ?_);rintro e w33 ⟨rfl,hb⟩;refine ⟨_,rfl,?_⟩;replace BK367:=am (wz BK367.out (by (with_reducible repeat (first|refine bn ?_ _|refine bd ?_|refine ba ?_ _|refine bf ?_ NB367_369.out _));exact BK367.out) hb);replace BK368:=am (wz BK368.out (by (with_reducible repeat (first|refine bn ?_ _|refine bd ?_|refine ba ?_ _|refine bf ?_ NB368_369.out _));exact BK368.out) hb);replace BK369:=am (bw (g:=gb369) (o:=.cells #[.int .i64 (wrap64 (a0_0 + (wrap64 (2 * (wrap64 (a3)))))),.int .i64 (wrap64 (a0_1 + (wrap64 (2 * (wrap64 (a4)))))),.int .i64 (wrap64 (a0_2 + (wrap64 (2 * (wrap64 (a3)))))),.int .i64 (wrap64 (a0_3 + (wrap64 (2 * (wrap64 (a4)))))),.int .i64 a0_4,.int .i64 a0_5] 25 (0,0)) (bp (bp (bp (bp BK369.out 0 _ rfl) 1 _ rfl) 2 _ rfl) 3 _ rfl) hb);replace HB:=am (ss (by repeat (first|(with_reducible first|exact HB.out|apply sa|apply sn|apply sd|refine sy ?_ (by assumption))|exact HB.out)) hb);(try clear hb);(try clear hb2);(try clear hk);(try clear hi))|((with_reducible refine gate_callee (f:=10) rfl ?_);refine goesL_ (some 51) rfl rfl Try.func10 (by kernel_rfl) rfl #[.agg #[.int .i64 t370,.int .i64 t371,.int .i64 t372,.int .i64 t373,.int .i64 t374,.int .i64 t375]] rfl (by (try simp only [List.map_toArray,List.map_cons,List.map_nil]);first|done|rfl|(simp only [List.length_drop,List.length_take];rfl)) ?_;(with_reducible refine (celluloidref18_Right.calls k t370 t371 t372 t373 t374 t375 true _ A23.out).mono ?_);rintro e w34 ⟨rfl,hb⟩;refine ⟨_,rfl,?_⟩;replace BK367:=am (bw (by exact BK367.out) hb);replace BK368:=am (bw (by exact BK368.out) hb);replace BK369:=am (bw (by exact BK369.out) hb);replace HB:=am (ss (by repeat (first|(with_reducible first|exact HB.out|apply sa|apply sn|apply sd|refine sy ?_ (by assumption))|exact HB.out)) hb);(try clear hb);(try clear hb2);(try clear hk);(try clear hi);have hnb35:=NB369_368.out;have hnc35:=NB368_369.out;obtain ⟨hcz36_0,hcz36_1,hcz36_2,hcz36_3,hcz36_4,hcz36_5⟩:=cq6 BK369.out;obtain ⟨hfz36_0,hfz36_1,hfz36_2,hfz36_3,hfz36_4,hfz36_5⟩:=fq6 BK369.out)|(go_at_call 11;(with_reducible refine (celluloidlaw18_ref.calls (wrap64 (a0_0 + (wrap64 (2 * (wrap64 (a3)))))) (wrap64 (a0_1 + (wrap64 (2 * (wrap64 (a4)))))) (wrap64 (a0_2 + (wrap64 (2 * (wrap64 (a3)))))) (wrap64 (a0_3 + (wrap64 (2 * (wrap64 (a4)))))) a0_4 a0_5 t377 t378 t379 t380 t381 t382 _ A25.out).mono ?_);rintro e w37 ⟨rfl,hb⟩;replace BK367:=am (bw (by exact BK367.out) hb);replace BK368:=am (bw (by exact BK368.out) hb);replace BK369:=am (bw (by exact BK369.out) hb);replace HB:=am (ss (by repeat (first|(with_reducible first|exact HB.out|apply sa|apply sn|apply sd|refine sy ?_ (by assumption))|exact HB.out)) hb);(try clear hb);(try clear hb2);(try clear hk);(try clear hi))|(go_at_call 10;(with_reducible refine (celluloidref18_Right.calls k t377 t378 t379 t380 t381 t382 true _ A26.out).mono ?_);rintro e w38 ⟨rfl,hb⟩;replace BK367:=am (bw (by exact BK367.out) hb);replace BK368:=am (bw (by exact BK368.out) hb);replace BK369:=am (bw (by exact BK369.out) hb);replace HB:=am (ss (by repeat (first|(with_reducible first|exact HB.out|apply sa|apply sn|apply sd|refine sy ?_ (by assumption))|exact HB.out)) hb);(try clear hb);(try clear hb2);(try clear hk);(try clear hi))|(go_at_call 12;(with_reducible refine (celluloidlaw18_far.calls a1 a2 true _ A28.out).mono ?_);rintro e w39 ⟨rfl,hb⟩;replace BK367:=am (bw (by exact BK367.out) hb);replace BK368:=am (bw (by exact BK368.out) hb);replace BK369:=am (bw (by exact BK369.out) hb);replace HB:=am (ss (by repeat (first|(with_reducible first|exact HB.out|apply sa|apply sn|apply sd|refine sy ?_ (by assumption))|exact HB.out)) hb);(try clear hb);(try clear hb2);(try clear hk);(try clear hi)))
          go_meet
          case rel => exact ⟨_,(true),(by first|rfl|(simp;done)|(simp [*];done)),H',⟨by first|omega|exact Nat.le_refl _⟩,⟨by exact BK367.out⟩,⟨by exact BK368.out⟩,⟨by exact BK369.out⟩,⟨by repeat (first|(with_reducible first|exact HB.out|apply sa|apply sn|apply sd|refine sy ?_ (by assumption))|exact HB.out)⟩⟩
        · replace c29:=Bool.eq_false_iff.mpr c29
          subst c29
          have H1 : ((celluloidlaw18_far.f (wrap64 (a1 + (wrap64 (2 * (wrap64 (a3)))))) (wrap64 (a2 + (wrap64 (2 * (wrap64 (a4))))))).bind fun t385 => (celluloidlaw18_StrokeShifts.j0 k a1 a2 t385 a0_0 a0_1 a0_2 a0_3 a0_4 a0_5 (wrap64 (2 * (wrap64 (a3)))) (wrap64 (2 * (wrap64 (a4)))) (wrap64 (a0_0 + (wrap64 (2 * (wrap64 (a3)))))) (wrap64 (a0_1 + (wrap64 (2 * (wrap64 (a4)))))) (wrap64 (a0_2 + (wrap64 (2 * (wrap64 (a3)))))) (wrap64 (a0_3 + (wrap64 (2 * (wrap64 (a4)))))) a0_4 a0_5)) = some r:=by rw [if_neg (show ¬ (false = true) by decide)] at H;exact H
          clear H;have H:=H1;clear H1;replace H:=Option.bind_eq_some_iff.mp H;obtain ⟨t385,A400,H⟩:=H;replace H : (celluloidlaw18_StrokeShifts.j0 k a1 a2 t385 a0_0 a0_1 a0_2 a0_3 a0_4 a0_5 (wrap64 (2 * (wrap64 (a3)))) (wrap64 (2 * (wrap64 (a4)))) (wrap64 (a0_0 + (wrap64 (2 * (wrap64 (a3)))))) (wrap64 (a0_1 + (wrap64 (2 * (wrap64 (a4)))))) (wrap64 (a0_2 + (wrap64 (2 * (wrap64 (a3)))))) (wrap64 (a0_3 + (wrap64 (2 * (wrap64 (a4)))))) a0_4 a0_5) = some r:=H;have A40:=am A400;clear A400;have H':=am H;clear H;have hnb41:=NB367_368.out;have hnc41:=NB368_367.out;have hnb42:=NB367_369.out;have hnc42:=NB369_367.out;have hcz43_0 : w17.cell? ⟨gb367,0,none⟩ = some (.int .i64 a0_0):=(bc BK367.out 0).trans rfl;have hcz43_1 : w17.cell? ⟨gb367,1,none⟩ = some (.int .i64 a0_1):=(bc BK367.out 1).trans rfl;have hcz43_2 : w17.cell? ⟨gb367,2,none⟩ = some (.int .i64 a0_2):=(bc BK367.out 2).trans rfl;have hcz43_3 : w17.cell? ⟨gb367,3,none⟩ = some (.int .i64 a0_3):=(bc BK367.out 3).trans rfl;have hcz43_4 : w17.cell? ⟨gb367,4,none⟩ = some (.int .i64 a0_4):=(bc BK367.out 4).trans rfl;have hcz43_5 : w17.cell? ⟨gb367,5,none⟩ = some (.int .i64 a0_5):=(bc BK367.out 5).trans rfl;have hfz43_0:=bz BK367.out 0;have hfz43_1:=bz BK367.out 1;have hfz43_2:=bz BK367.out 2;have hfz43_3:=bz BK367.out 3;have hfz43_4:=bz BK367.out 4;have hfz43_5:=bz BK367.out 5
          go_wp2_with (first|((with_reducible refine gate_callee (f:=11) rfl ?_);refine goesL_ (some 50) rfl rfl Try.func11 (by kernel_rfl) rfl #[.agg #[.int .i64 a0_0,.int .i64 a0_1,.int .i64 a0_2,.int .i64 a0_3,.int .i64 a0_4,.int .i64 a0_5]] rfl (by (try simp only [List.map_toArray,List.map_cons,List.map_nil]);first|done|rfl|(simp only [List.length_drop,List.length_take];rfl)) ?_;(with_reducible refine (celluloidlaw18_ref.calls a0_0 a0_1 a0_2 a0_3 a0_4 a0_5 t370 t371 t372 t373 t374 t375 _ A22.out).mono ?_);rintro e w44 ⟨rfl,hb⟩;refine ⟨_,rfl,?_⟩;replace BK367:=am (wz BK367.out (by (with_reducible repeat (first|refine bn ?_ _|refine bd ?_|refine ba ?_ _|refine bf ?_ NB367_369.out _));exact BK367.out) hb);replace BK368:=am (wz BK368.out (by (with_reducible repeat (first|refine bn ?_ _|refine bd ?_|refine ba ?_ _|refine bf ?_ NB368_369.out _));exact BK368.out) hb);replace BK369:=am (bw (g:=gb369) (o:=.cells #[.int .i64 (wrap64 (a0_0 + (wrap64 (2 * (wrap64 (a3)))))),.int .i64 (wrap64 (a0_1 + (wrap64 (2 * (wrap64 (a4)))))),.int .i64 (wrap64 (a0_2 + (wrap64 (2 * (wrap64 (a3)))))),.int .i64 (wrap64 (a0_3 + (wrap64 (2 * (wrap64 (a4)))))),.int .i64 a0_4,.int .i64 a0_5] 25 (0,0)) (bp (bp (bp (bp BK369.out 0 _ rfl) 1 _ rfl) 2 _ rfl) 3 _ rfl) hb);replace HB:=am (ss (by repeat (first|(with_reducible first|exact HB.out|apply sa|apply sn|apply sd|refine sy ?_ (by assumption))|exact HB.out)) hb);(try clear hb);(try clear hb2);(try clear hk);(try clear hi))|((with_reducible refine gate_callee (f:=10) rfl ?_);refine goesL_ (some 51) rfl rfl Try.func10 (by kernel_rfl) rfl #[.agg #[.int .i64 t370,.int .i64 t371,.int .i64 t372,.int .i64 t373,.int .i64 t374,.int .i64 t375]] rfl (by (try simp only [List.map_toArray,List.map_cons,List.map_nil]);first|done|rfl|(simp only [List.length_drop,List.length_take];rfl)) ?_;(with_reducible refine (celluloidref18_Right.calls k t370 t371 t372 t373 t374 t375 true _ A23.out).mono ?_);rintro e w45 ⟨rfl,hb⟩;refine ⟨_,rfl,?_⟩;replace BK367:=am (bw (by exact BK367.out) hb);replace BK368:=am (bw (by exact BK368.out) hb);replace BK369:=am (bw (by exact BK369.out) hb);replace HB:=am (ss (by repeat (first|(with_reducible first|exact HB.out|apply sa|apply sn|apply sd|refine sy ?_ (by assumption))|exact HB.out)) hb);(try clear hb);(try clear hb2);(try clear hk);(try clear hi);have hnb46:=NB369_368.out;have hnc46:=NB368_369.out;obtain ⟨hcz47_0,hcz47_1,hcz47_2,hcz47_3,hcz47_4,hcz47_5⟩:=cq6 BK369.out;obtain ⟨hfz47_0,hfz47_1,hfz47_2,hfz47_3,hfz47_4,hfz47_5⟩:=fq6 BK369.out)|(go_at_call 11;(with_reducible refine (celluloidlaw18_ref.calls (wrap64 (a0_0 + (wrap64 (2 * (wrap64 (a3)))))) (wrap64 (a0_1 + (wrap64 (2 * (wrap64 (a4)))))) (wrap64 (a0_2 + (wrap64 (2 * (wrap64 (a3)))))) (wrap64 (a0_3 + (wrap64 (2 * (wrap64 (a4)))))) a0_4 a0_5 t377 t378 t379 t380 t381 t382 _ A25.out).mono ?_);rintro e w48 ⟨rfl,hb⟩;replace BK367:=am (bw (by exact BK367.out) hb);replace BK368:=am (bw (by exact BK368.out) hb);replace BK369:=am (bw (by exact BK369.out) hb);replace HB:=am (ss (by repeat (first|(with_reducible first|exact HB.out|apply sa|apply sn|apply sd|refine sy ?_ (by assumption))|exact HB.out)) hb);(try clear hb);(try clear hb2);(try clear hk);(try clear hi))|(go_at_call 10;(with_reducible refine (celluloidref18_Right.calls k t377 t378 t379 t380 t381 t382 true _ A26.out).mono ?_);rintro e w49 ⟨rfl,hb⟩;replace BK367:=am (bw (by exact BK367.out) hb);replace BK368:=am (bw (by exact BK368.out) hb);replace BK369:=am (bw (by exact BK369.out) hb);replace HB:=am (ss (by repeat (first|(with_reducible first|exact HB.out|apply sa|apply sn|apply sd|refine sy ?_ (by assumption))|exact HB.out)) hb);(try clear hb);(try clear hb2);(try clear hk);(try clear hi))|(go_at_call 12;(with_reducible refine (celluloidlaw18_far.calls a1 a2 false _ A28.out).mono ?_);rintro e w50 ⟨rfl,hb⟩;replace BK367:=am (bw (by exact BK367.out) hb);replace BK368:=am (bw (by exact BK368.out) hb);replace BK369:=am (bw (by exact BK369.out) hb);replace HB:=am (ss (by repeat (first|(with_reducible first|exact HB.out|apply sa|apply sn|apply sd|refine sy ?_ (by assumption))|exact HB.out)) hb);(try clear hb);(try clear hb2);(try clear hk);(try clear hi);obtain ⟨hcz51_0,hcz51_1⟩:=cq2 BK368.out;obtain ⟨hfz51_0,hfz51_1⟩:=fq2 BK368.out)|(go_at_call 12;(with_reducible refine (celluloidlaw18_far.calls (wrap64 (a1 + (wrap64 (2 * (wrap64 (a3)))))) (wrap64 (a2 + (wrap64 (2 * (wrap64 (a4)))))) t385 _ A40.out).mono ?_);rintro e w52 ⟨rfl,hb⟩;replace BK367:=am (bw (by exact BK367.out) hb);replace BK368:=am (bw (by exact BK368.out) hb);replace BK369:=am (bw (by exact BK369.out) hb);replace HB:=am (ss (by repeat (first|(with_reducible first|exact HB.out|apply sa|apply sn|apply sd|refine sy ?_ (by assumption))|exact HB.out)) hb);(try clear hb);(try clear hb2);(try clear hk);(try clear hi)))
          go_meet
          case rel => exact ⟨_,(t385),(by first|rfl|(simp;done)|(simp [*];done)),H',⟨by first|omega|exact Nat.le_refl _⟩,⟨by exact BK367.out⟩,⟨by exact BK368.out⟩,⟨by exact BK369.out⟩,⟨by repeat (first|(with_reducible first|exact HB.out|apply sa|apply sn|apply sd|refine sy ?_ (by assumption))|exact HB.out)⟩⟩
      · replace c27:=Bool.eq_false_iff.mpr c27
        subst c27
        have H1 : (celluloidlaw18_StrokeShifts.j0 k a1 a2 true a0_0 a0_1 a0_2 a0_3 a0_4 a0_5 (wrap64 (2 * (wrap64 (a3)))) (wrap64 (2 * (wrap64 (a4)))) (wrap64 (a0_0 + (wrap64 (2 * (wrap64 (a3)))))) (wrap64 (a0_1 + (wrap64 (2 * (wrap64 (a4)))))) (wrap64 (a0_2 + (wrap64 (2 * (wrap64 (a3)))))) (wrap64 (a0_3 + (wrap64 (2 * (wrap64 (a4)))))) a0_4 a0_5) = some r:=by rw [if_neg (show ¬ (false = true) by decide)] at H;exact H
        clear H;have H:=H1;clear H1;have H':=am H;clear H;have hnb53:=NB367_368.out;have hnc53:=NB368_367.out;have hnb54:=NB367_369.out;have hnc54:=NB369_367.out;have hcz55_0 : w17.cell? ⟨gb367,0,none⟩ = some (.int .i64 a0_0):=(bc BK367.out 0).trans rfl;have hcz55_1 : w17.cell? ⟨gb367,1,none⟩ = some (.int .i64 a0_1):=(bc BK367.out 1).trans rfl;have hcz55_2 : w17.cell? ⟨gb367,2,none⟩ = some (.int .i64 a0_2):=(bc BK367.out 2).trans rfl;have hcz55_3 : w17.cell? ⟨gb367,3,none⟩ = some (.int .i64 a0_3):=(bc BK367.out 3).trans rfl;have hcz55_4 : w17.cell? ⟨gb367,4,none⟩ = some (.int .i64 a0_4):=(bc BK367.out 4).trans rfl;have hcz55_5 : w17.cell? ⟨gb367,5,none⟩ = some (.int .i64 a0_5):=(bc BK367.out 5).trans rfl;have hfz55_0:=bz BK367.out 0;have hfz55_1:=bz BK367.out 1;have hfz55_2:=bz BK367.out 2;have hfz55_3:=bz BK367.out 3;have hfz55_4:=bz BK367.out 4;have hfz55_5:=bz BK367.out 5
        go_wp2_with (first|((with_reducible refine gate_callee (f:=11) rfl ?_);refine goesL_ (some 50) rfl rfl Try.func11 (by kernel_rfl) rfl #[.agg #[.int .i64 a0_0,.int .i64 a0_1,.int .i64 a0_2,.int .i64 a0_3,.int .i64 a0_4,.int .i64 a0_5]] rfl (by (try simp only [List.map_toArray,List.map_cons,List.map_nil]);first|done|rfl|(simp only [List.length_drop,List.length_take];rfl)) ?_;(with_reducible refine (celluloidlaw18_ref.calls a0_0 a0_1 a0_2 a0_3 a0_4 a0_5 t370 t371 t372 t373 t374 t375 _ A22.out).mono ?_);rintro e w56 ⟨rfl,hb⟩;refine ⟨_,rfl,?_⟩;replace BK367:=am (wz BK367.out (by (with_reducible repeat (first|refine bn ?_ _|refine bd ?_|refine ba ?_ _|refine bf ?_ NB367_369.out _));exact BK367.out) hb);replace BK368:=am (wz BK368.out (by (with_reducible repeat (first|refine bn ?_ _|refine bd ?_|refine ba ?_ _|refine bf ?_ NB368_369.out _));exact BK368.out) hb);replace BK369:=am (bw (g:=gb369) (o:=.cells #[.int .i64 (wrap64 (a0_0 + (wrap64 (2 * (wrap64 (a3)))))),.int .i64 (wrap64 (a0_1 + (wrap64 (2 * (wrap64 (a4)))))),.int .i64 (wrap64 (a0_2 + (wrap64 (2 * (wrap64 (a3)))))),.int .i64 (wrap64 (a0_3 + (wrap64 (2 * (wrap64 (a4)))))),.int .i64 a0_4,.int .i64 a0_5] 25 (0,0)) (bp (bp (bp (bp BK369.out 0 _ rfl) 1 _ rfl) 2 _ rfl) 3 _ rfl) hb);replace HB:=am (ss (by repeat (first|(with_reducible first|exact HB.out|apply sa|apply sn|apply sd|refine sy ?_ (by assumption))|exact HB.out)) hb);(try clear hb);(try clear hb2);(try clear hk);(try clear hi))|((with_reducible refine gate_callee (f:=10) rfl ?_);refine goesL_ (some 51) rfl rfl Try.func10 (by kernel_rfl) rfl #[.agg #[.int .i64 t370,.int .i64 t371,.int .i64 t372,.int .i64 t373,.int .i64 t374,.int .i64 t375]] rfl (by (try simp only [List.map_toArray,List.map_cons,List.map_nil]);first|done|rfl|(simp only [List.length_drop,List.length_take];rfl)) ?_;(with_reducible refine (celluloidref18_Right.calls k t370 t371 t372 t373 t374 t375 true _ A23.out).mono ?_);rintro e w57 ⟨rfl,hb⟩;refine ⟨_,rfl,?_⟩;replace BK367:=am (bw (by exact BK367.out) hb);replace BK368:=am (bw (by exact BK368.out) hb);replace BK369:=am (bw (by exact BK369.out) hb);replace HB:=am (ss (by repeat (first|(with_reducible first|exact HB.out|apply sa|apply sn|apply sd|refine sy ?_ (by assumption))|exact HB.out)) hb);(try clear hb);(try clear hb2);(try clear hk);(try clear hi);have hnb58:=NB369_368.out;have hnc58:=NB368_369.out;obtain ⟨hcz59_0,hcz59_1,hcz59_2,hcz59_3,hcz59_4,hcz59_5⟩:=cq6 BK369.out;obtain ⟨hfz59_0,hfz59_1,hfz59_2,hfz59_3,hfz59_4,hfz59_5⟩:=fq6 BK369.out)|(go_at_call 11;(with_reducible refine (celluloidlaw18_ref.calls (wrap64 (a0_0 + (wrap64 (2 * (wrap64 (a3)))))) (wrap64 (a0_1 + (wrap64 (2 * (wrap64 (a4)))))) (wrap64 (a0_2 + (wrap64 (2 * (wrap64 (a3)))))) (wrap64 (a0_3 + (wrap64 (2 * (wrap64 (a4)))))) a0_4 a0_5 t377 t378 t379 t380 t381 t382 _ A25.out).mono ?_);rintro e w60 ⟨rfl,hb⟩;replace BK367:=am (bw (by exact BK367.out) hb);replace BK368:=am (bw (by exact BK368.out) hb);replace BK369:=am (bw (by exact BK369.out) hb);replace HB:=am (ss (by repeat (first|(with_reducible first|exact HB.out|apply sa|apply sn|apply sd|refine sy ?_ (by assumption))|exact HB.out)) hb);(try clear hb);(try clear hb2);(try clear hk);(try clear hi))|(go_at_call 10;(with_reducible refine (celluloidref18_Right.calls k t377 t378 t379 t380 t381 t382 false _ A26.out).mono ?_);rintro e w61 ⟨rfl,hb⟩;replace BK367:=am (bw (by exact BK367.out) hb);replace BK368:=am (bw (by exact BK368.out) hb);replace BK369:=am (bw (by exact BK369.out) hb);replace HB:=am (ss (by repeat (first|(with_reducible first|exact HB.out|apply sa|apply sn|apply sd|refine sy ?_ (by assumption))|exact HB.out)) hb);(try clear hb);(try clear hb2);(try clear hk);(try clear hi)))
        go_meet
        case rel => exact ⟨_,(true),(by first|rfl|(simp;done)|(simp [*];done)),H',⟨by first|omega|exact Nat.le_refl _⟩,⟨by exact BK367.out⟩,⟨by exact BK368.out⟩,⟨by exact BK369.out⟩,⟨by repeat (first|(with_reducible first|exact HB.out|apply sa|apply sn|apply sd|refine sy ?_ (by assumption))|exact HB.out)⟩⟩
    · replace c24:=Bool.eq_false_iff.mpr c24
      subst c24
      have H1 : (celluloidlaw18_StrokeShifts.j0 k a1 a2 true a0_0 a0_1 a0_2 a0_3 a0_4 a0_5 (wrap64 (2 * (wrap64 (a3)))) (wrap64 (2 * (wrap64 (a4)))) (wrap64 (a0_0 + (wrap64 (2 * (wrap64 (a3)))))) (wrap64 (a0_1 + (wrap64 (2 * (wrap64 (a4)))))) (wrap64 (a0_2 + (wrap64 (2 * (wrap64 (a3)))))) (wrap64 (a0_3 + (wrap64 (2 * (wrap64 (a4)))))) a0_4 a0_5) = some r:=by rw [if_neg (show ¬ (false = true) by decide)] at H;exact H
      clear H;have H:=H1;clear H1;have H':=am H;clear H;have hnb62:=NB367_368.out;have hnc62:=NB368_367.out;have hnb63:=NB367_369.out;have hnc63:=NB369_367.out;have hcz64_0 : w17.cell? ⟨gb367,0,none⟩ = some (.int .i64 a0_0):=(bc BK367.out 0).trans rfl;have hcz64_1 : w17.cell? ⟨gb367,1,none⟩ = some (.int .i64 a0_1):=(bc BK367.out 1).trans rfl;have hcz64_2 : w17.cell? ⟨gb367,2,none⟩ = some (.int .i64 a0_2):=(bc BK367.out 2).trans rfl;have hcz64_3 : w17.cell? ⟨gb367,3,none⟩ = some (.int .i64 a0_3):=(bc BK367.out 3).trans rfl;have hcz64_4 : w17.cell? ⟨gb367,4,none⟩ = some (.int .i64 a0_4):=(bc BK367.out 4).trans rfl;have hcz64_5 : w17.cell? ⟨gb367,5,none⟩ = some (.int .i64 a0_5):=(bc BK367.out 5).trans rfl;have hfz64_0:=bz BK367.out 0;have hfz64_1:=bz BK367.out 1;have hfz64_2:=bz BK367.out 2;have hfz64_3:=bz BK367.out 3;have hfz64_4:=bz BK367.out 4;have hfz64_5:=bz BK367.out 5
      go_wp2_with (first|((with_reducible refine gate_callee (f:=11) rfl ?_);refine goesL_ (some 50) rfl rfl Try.func11 (by kernel_rfl) rfl #[.agg #[.int .i64 a0_0,.int .i64 a0_1,.int .i64 a0_2,.int .i64 a0_3,.int .i64 a0_4,.int .i64 a0_5]] rfl (by (try simp only [List.map_toArray,List.map_cons,List.map_nil]);first|done|rfl|(simp only [List.length_drop,List.length_take];rfl)) ?_;(with_reducible refine (celluloidlaw18_ref.calls a0_0 a0_1 a0_2 a0_3 a0_4 a0_5 t370 t371 t372 t373 t374 t375 _ A22.out).mono ?_);rintro e w65 ⟨rfl,hb⟩;refine ⟨_,rfl,?_⟩;replace BK367:=am (wz BK367.out (by (with_reducible repeat (first|refine bn ?_ _|refine bd ?_|refine ba ?_ _|refine bf ?_ NB367_369.out _));exact BK367.out) hb);replace BK368:=am (wz BK368.out (by (with_reducible repeat (first|refine bn ?_ _|refine bd ?_|refine ba ?_ _|refine bf ?_ NB368_369.out _));exact BK368.out) hb);replace BK369:=am (bw (g:=gb369) (o:=.cells #[.int .i64 (wrap64 (a0_0 + (wrap64 (2 * (wrap64 (a3)))))),.int .i64 (wrap64 (a0_1 + (wrap64 (2 * (wrap64 (a4)))))),.int .i64 (wrap64 (a0_2 + (wrap64 (2 * (wrap64 (a3)))))),.int .i64 (wrap64 (a0_3 + (wrap64 (2 * (wrap64 (a4)))))),.int .i64 a0_4,.int .i64 a0_5] 25 (0,0)) (bp (bp (bp (bp BK369.out 0 _ rfl) 1 _ rfl) 2 _ rfl) 3 _ rfl) hb);replace HB:=am (ss (by repeat (first|(with_reducible first|exact HB.out|apply sa|apply sn|apply sd|refine sy ?_ (by assumption))|exact HB.out)) hb);(try clear hb);(try clear hb2);(try clear hk);(try clear hi))|((with_reducible refine gate_callee (f:=10) rfl ?_);refine goesL_ (some 51) rfl rfl Try.func10 (by kernel_rfl) rfl #[.agg #[.int .i64 t370,.int .i64 t371,.int .i64 t372,.int .i64 t373,.int .i64 t374,.int .i64 t375]] rfl (by (try simp only [List.map_toArray,List.map_cons,List.map_nil]);first|done|rfl|(simp only [List.length_drop,List.length_take];rfl)) ?_;(with_reducible refine (celluloidref18_Right.calls k t370 t371 t372 t373 t374 t375 false _ A23.out).mono ?_);rintro e w66 ⟨rfl,hb⟩;refine ⟨_,rfl,?_⟩;replace BK367:=am (bw (by exact BK367.out) hb);replace BK368:=am (bw (by exact BK368.out) hb);replace BK369:=am (bw (by exact BK369.out) hb);replace HB:=am (ss (by repeat (first|(with_reducible first|exact HB.out|apply sa|apply sn|apply sd|refine sy ?_ (by assumption))|exact HB.out)) hb);(try clear hb);(try clear hb2);(try clear hk);(try clear hi)))
      go_meet
      case rel => exact ⟨_,(true),(by first|rfl|(simp;done)|(simp [*];done)),H',⟨by first|omega|exact Nat.le_refl _⟩,⟨by exact BK367.out⟩,⟨by exact BK368.out⟩,⟨by exact BK369.out⟩,⟨by repeat (first|(with_reducible first|exact HB.out|apply sa|apply sn|apply sd|refine sy ?_ (by assumption))|exact HB.out)⟩⟩
  case rest =>
    clear HC6
    try clear c1
    try clear c2
    try clear p2
    try clear c3
    try clear c4
    try clear c5
    try clear c6
    try clear p6
    try clear c9
    try clear c10
    try clear c11
    try clear c13
    try clear c14
    try clear c24
    try clear c27
    try clear c29
    try clear c30
    try clear c31
    try clear c35
    try clear c41
    try clear c42
    try clear c46
    try clear c53
    try clear c54
    try clear c58
    try clear c62
    try clear c63
    try clear p64
    try clear hcz10_0
    try clear hcz10_1
    try clear hcz11_0
    try clear hcz11_1
    try clear hcz11_2
    try clear hcz11_3
    try clear hcz11_4
    try clear hcz11_5
    try clear hcz15_0
    try clear hcz15_1
    try clear hcz15_2
    try clear hcz15_3
    try clear hcz15_4
    try clear hcz15_5
    try clear hcz32_0
    try clear hcz32_1
    try clear hcz32_2
    try clear hcz32_3
    try clear hcz32_4
    try clear hcz32_5
    try clear hcz36_0
    try clear hcz36_1
    try clear hcz36_2
    try clear hcz36_3
    try clear hcz36_4
    try clear hcz36_5
    try clear hcz43_0
    try clear hcz43_1
    try clear hcz43_2
    try clear hcz43_3
    try clear hcz43_4
    try clear hcz43_5
    try clear hcz47_0
    try clear hcz47_1
    try clear hcz47_2
    try clear hcz47_3
    try clear hcz47_4
    try clear hcz47_5
    try clear hcz51_0
    try clear hcz51_1
    try clear hcz55_0
    try clear hcz55_1
    try clear hcz55_2
    try clear hcz55_3
    try clear hcz55_4
    try clear hcz55_5
    try clear hcz59_0
    try clear hcz59_1
    try clear hcz59_2
    try clear hcz59_3
    try clear hcz59_4
    try clear hcz59_5
    try clear hcz64_0
    try clear hcz64_1
    try clear hcz64_2
    try clear hcz64_3
    try clear hcz64_4
    try clear hcz64_5
    try clear hfz10_0
    try clear hfz10_1
    try clear hfz11_0
    try clear hfz11_1
    try clear hfz11_2
    try clear hfz11_3
    try clear hfz11_4
    try clear hfz11_5
    try clear hfz15_0
    try clear hfz15_1
    try clear hfz15_2
    try clear hfz15_3
    try clear hfz15_4
    try clear hfz15_5
    try clear hfz32_0
    try clear hfz32_1
    try clear hfz32_2
    try clear hfz32_3
    try clear hfz32_4
    try clear hfz32_5
    try clear hfz36_0
    try clear hfz36_1
    try clear hfz36_2
    try clear hfz36_3
    try clear hfz36_4
    try clear hfz36_5
    try clear hfz43_0
    try clear hfz43_1
    try clear hfz43_2
    try clear hfz43_3
    try clear hfz43_4
    try clear hfz43_5
    try clear hfz47_0
    try clear hfz47_1
    try clear hfz47_2
    try clear hfz47_3
    try clear hfz47_4
    try clear hfz47_5
    try clear hfz51_0
    try clear hfz51_1
    try clear hfz55_0
    try clear hfz55_1
    try clear hfz55_2
    try clear hfz55_3
    try clear hfz55_4
    try clear hfz55_5
    try clear hfz59_0
    try clear hfz59_1
    try clear hfz59_2
    try clear hfz59_3
    try clear hfz59_4
    try clear hfz59_5
    try clear hfz64_0
    try clear hfz64_1
    try clear hfz64_2
    try clear hfz64_3
    try clear hfz64_4
    try clear hfz64_5
    obtain ⟨kq,x74_5,rfl,HA,HJ5,BK367,BK368,BK369,HB⟩:=hcut
    cases kq with
    | zero => exact absurd HA.out (by simp [celluloidlaw18_StrokeShifts.j0])
    | succ kj5 =>
      have H:=HA.out;clear HA;simp only [celluloidlaw18_StrokeShifts.j0] at H
      by_cases c67 : x74_5 = true
      · subst c67
        have H1 : ((celluloidlaw18_awake.f kj5).bind fun t386 => (some t386)) = some r:=by rw [if_pos rfl] at H;exact H
        clear H;have H:=H1;clear H1;replace H:=Option.bind_eq_some_iff.mp H;obtain ⟨t386,A680,H⟩:=H;replace H : (some t386) = some r:=H;have A68:=am A680;clear A680;obtain rfl:=Option.some.inj H
        go_wp2_with (first|((with_reducible refine gate_callee (f:=16) rfl ?_);refine goesL_ (some 75) rfl rfl Try.func16 (by kernel_rfl) rfl #[] rfl (by (try simp only [List.map_toArray,List.map_cons,List.map_nil]);first|done|rfl|(simp only [List.length_drop,List.length_take];rfl)) ?_;(with_reducible refine (celluloidlaw18_awake.calls kj5  t386 _ A68.out).mono ?_);rintro e w69 ⟨rfl,hb⟩;refine ⟨_,rfl,?_⟩;replace BK367:=am (bw (by exact BK367.out) hb);replace BK368:=am (bw (by exact BK368.out) hb);replace BK369:=am (bw (by exact BK369.out) hb);replace HB:=am (ss (by repeat (first|(with_reducible first|exact HB.out|apply sa|apply sn|apply sd|refine sy ?_ (by assumption))|exact HB.out)) hb);(try clear hb);(try clear hb2);(try clear hk);(try clear hi)))
        go_ret
        exact ⟨by first|rfl|(simp [errW_none,errW_some] <;> rfl)|(simp [*,errW_none,errW_some] <;> rfl),by repeat (first|(with_reducible first|exact HB.out|apply sa|apply sn|apply sd|refine sy ?_ (by assumption))|exact HB.out)⟩
      · replace c67:=Bool.eq_false_iff.mpr c67
        subst c67
        have H1 : ((stroke_Near.f a0_0 a0_1 a0_2 a0_3 a0_4 a0_5 a1 a2).bind fun t387 => ((stroke_Near.f (wrap64 (a0_0 + (wrap64 (2 * (wrap64 (a3)))))) (wrap64 (a0_1 + (wrap64 (2 * (wrap64 (a4)))))) (wrap64 (a0_2 + (wrap64 (2 * (wrap64 (a3)))))) (wrap64 (a0_3 + (wrap64 (2 * (wrap64 (a4)))))) a0_4 a0_5 (wrap64 (a1 + (wrap64 (2 * (wrap64 (a3)))))) (wrap64 (a2 + (wrap64 (2 * (wrap64 (a4))))))).bind fun t388 => (if (t387 == t388) = true then ((celluloidlaw18_awake.f kj5).bind fun t389 => (some t389)) else (some false)))) = some r:=by rw [if_neg (show ¬ (false = true) by decide)] at H;exact H
        clear H;have H:=H1;clear H1;replace H:=Option.bind_eq_some_iff.mp H;obtain ⟨t387,A700,H⟩:=H;replace H : ((stroke_Near.f (wrap64 (a0_0 + (wrap64 (2 * (wrap64 (a3)))))) (wrap64 (a0_1 + (wrap64 (2 * (wrap64 (a4)))))) (wrap64 (a0_2 + (wrap64 (2 * (wrap64 (a3)))))) (wrap64 (a0_3 + (wrap64 (2 * (wrap64 (a4)))))) a0_4 a0_5 (wrap64 (a1 + (wrap64 (2 * (wrap64 (a3)))))) (wrap64 (a2 + (wrap64 (2 * (wrap64 (a4))))))).bind fun t388 => (if (t387 == t388) = true then ((celluloidlaw18_awake.f kj5).bind fun t389 => (some t389)) else (some false))) = some r:=H;have A70:=am A700;clear A700;replace H:=Option.bind_eq_some_iff.mp H;obtain ⟨t388,A710,H⟩:=H;replace H : (if (t387 == t388) = true then ((celluloidlaw18_awake.f kj5).bind fun t389 => (some t389)) else (some false)) = some r:=H;have A71:=am A710;clear A710
        by_cases c72 : (t387 == t388) = true
        · rw [if_pos c72] at H
          have c72b0 : (t387 == t388) = true:=c72
          (try (have c72b1 : decide (t387 = t388) = true:=by simpa using c72))
          (try (have c72b2 : (t387 == t388) = true:=by simpa using c72))
          clear c72;replace H:=Option.bind_eq_some_iff.mp H;obtain ⟨t389,A730,H⟩:=H;replace H : (some t389) = some r:=H;have A73:=am A730;clear A730;obtain rfl:=Option.some.inj H
          try go_wp2
          replace BK367:=am (bd BK367.out);replace BK368:=am (bd BK368.out);replace BK369:=am (bd BK369.out);replace HB:=am (sd HB.out);refine start_ (n:=19) (S:=fun w' => w'.cell? ⟨gb367,0,none⟩ = some (.int .i64 a0_0) ∧ w'.cell? ⟨gb367,1,none⟩ = some (.int .i64 a0_1) ∧ w'.cell? ⟨gb367,2,none⟩ = some (.int .i64 a0_2) ∧ w'.cell? ⟨gb367,3,none⟩ = some (.int .i64 a0_3) ∧ w'.cell? ⟨gb367,4,none⟩ = some (.int .i64 a0_4) ∧ w'.cell? ⟨gb367,5,none⟩ = some (.int .i64 a0_5) ∧ w'.cell? ⟨gb369,0,none⟩ = some (.int .i64 (wrap64 (a0_0 + (wrap64 (2 * (wrap64 (a3))))))) ∧ w'.cell? ⟨gb369,1,none⟩ = some (.int .i64 (wrap64 (a0_1 + (wrap64 (2 * (wrap64 (a4))))))) ∧ w'.cell? ⟨gb369,2,none⟩ = some (.int .i64 (wrap64 (a0_2 + (wrap64 (2 * (wrap64 (a3))))))) ∧ w'.cell? ⟨gb369,3,none⟩ = some (.int .i64 (wrap64 (a0_3 + (wrap64 (2 * (wrap64 (a4))))))) ∧ w'.cell? ⟨gb369,4,none⟩ = some (.int .i64 a0_4) ∧ w'.cell? ⟨gb369,5,none⟩ = some (.int .i64 a0_5) ∧ w'.cell? ⟨gb368,0,none⟩ = some (.int .i64 (wrap64 (2 * (wrap64 (a3))))) ∧ w'.cell? ⟨gb368,1,none⟩ = some (.int .i64 (wrap64 (2 * (wrap64 (a4)))))) (ds:=[]) #[false,false,false,false,false,false,false,false,false,false,false,false,false,false,false,false,false,false,false] (by kernel_rfl) rfl rfl ⟨(bc BK367.out 0).trans rfl,(bc BK367.out 1).trans rfl,(bc BK367.out 2).trans rfl,(bc BK367.out 3).trans rfl,(bc BK367.out 4).trans rfl,(bc BK367.out 5).trans rfl,(bc BK369.out 0).trans rfl,(bc BK369.out 1).trans rfl,(bc BK369.out 2).trans rfl,(bc BK369.out 3).trans rfl,(bc BK369.out 4).trans rfl,(bc BK369.out 5).trans rfl,(bc BK368.out 0).trans rfl,(bc BK368.out 1).trans rfl⟩ (fun hHeld => ?_);refine with_tabW celluloidlaw18_StrokeShifts.tab6 celluloidlaw18_StrokeShifts.bits6 (fun HT_ HW_ => ?_);generalize wc.drew = w74 at BK367 BK368 BK369 HB hHeld ⊢;refine pure_ (i:=1) (N:=some 77) (v:=?_) (a':=?_) #[false,true,false,false,false,false,false,false,false,false,false,false,false,false,false,false,false,false,false] rfl rfl (any_of HT_.out (by kernel_rfl)) (fun _ _ _ h => h) (Or.inl ⟨by rfl,?_⟩) ?_ ?_
          rotate_left
          · intro w'
            go_simp
            with_reducible rfl
          rotate_left
          · simp only [Act.put,q1,q2,q3,i64_w,i32_w]
            rfl
          refine pure_ (i:=2) (N:=some 78) (v:=?_) (a':=?_) #[false,true,true,false,false,false,false,false,false,false,false,false,false,false,false,false,false,false,false] rfl rfl (any_of HT_.out (by kernel_rfl)) (fun _ _ _ h => h) (Or.inl ⟨by rfl,?_⟩) ?_ ?_
          rotate_left
          · intro w'
            go_simp
            with_reducible rfl
          rotate_left
          · simp only [Act.put,q1,q2,q3,i64_w,i32_w]
            rfl
          refine pure_ (i:=5) (N:=some 81) (v:=?_) (a':=?_) #[false,true,true,false,false,true,false,false,false,false,false,false,false,false,false,false,false,false,false] rfl rfl (any_of HT_.out (by kernel_rfl)) (fun _ _ _ h => h) (Or.inl ⟨by rfl,?_⟩) ?_ ?_
          rotate_left
          · intro w'
            go_simp
            with_reducible rfl
          rotate_left
          · simp only [Act.put,q1,q2,q3,i64_w,i32_w]
            rfl
          refine pure_ (i:=6) (N:=some 82) (v:=?_) (a':=?_) #[false,true,true,false,false,true,true,false,false,false,false,false,false,false,false,false,false,false,false] rfl rfl (any_of HT_.out (by kernel_rfl)) (fun _ _ _ h => h) (Or.inl ⟨by rfl,?_⟩) ?_ ?_
          rotate_left
          · intro w'
            go_simp
            with_reducible rfl
          rotate_left
          · simp only [Act.put,q1,q2,q3,i64_w,i32_w]
            rfl
          refine pure_ (i:=9) (N:=some 85) (v:=?_) (a':=?_) #[false,true,true,false,false,true,true,false,false,true,false,false,false,false,false,false,false,false,false] rfl rfl (any_of HT_.out (by kernel_rfl)) (fun _ _ _ h => h) (Or.inl ⟨by rfl,?_⟩) ?_ ?_
          rotate_left
          · intro w'
            go_simp
            with_reducible rfl
          rotate_left
          · simp only [Act.put,q1,q2,q3,i64_w,i32_w]
            rfl
          refine pure_ (i:=10) (N:=some 86) (v:=?_) (a':=?_) #[false,true,true,false,false,true,true,false,false,true,true,false,false,false,false,false,false,false,false] rfl rfl (any_of HT_.out (by kernel_rfl)) (fun _ _ _ h => h) (Or.inl ⟨by rfl,?_⟩) ?_ ?_
          rotate_left
          · intro w'
            go_simp
            with_reducible rfl
          rotate_left
          · simp only [Act.put,q1,q2,q3,i64_w,i32_w]
            rfl
          refine take_ (i:=0) (N:=some 76) (v:=?_) (a':=?_) #[true,true,true,false,false,true,true,false,false,true,true,false,false,false,false,false,false,false,false] rfl rfl (take_ofW HT_.out HW_.out (by kernel_rfl)) (fun _ _ _ h => h) (Or.inl ⟨by rfl,?_⟩) hHeld ?_ ?_
          rotate_left
          · rintro w' ⟨s0,s1,s2,s3,s4,s5,s6,s7,s8,s9,s10,s11,s12,s13⟩
            go_simp
            with_reducible rfl
          rotate_left
          · simp only [Act.put,q1,q2,q3,i64_w,i32_w]
            rfl
          refine take_ (i:=4) (N:=some 80) (v:=?_) (a':=?_) #[true,true,true,false,true,true,true,false,false,true,true,false,false,false,false,false,false,false,false] rfl rfl (take_ofW HT_.out HW_.out (by kernel_rfl)) (fun _ _ _ h => h) (Or.inl ⟨by rfl,?_⟩) hHeld ?_ ?_
          rotate_left
          · rintro w' ⟨s0,s1,s2,s3,s4,s5,s6,s7,s8,s9,s10,s11,s12,s13⟩
            go_simp
            with_reducible rfl
          rotate_left
          · simp only [Act.put,q1,q2,q3,i64_w,i32_w]
            rfl
          refine take_ (i:=7) (N:=some 83) (v:=?_) (a':=?_) #[true,true,true,false,true,true,true,true,false,true,true,false,false,false,false,false,false,false,false] rfl rfl (take_ofW HT_.out HW_.out (by kernel_rfl)) (fun _ _ _ h => h) (Or.inl ⟨by rfl,?_⟩) hHeld ?_ ?_
          rotate_left
          · rintro w' ⟨s0,s1,s2,s3,s4,s5,s6,s7,s8,s9,s10,s11,s12,s13⟩
            go_simp
            with_reducible rfl
          rotate_left
          · simp only [Act.put,q1,q2,q3,i64_w,i32_w]
            rfl
          refine pure_ (i:=8) (N:=some 84) (v:=?_) (a':=?_) #[true,true,true,false,true,true,true,true,true,true,true,false,false,false,false,false,false,false,false] rfl rfl (any_of HT_.out (by kernel_rfl)) (fun _ _ _ h => h) (Or.inl ⟨by rfl,?_⟩) ?_ ?_
          rotate_left
          · intro w'
            go_simp
            with_reducible rfl
          rotate_left
          · simp only [Act.put,q1,q2,q3,i64_w,i32_w]
            rfl
          refine take_ (i:=11) (N:=some 87) (v:=?_) (a':=?_) #[true,true,true,false,true,true,true,true,true,true,true,true,false,false,false,false,false,false,false] rfl rfl (take_ofW HT_.out HW_.out (by kernel_rfl)) (fun _ _ _ h => h) (Or.inl ⟨by rfl,?_⟩) hHeld ?_ ?_
          rotate_left
          · rintro w' ⟨s0,s1,s2,s3,s4,s5,s6,s7,s8,s9,s10,s11,s12,s13⟩
            go_simp
            with_reducible rfl
          rotate_left
          · simp only [Act.put,q1,q2,q3,i64_w,i32_w]
            rfl
          refine pure_ (i:=12) (N:=some 88) (v:=?_) (a':=?_) #[true,true,true,false,true,true,true,true,true,true,true,true,true,false,false,false,false,false,false] rfl rfl (any_of HT_.out (by kernel_rfl)) (fun _ _ _ h => h) (Or.inl ⟨by rfl,?_⟩) ?_ ?_
          rotate_left
          · intro w'
            go_simp
            with_reducible rfl
          rotate_left
          · simp only [Act.put,q1,q2,q3,i64_w,i32_w]
            rfl
          refine one_ (i:=3) (N:=some 79) #[true,true,true,true,true,true,true,true,true,true,true,true,true,false,false,false,false,false,false] rfl rfl (one_of HT_.out (by kernel_rfl)) (by decide) (fun K hK => ?_);refine goes_ Try.func15 (by kernel_rfl) rfl #[.agg #[.int .i64 a0_0,.int .i64 a0_1,.int .i64 a0_2,.int .i64 a0_3,.int .i64 a0_4,.int .i64 a0_5],.int .i64 a1,.int .i64 a2] (by rfl) rfl rfl (by (try simp only [List.map_toArray,List.map_cons,List.map_nil]);first|done|rfl|(simp only [List.length_drop,List.length_take];rfl)) ?_
          with_reducible refine (stroke_Near.calls a0_0 a0_1 a0_2 a0_3 a0_4 a0_5 a1 a2 t387 _ A70.out).mono ?_
          rintro e w75 ⟨rfl,hb⟩
          refine ⟨_,rfl,?_⟩;replace BK367:=am (bw (by exact BK367.out) hb);replace BK368:=am (bw (by exact BK368.out) hb);replace BK369:=am (bw (by exact BK369.out) hb);replace HB:=am (ss (by repeat (first|(with_reducible first|exact HB.out|apply sa|apply sn|apply sd|refine sy ?_ (by assumption))|exact HB.out)) hb);(try clear hb);(try clear hb2);(try clear hk);(try clear hi);refine hK.out _ _ ⟨(bc BK367.out 0).trans rfl,(bc BK367.out 1).trans rfl,(bc BK367.out 2).trans rfl,(bc BK367.out 3).trans rfl,(bc BK367.out 4).trans rfl,(bc BK367.out 5).trans rfl,(bc BK369.out 0).trans rfl,(bc BK369.out 1).trans rfl,(bc BK369.out 2).trans rfl,(bc BK369.out 3).trans rfl,(bc BK369.out 4).trans rfl,(bc BK369.out 5).trans rfl,(bc BK368.out 0).trans rfl,(bc BK368.out 1).trans rfl⟩ (fun hHeld => ?_);clear hK K;refine norm_ (a':=?_) ?_ ?_
          rotate_left
          · show Act.put _ (some 79) _ = _
            simp only [Act.put,q1,q2,q3,i64_w,i32_w]
            rfl
          refine one_ (i:=13) (N:=some 89) #[true,true,true,true,true,true,true,true,true,true,true,true,true,true,false,false,false,false,false] rfl rfl (one_of HT_.out (by kernel_rfl)) (by decide) (fun K hK => ?_);refine goes_ Try.func15 (by kernel_rfl) rfl #[.agg #[.int .i64 (wrap64 (a0_0 + (wrap64 (2 * (wrap64 (a3)))))),.int .i64 (wrap64 (a0_1 + (wrap64 (2 * (wrap64 (a4)))))),.int .i64 (wrap64 (a0_2 + (wrap64 (2 * (wrap64 (a3)))))),.int .i64 (wrap64 (a0_3 + (wrap64 (2 * (wrap64 (a4)))))),.int .i64 a0_4,.int .i64 a0_5],.int .i64 (wrap64 (a1 + (wrap64 (2 * (wrap64 (a3)))))),.int .i64 (wrap64 (a2 + (wrap64 (2 * (wrap64 (a4))))))] (by rfl) rfl rfl (by (try simp only [List.map_toArray,List.map_cons,List.map_nil]);first|done|rfl|(simp only [List.length_drop,List.length_take];rfl)) ?_
          with_reducible refine (stroke_Near.calls (wrap64 (a0_0 + (wrap64 (2 * (wrap64 (a3)))))) (wrap64 (a0_1 + (wrap64 (2 * (wrap64 (a4)))))) (wrap64 (a0_2 + (wrap64 (2 * (wrap64 (a3)))))) (wrap64 (a0_3 + (wrap64 (2 * (wrap64 (a4)))))) a0_4 a0_5 (wrap64 (a1 + (wrap64 (2 * (wrap64 (a3)))))) (wrap64 (a2 + (wrap64 (2 * (wrap64 (a4)))))) t388 _ A71.out).mono ?_
          rintro e w76 ⟨rfl,hb⟩
          refine ⟨_,rfl,?_⟩;replace BK367:=am (bw (by exact BK367.out) hb);replace BK368:=am (bw (by exact BK368.out) hb);replace BK369:=am (bw (by exact BK369.out) hb);replace HB:=am (ss (by repeat (first|(with_reducible first|exact HB.out|apply sa|apply sn|apply sd|refine sy ?_ (by assumption))|exact HB.out)) hb);(try clear hb);(try clear hb2);(try clear hk);(try clear hi);refine hK.out _ _ ⟨(bc BK367.out 0).trans rfl,(bc BK367.out 1).trans rfl,(bc BK367.out 2).trans rfl,(bc BK367.out 3).trans rfl,(bc BK367.out 4).trans rfl,(bc BK367.out 5).trans rfl,(bc BK369.out 0).trans rfl,(bc BK369.out 1).trans rfl,(bc BK369.out 2).trans rfl,(bc BK369.out 3).trans rfl,(bc BK369.out 4).trans rfl,(bc BK369.out 5).trans rfl,(bc BK368.out 0).trans rfl,(bc BK368.out 1).trans rfl⟩ (fun hHeld => ?_);clear hK K;refine norm_ (a':=?_) ?_ ?_
          rotate_left
          · show Act.put _ (some 89) _ = _
            simp only [Act.put,q1,q2,q3,i64_w,i32_w]
            rfl
          refine pure_ (i:=14) (N:=some 90) (v:=?_) (a':=?_) #[true,true,true,true,true,true,true,true,true,true,true,true,true,true,true,false,false,false,false] rfl rfl (any_of HT_.out (by kernel_rfl)) (fun _ _ _ h => h) (Or.inl ⟨by rfl,?_⟩) ?_ ?_
          rotate_left
          · intro w'
            go_simp
            with_reducible rfl
          rotate_left
          · simp only [Act.put,q1,q2,q3,i64_w,i32_w]
            rfl
          refine pure_ (i:=15) (N:=some 91) (v:=?_) (a':=?_) #[true,true,true,true,true,true,true,true,true,true,true,true,true,true,true,true,false,false,false] rfl rfl (any_of HT_.out (by kernel_rfl)) (fun _ _ _ h => h) (Or.inl ⟨by rfl,?_⟩) ?_ ?_
          rotate_left
          · intro w'
            go_simp
            with_reducible rfl
          rotate_left
          · simp only [Act.put,q1,q2,q3,i64_w,i32_w]
            rfl
          refine one_ (i:=16) (N:=some 92) #[true,true,true,true,true,true,true,true,true,true,true,true,true,true,true,true,true,false,false] rfl rfl (one_of HT_.out (by kernel_rfl)) (by decide) (fun K hK => ?_);refine goes_ Try.func16 (by kernel_rfl) rfl #[] (by rfl) rfl rfl (by (try simp only [List.map_toArray,List.map_cons,List.map_nil]);first|done|rfl|(simp only [List.length_drop,List.length_take];rfl)) ?_
          with_reducible refine (celluloidlaw18_awake.calls kj5  t389 _ A73.out).mono ?_
          rintro e w77 ⟨rfl,hb⟩
          refine ⟨_,rfl,?_⟩;replace BK367:=am (bw (by exact BK367.out) hb);replace BK368:=am (bw (by exact BK368.out) hb);replace BK369:=am (bw (by exact BK369.out) hb);replace HB:=am (ss (by repeat (first|(with_reducible first|exact HB.out|apply sa|apply sn|apply sd|refine sy ?_ (by assumption))|exact HB.out)) hb);(try clear hb);(try clear hb2);(try clear hk);(try clear hi);refine hK.out _ _ ⟨(bc BK367.out 0).trans rfl,(bc BK367.out 1).trans rfl,(bc BK367.out 2).trans rfl,(bc BK367.out 3).trans rfl,(bc BK367.out 4).trans rfl,(bc BK367.out 5).trans rfl,(bc BK369.out 0).trans rfl,(bc BK369.out 1).trans rfl,(bc BK369.out 2).trans rfl,(bc BK369.out 3).trans rfl,(bc BK369.out 4).trans rfl,(bc BK369.out 5).trans rfl,(bc BK368.out 0).trans rfl,(bc BK368.out 1).trans rfl⟩ (fun hHeld => ?_);clear hK K;refine norm_ (a':=?_) ?_ ?_
          rotate_left
          · show Act.put _ (some 92) _ = _
            simp only [Act.put,q1,q2,q3,i64_w,i32_w]
            rfl
          refine pure_ (i:=17) (N:=some 93) (v:=?_) (a':=?_) #[true,true,true,true,true,true,true,true,true,true,true,true,true,true,true,true,true,true,false] rfl rfl (any_of HT_.out (by kernel_rfl)) (fun _ _ _ h => h) (Or.inl ⟨by rfl,?_⟩) ?_ ?_
          rotate_left
          · intro w'
            go_simp
            with_reducible rfl
          rotate_left
          · simp only [Act.put,q1,q2,q3,i64_w,i32_w]
            rfl
          refine pure_ (i:=18) (N:=some 10) (v:=?_) (a':=?_) #[true,true,true,true,true,true,true,true,true,true,true,true,true,true,true,true,true,true,true] rfl rfl (any_of HT_.out (by kernel_rfl)) (fun _ _ _ h => h) (Or.inl ⟨by rfl,?_⟩) ?_ ?_
          rotate_left
          · intro w'
            go_simp
            with_reducible rfl
          rotate_left
          · simp only [Act.put,q1,q2,q3,i64_w,i32_w]
            rfl
          refine done_ (done_of HT_.out (by kernel_rfl)) ?_
          try go_wp2
          go_ret
          exact ⟨by first|rfl|(simp [errW_none,errW_some] <;> rfl)|(simp [*,errW_none,errW_some] <;> rfl),by repeat (first|(with_reducible first|exact HB.out|apply sa|apply sn|apply sd|refine sy ?_ (by assumption))|exact HB.out)⟩
        · rw [if_neg c72] at H
          have c72b0 : (t387 == t388) = false:=by simpa using c72
          (try (have c72b1 : decide (t387 = t388) = false:=by simpa using c72))
          (try (have c72b2 : (t387 == t388) = false:=by simpa using c72))
          (try (have c72b3 : ¬ (t387 = t388):=by simpa using c72))
          clear c72;obtain rfl:=Option.some.inj H
          try go_wp2
          replace BK367:=am (bd BK367.out);replace BK368:=am (bd BK368.out);replace BK369:=am (bd BK369.out);replace HB:=am (sd HB.out);refine start_ (n:=19) (S:=fun w' => w'.cell? ⟨gb367,0,none⟩ = some (.int .i64 a0_0) ∧ w'.cell? ⟨gb367,1,none⟩ = some (.int .i64 a0_1) ∧ w'.cell? ⟨gb367,2,none⟩ = some (.int .i64 a0_2) ∧ w'.cell? ⟨gb367,3,none⟩ = some (.int .i64 a0_3) ∧ w'.cell? ⟨gb367,4,none⟩ = some (.int .i64 a0_4) ∧ w'.cell? ⟨gb367,5,none⟩ = some (.int .i64 a0_5) ∧ w'.cell? ⟨gb369,0,none⟩ = some (.int .i64 (wrap64 (a0_0 + (wrap64 (2 * (wrap64 (a3))))))) ∧ w'.cell? ⟨gb369,1,none⟩ = some (.int .i64 (wrap64 (a0_1 + (wrap64 (2 * (wrap64 (a4))))))) ∧ w'.cell? ⟨gb369,2,none⟩ = some (.int .i64 (wrap64 (a0_2 + (wrap64 (2 * (wrap64 (a3))))))) ∧ w'.cell? ⟨gb369,3,none⟩ = some (.int .i64 (wrap64 (a0_3 + (wrap64 (2 * (wrap64 (a4))))))) ∧ w'.cell? ⟨gb369,4,none⟩ = some (.int .i64 a0_4) ∧ w'.cell? ⟨gb369,5,none⟩ = some (.int .i64 a0_5) ∧ w'.cell? ⟨gb368,0,none⟩ = some (.int .i64 (wrap64 (2 * (wrap64 (a3))))) ∧ w'.cell? ⟨gb368,1,none⟩ = some (.int .i64 (wrap64 (2 * (wrap64 (a4)))))) (ds:=[]) #[false,false,false,false,false,false,false,false,false,false,false,false,false,false,false,false,false,false,false] (by kernel_rfl) rfl rfl ⟨(bc BK367.out 0).trans rfl,(bc BK367.out 1).trans rfl,(bc BK367.out 2).trans rfl,(bc BK367.out 3).trans rfl,(bc BK367.out 4).trans rfl,(bc BK367.out 5).trans rfl,(bc BK369.out 0).trans rfl,(bc BK369.out 1).trans rfl,(bc BK369.out 2).trans rfl,(bc BK369.out 3).trans rfl,(bc BK369.out 4).trans rfl,(bc BK369.out 5).trans rfl,(bc BK368.out 0).trans rfl,(bc BK368.out 1).trans rfl⟩ (fun hHeld => ?_);refine with_tabW celluloidlaw18_StrokeShifts.tab6 celluloidlaw18_StrokeShifts.bits6 (fun HT_ HW_ => ?_);generalize wc.drew = w78 at BK367 BK368 BK369 HB hHeld ⊢;refine pure_ (i:=1) (N:=some 77) (v:=?_) (a':=?_) #[false,true,false,false,false,false,false,false,false,false,false,false,false,false,false,false,false,false,false] rfl rfl (any_of HT_.out (by kernel_rfl)) (fun _ _ _ h => h) (Or.inl ⟨by rfl,?_⟩) ?_ ?_
          rotate_left
          · intro w'
            go_simp
            with_reducible rfl
          rotate_left
          · simp only [Act.put,q1,q2,q3,i64_w,i32_w]
            rfl
          refine pure_ (i:=2) (N:=some 78) (v:=?_) (a':=?_) #[false,true,true,false,false,false,false,false,false,false,false,false,false,false,false,false,false,false,false] rfl rfl (any_of HT_.out (by kernel_rfl)) (fun _ _ _ h => h) (Or.inl ⟨by rfl,?_⟩) ?_ ?_
          rotate_left
          · intro w'
            go_simp
            with_reducible rfl
          rotate_left
          · simp only [Act.put,q1,q2,q3,i64_w,i32_w]
            rfl
          refine pure_ (i:=5) (N:=some 81) (v:=?_) (a':=?_) #[false,true,true,false,false,true,false,false,false,false,false,false,false,false,false,false,false,false,false] rfl rfl (any_of HT_.out (by kernel_rfl)) (fun _ _ _ h => h) (Or.inl ⟨by rfl,?_⟩) ?_ ?_
          rotate_left
          · intro w'
            go_simp
            with_reducible rfl
          rotate_left
          · simp only [Act.put,q1,q2,q3,i64_w,i32_w]
            rfl
          refine pure_ (i:=6) (N:=some 82) (v:=?_) (a':=?_) #[false,true,true,false,false,true,true,false,false,false,false,false,false,false,false,false,false,false,false] rfl rfl (any_of HT_.out (by kernel_rfl)) (fun _ _ _ h => h) (Or.inl ⟨by rfl,?_⟩) ?_ ?_
          rotate_left
          · intro w'
            go_simp
            with_reducible rfl
          rotate_left
          · simp only [Act.put,q1,q2,q3,i64_w,i32_w]
            rfl
          refine pure_ (i:=9) (N:=some 85) (v:=?_) (a':=?_) #[false,true,true,false,false,true,true,false,false,true,false,false,false,false,false,false,false,false,false] rfl rfl (any_of HT_.out (by kernel_rfl)) (fun _ _ _ h => h) (Or.inl ⟨by rfl,?_⟩) ?_ ?_
          rotate_left
          · intro w'
            go_simp
            with_reducible rfl
          rotate_left
          · simp only [Act.put,q1,q2,q3,i64_w,i32_w]
            rfl
          refine pure_ (i:=10) (N:=some 86) (v:=?_) (a':=?_) #[false,true,true,false,false,true,true,false,false,true,true,false,false,false,false,false,false,false,false] rfl rfl (any_of HT_.out (by kernel_rfl)) (fun _ _ _ h => h) (Or.inl ⟨by rfl,?_⟩) ?_ ?_
          rotate_left
          · intro w'
            go_simp
            with_reducible rfl
          rotate_left
          · simp only [Act.put,q1,q2,q3,i64_w,i32_w]
            rfl
          refine take_ (i:=0) (N:=some 76) (v:=?_) (a':=?_) #[true,true,true,false,false,true,true,false,false,true,true,false,false,false,false,false,false,false,false] rfl rfl (take_ofW HT_.out HW_.out (by kernel_rfl)) (fun _ _ _ h => h) (Or.inl ⟨by rfl,?_⟩) hHeld ?_ ?_
          rotate_left
          · rintro w' ⟨s0,s1,s2,s3,s4,s5,s6,s7,s8,s9,s10,s11,s12,s13⟩
            go_simp
            with_reducible rfl
          rotate_left
          · simp only [Act.put,q1,q2,q3,i64_w,i32_w]
            rfl
          refine take_ (i:=4) (N:=some 80) (v:=?_) (a':=?_) #[true,true,true,false,true,true,true,false,false,true,true,false,false,false,false,false,false,false,false] rfl rfl (take_ofW HT_.out HW_.out (by kernel_rfl)) (fun _ _ _ h => h) (Or.inl ⟨by rfl,?_⟩) hHeld ?_ ?_
          rotate_left
          · rintro w' ⟨s0,s1,s2,s3,s4,s5,s6,s7,s8,s9,s10,s11,s12,s13⟩
            go_simp
            with_reducible rfl
          rotate_left
          · simp only [Act.put,q1,q2,q3,i64_w,i32_w]
            rfl
          refine take_ (i:=7) (N:=some 83) (v:=?_) (a':=?_) #[true,true,true,false,true,true,true,true,false,true,true,false,false,false,false,false,false,false,false] rfl rfl (take_ofW HT_.out HW_.out (by kernel_rfl)) (fun _ _ _ h => h) (Or.inl ⟨by rfl,?_⟩) hHeld ?_ ?_
          rotate_left
          · rintro w' ⟨s0,s1,s2,s3,s4,s5,s6,s7,s8,s9,s10,s11,s12,s13⟩
            go_simp
            with_reducible rfl
          rotate_left
          · simp only [Act.put,q1,q2,q3,i64_w,i32_w]
            rfl
          refine pure_ (i:=8) (N:=some 84) (v:=?_) (a':=?_) #[true,true,true,false,true,true,true,true,true,true,true,false,false,false,false,false,false,false,false] rfl rfl (any_of HT_.out (by kernel_rfl)) (fun _ _ _ h => h) (Or.inl ⟨by rfl,?_⟩) ?_ ?_
          rotate_left
          · intro w'
            go_simp
            with_reducible rfl
          rotate_left
          · simp only [Act.put,q1,q2,q3,i64_w,i32_w]
            rfl
          refine take_ (i:=11) (N:=some 87) (v:=?_) (a':=?_) #[true,true,true,false,true,true,true,true,true,true,true,true,false,false,false,false,false,false,false] rfl rfl (take_ofW HT_.out HW_.out (by kernel_rfl)) (fun _ _ _ h => h) (Or.inl ⟨by rfl,?_⟩) hHeld ?_ ?_
          rotate_left
          · rintro w' ⟨s0,s1,s2,s3,s4,s5,s6,s7,s8,s9,s10,s11,s12,s13⟩
            go_simp
            with_reducible rfl
          rotate_left
          · simp only [Act.put,q1,q2,q3,i64_w,i32_w]
            rfl
          refine pure_ (i:=12) (N:=some 88) (v:=?_) (a':=?_) #[true,true,true,false,true,true,true,true,true,true,true,true,true,false,false,false,false,false,false] rfl rfl (any_of HT_.out (by kernel_rfl)) (fun _ _ _ h => h) (Or.inl ⟨by rfl,?_⟩) ?_ ?_
          rotate_left
          · intro w'
            go_simp
            with_reducible rfl
          rotate_left
          · simp only [Act.put,q1,q2,q3,i64_w,i32_w]
            rfl
          refine one_ (i:=3) (N:=some 79) #[true,true,true,true,true,true,true,true,true,true,true,true,true,false,false,false,false,false,false] rfl rfl (one_of HT_.out (by kernel_rfl)) (by decide) (fun K hK => ?_);refine goes_ Try.func15 (by kernel_rfl) rfl #[.agg #[.int .i64 a0_0,.int .i64 a0_1,.int .i64 a0_2,.int .i64 a0_3,.int .i64 a0_4,.int .i64 a0_5],.int .i64 a1,.int .i64 a2] (by rfl) rfl rfl (by (try simp only [List.map_toArray,List.map_cons,List.map_nil]);first|done|rfl|(simp only [List.length_drop,List.length_take];rfl)) ?_
          with_reducible refine (stroke_Near.calls a0_0 a0_1 a0_2 a0_3 a0_4 a0_5 a1 a2 t387 _ A70.out).mono ?_
          rintro e w79 ⟨rfl,hb⟩
          refine ⟨_,rfl,?_⟩;replace BK367:=am (bw (by exact BK367.out) hb);replace BK368:=am (bw (by exact BK368.out) hb);replace BK369:=am (bw (by exact BK369.out) hb);replace HB:=am (ss (by repeat (first|(with_reducible first|exact HB.out|apply sa|apply sn|apply sd|refine sy ?_ (by assumption))|exact HB.out)) hb);(try clear hb);(try clear hb2);(try clear hk);(try clear hi);refine hK.out _ _ ⟨(bc BK367.out 0).trans rfl,(bc BK367.out 1).trans rfl,(bc BK367.out 2).trans rfl,(bc BK367.out 3).trans rfl,(bc BK367.out 4).trans rfl,(bc BK367.out 5).trans rfl,(bc BK369.out 0).trans rfl,(bc BK369.out 1).trans rfl,(bc BK369.out 2).trans rfl,(bc BK369.out 3).trans rfl,(bc BK369.out 4).trans rfl,(bc BK369.out 5).trans rfl,(bc BK368.out 0).trans rfl,(bc BK368.out 1).trans rfl⟩ (fun hHeld => ?_);clear hK K;refine norm_ (a':=?_) ?_ ?_
          rotate_left
          · show Act.put _ (some 79) _ = _
            simp only [Act.put,q1,q2,q3,i64_w,i32_w]
            rfl
          refine one_ (i:=13) (N:=some 89) #[true,true,true,true,true,true,true,true,true,true,true,true,true,true,false,false,false,false,false] rfl rfl (one_of HT_.out (by kernel_rfl)) (by decide) (fun K hK => ?_);refine goes_ Try.func15 (by kernel_rfl) rfl #[.agg #[.int .i64 (wrap64 (a0_0 + (wrap64 (2 * (wrap64 (a3)))))),.int .i64 (wrap64 (a0_1 + (wrap64 (2 * (wrap64 (a4)))))),.int .i64 (wrap64 (a0_2 + (wrap64 (2 * (wrap64 (a3)))))),.int .i64 (wrap64 (a0_3 + (wrap64 (2 * (wrap64 (a4)))))),.int .i64 a0_4,.int .i64 a0_5],.int .i64 (wrap64 (a1 + (wrap64 (2 * (wrap64 (a3)))))),.int .i64 (wrap64 (a2 + (wrap64 (2 * (wrap64 (a4))))))] (by rfl) rfl rfl (by (try simp only [List.map_toArray,List.map_cons,List.map_nil]);first|done|rfl|(simp only [List.length_drop,List.length_take];rfl)) ?_
          with_reducible refine (stroke_Near.calls (wrap64 (a0_0 + (wrap64 (2 * (wrap64 (a3)))))) (wrap64 (a0_1 + (wrap64 (2 * (wrap64 (a4)))))) (wrap64 (a0_2 + (wrap64 (2 * (wrap64 (a3)))))) (wrap64 (a0_3 + (wrap64 (2 * (wrap64 (a4)))))) a0_4 a0_5 (wrap64 (a1 + (wrap64 (2 * (wrap64 (a3)))))) (wrap64 (a2 + (wrap64 (2 * (wrap64 (a4)))))) t388 _ A71.out).mono ?_
          rintro e w80 ⟨rfl,hb⟩
          refine ⟨_,rfl,?_⟩;replace BK367:=am (bw (by exact BK367.out) hb);replace BK368:=am (bw (by exact BK368.out) hb);replace BK369:=am (bw (by exact BK369.out) hb);replace HB:=am (ss (by repeat (first|(with_reducible first|exact HB.out|apply sa|apply sn|apply sd|refine sy ?_ (by assumption))|exact HB.out)) hb);(try clear hb);(try clear hb2);(try clear hk);(try clear hi);refine hK.out _ _ ⟨(bc BK367.out 0).trans rfl,(bc BK367.out 1).trans rfl,(bc BK367.out 2).trans rfl,(bc BK367.out 3).trans rfl,(bc BK367.out 4).trans rfl,(bc BK367.out 5).trans rfl,(bc BK369.out 0).trans rfl,(bc BK369.out 1).trans rfl,(bc BK369.out 2).trans rfl,(bc BK369.out 3).trans rfl,(bc BK369.out 4).trans rfl,(bc BK369.out 5).trans rfl,(bc BK368.out 0).trans rfl,(bc BK368.out 1).trans rfl⟩ (fun hHeld => ?_);clear hK K;refine norm_ (a':=?_) ?_ ?_
          rotate_left
          · show Act.put _ (some 89) _ = _
            simp only [Act.put,q1,q2,q3,i64_w,i32_w]
            rfl
          refine pure_ (i:=14) (N:=some 90) (v:=?_) (a':=?_) #[true,true,true,true,true,true,true,true,true,true,true,true,true,true,true,false,false,false,false] rfl rfl (any_of HT_.out (by kernel_rfl)) (fun _ _ _ h => h) (Or.inl ⟨by rfl,?_⟩) ?_ ?_
          rotate_left
          · intro w'
            go_simp
            with_reducible rfl
          rotate_left
          · simp only [Act.put,q1,q2,q3,i64_w,i32_w]
            rfl
          refine pure_ (i:=15) (N:=some 91) (v:=?_) (a':=?_) #[true,true,true,true,true,true,true,true,true,true,true,true,true,true,true,true,false,false,false] rfl rfl (any_of HT_.out (by kernel_rfl)) (fun _ _ _ h => h) (Or.inl ⟨by rfl,?_⟩) ?_ ?_
          rotate_left
          · intro w'
            go_simp
            with_reducible rfl
          rotate_left
          · simp only [Act.put,q1,q2,q3,i64_w,i32_w]
            rfl
          refine pure_ (i:=16) (N:=some 92) (v:=undef) (a':=?_) #[true,true,true,true,true,true,true,true,true,true,true,true,true,true,true,true,true,false,false] rfl rfl (any_of HT_.out (by kernel_rfl)) (fun _ _ _ h => h) (Or.inr ⟨by rfl,rfl⟩) ?_ ?_
          rotate_left
          · simp only [Act.put,q1,q2,q3,i64_w,i32_w]
            rfl
          refine pure_ (i:=17) (N:=some 93) (v:=?_) (a':=?_) #[true,true,true,true,true,true,true,true,true,true,true,true,true,true,true,true,true,true,false] rfl rfl (any_of HT_.out (by kernel_rfl)) (fun _ _ _ h => h) (Or.inl ⟨by rfl,?_⟩) ?_ ?_
          rotate_left
          · intro w'
            go_simp
            with_reducible rfl
          rotate_left
          · simp only [Act.put,q1,q2,q3,i64_w,i32_w]
            rfl
          refine pure_ (i:=18) (N:=some 10) (v:=?_) (a':=?_) #[true,true,true,true,true,true,true,true,true,true,true,true,true,true,true,true,true,true,true] rfl rfl (any_of HT_.out (by kernel_rfl)) (fun _ _ _ h => h) (Or.inl ⟨by rfl,?_⟩) ?_ ?_
          rotate_left
          · intro w'
            go_simp
            with_reducible rfl
          rotate_left
          · simp only [Act.put,q1,q2,q3,i64_w,i32_w]
            rfl
          refine done_ (done_of HT_.out (by kernel_rfl)) ?_
          try go_wp2
          go_ret
          exact ⟨by first|rfl|(simp [errW_none,errW_some] <;> rfl)|(simp [*,errW_none,errW_some] <;> rfl),by repeat (first|(with_reducible first|exact HB.out|apply sa|apply sn|apply sd|refine sy ?_ (by assumption))|exact HB.out)⟩

end Go.Proofs.Ytnofihkmgedbfaa.P
