/- Printed by printx.py (wip/tool) out of the translation: plain functions that tell what the program answers, and the proofs that the program comes to these answers, for all arguments of their kinds. Lean checks it. -/
import Derived.Test.YtnofihkmgedbfaaShort
import Derived.Test.YtnofihkmgedbfaaPx0
import Derived.Test.YtnofihkmgedbfaaPx1
import Derived.Test.YtnofihkmgedbfaaPx3
import Derived.Test.YtnofihkmgedbfaaPx7
namespace Go.Proofs.Ytnofihkmgedbfaa.P
open Go.RowKit Go.Proofs.YtnofihkmgedbfaaW.PrintWords Go.Proofs.YtnofihkmgedbfaaW.PrintLast Go.Proofs.YtnofihkmgedbfaaW.PrintMore
attribute [local go_sem] max2_int min2_int max_two min_two max_three min_three max_four min_four max_five min_five max_six min_six   -- for this text's walks alone
set_option linter.unusedVariables false
set_option linter.unusedSimpArgs false

/-! ### celluloidlaw18_StrokeParts: function 7 -/
def celluloidlaw18_StrokeParts.j0 : Nat → Int → Int → Bool → Int → Int → Int → Int → Int → Int → Int → Int → Option (Bool)
  | 0,_,_,_,_,_,_,_,_,_,_,_ => none
  | k + 1,x1,x2,x68,x340000,x340001,x340002,x340003,x340004,x340005,x341000,x341001 => if x68 = true then ((celluloidlaw18_awake.f k).bind fun t348 => (some t348)) else ((stroke_Near.f x340000 x340001 x340002 x340003 x340004 x340005 x1 x2).bind fun t351 => ((stroke_Near.f x340000 x340001 x341000 x341001 x340004 x340005 x1 x2).bind fun t352 => (if t352 = true then (if (t351 == true) = true then ((celluloidlaw18_awake.f k).bind fun t353 => (some t353)) else (some false)) else ((stroke_Near.f x341000 x341001 x340002 x340003 x340004 x340005 x1 x2).bind fun t354 => (if (t351 == t354) = true then ((celluloidlaw18_awake.f k).bind fun t355 => (some t355)) else (some false))))))
def celluloidlaw18_StrokeParts.f (k : Nat) (a0_0 : Int) (a0_1 : Int) (a0_2 : Int) (a0_3 : Int) (a0_4 : Int) (a0_5 : Int) (a1 : Int) (a2 : Int) : Option (Bool):=(celluloidlaw18_ref.f a0_0 a0_1 a0_2 a0_3 a0_4 a0_5).bind fun bt341 => ((celluloidref18_Right.f k bt341.1 bt341.2.1 bt341.2.2.1 bt341.2.2.2.1 bt341.2.2.2.2.1 bt341.2.2.2.2.2).bind fun t347 => (if t347 = true then (if (wrap64 (2 * (wrap64 (Int.tdiv (wrap64 (a0_0 + a0_2)) 2)))) = (wrap64 (a0_0 + a0_2)) then (if (wrap64 (2 * (wrap64 (Int.tdiv (wrap64 (a0_1 + a0_3)) 2)))) = (wrap64 (a0_1 + a0_3)) then (if (Int.tmod (wrap64 (Int.tdiv (wrap64 (a0_0 + a0_2)) 2)) 2) = 0 then (celluloidlaw18_StrokeParts.j0 k a1 a2 ((Int.tmod (wrap64 (Int.tdiv (wrap64 (a0_1 + a0_3)) 2)) 2) != 0) a0_0 a0_1 a0_2 a0_3 a0_4 a0_5 (wrap64 (Int.tdiv (wrap64 (a0_0 + a0_2)) 2)) (wrap64 (Int.tdiv (wrap64 (a0_1 + a0_3)) 2))) else (celluloidlaw18_StrokeParts.j0 k a1 a2 true a0_0 a0_1 a0_2 a0_3 a0_4 a0_5 (wrap64 (Int.tdiv (wrap64 (a0_0 + a0_2)) 2)) (wrap64 (Int.tdiv (wrap64 (a0_1 + a0_3)) 2)))) else (celluloidlaw18_StrokeParts.j0 k a1 a2 true a0_0 a0_1 a0_2 a0_3 a0_4 a0_5 (wrap64 (Int.tdiv (wrap64 (a0_0 + a0_2)) 2)) (wrap64 (Int.tdiv (wrap64 (a0_1 + a0_3)) 2)))) else (celluloidlaw18_StrokeParts.j0 k a1 a2 true a0_0 a0_1 a0_2 a0_3 a0_4 a0_5 (wrap64 (Int.tdiv (wrap64 (a0_0 + a0_2)) 2)) (wrap64 (Int.tdiv (wrap64 (a0_1 + a0_3)) 2)))) else (celluloidlaw18_StrokeParts.j0 k a1 a2 true a0_0 a0_1 a0_2 a0_3 a0_4 a0_5 (wrap64 (Int.tdiv (wrap64 (a0_0 + a0_2)) 2)) (wrap64 (Int.tdiv (wrap64 (a0_1 + a0_3)) 2)))))
theorem celluloidlaw18_StrokeParts.mono_l : ∀ k,(∀ y0 y1 y2 y3 y4 y5 y6 y7 y8 y9 y10,LeO (celluloidlaw18_StrokeParts.j0 k y0 y1 y2 y3 y4 y5 y6 y7 y8 y9 y10) (celluloidlaw18_StrokeParts.j0 (k + 1) y0 y1 y2 y3 y4 y5 y6 y7 y8 y9 y10))
  | 0 => fun _ _ _ _ _ _ _ _ _ _ _ r h => by simp [celluloidlaw18_StrokeParts.j0] at h
  | k + 1 => by
    have ih0:=celluloidlaw18_StrokeParts.mono_l k
    · intro y0 y1 y2 y3 y4 y5 y6 y7 y8 y9 y10
      unfold celluloidlaw18_StrokeParts.j0
      repeat' first
      | (with_reducible exact ih0 _ _ _ _ _ _ _ _ _ _ _)
      | (with_reducible exact celluloidlaw18_awake.mono _)
      | (with_reducible exact celluloidref18_Right.mono _ _ _ _ _ _ _)
      | (with_reducible exact LeO.refl _)
      | (with_reducible exact LeO.none _)
      | (with_reducible refine LeO.ite ?_ ?_)
      | (with_reducible refine LeO.bind ?_ (fun _ => ?_))
      | exact ih0 _ _ _ _ _ _ _ _ _ _ _
      | exact celluloidlaw18_awake.mono _
      | exact celluloidref18_Right.mono _ _ _ _ _ _ _
      | exact LeO.none _
      | refine LeO.ite ?_ ?_
      | refine LeO.bind ?_ (fun _ => ?_)
theorem celluloidlaw18_StrokeParts.mono : ∀ a0 a1 a2 a3 a4 a5 a6 a7 k,LeO (celluloidlaw18_StrokeParts.f k a0 a1 a2 a3 a4 a5 a6 a7) (celluloidlaw18_StrokeParts.f (k + 1) a0 a1 a2 a3 a4 a5 a6 a7):=by
  intro a0 a1 a2 a3 a4 a5 a6 a7 k
  have ih0:=celluloidlaw18_StrokeParts.mono_l k
  unfold celluloidlaw18_StrokeParts.f
  repeat' first
      | (with_reducible exact ih0 _ _ _ _ _ _ _ _ _ _ _)
      | (with_reducible exact celluloidlaw18_awake.mono _)
      | (with_reducible exact celluloidref18_Right.mono _ _ _ _ _ _ _)
      | (with_reducible exact LeO.refl _)
      | (with_reducible exact LeO.none _)
      | (with_reducible refine LeO.ite ?_ ?_)
      | (with_reducible refine LeO.bind ?_ (fun _ => ?_))
      | exact ih0 _ _ _ _ _ _ _ _ _ _ _
      | exact celluloidlaw18_awake.mono _
      | exact celluloidref18_Right.mono _ _ _ _ _ _ _
      | exact LeO.none _
      | refine LeO.ite ?_ ?_
      | refine LeO.bind ?_ (fun _ => ?_)
def celluloidlaw18_StrokeParts.T6 : Bool × List (List Nat × List Nat):=(true,[([],[]),([],[]),([],[]),([0,1,2],[0,1,2]),([],[]),([],[]),([],[]),([4,5,6,3],[4,5,6]),([7,7],[7]),([8],[8]),([8],[8]),([8],[8]),([9,10,11,8,8],[8,9,10,11]),([8,12],[8,12]),([3,13],[3,13]),([14,12],[14]),([15,15],[15]),([15,16],[15,16]),([17,16,0,1,2,3,4,5,6,7,8,9,10,11,12,13,14,15,16,17],[17])])
def celluloidlaw18_StrokeParts.B6 : List Nat:=[0,0,0,7,0,0,0,127,255,511,511,511,4095,8191,16383,32767,65535,131071,262143]
theorem celluloidlaw18_StrokeParts.tab6 : rtab .any (opsOf Try.f7 6) = celluloidlaw18_StrokeParts.T6:=by kernel_rfl
theorem celluloidlaw18_StrokeParts.bits6 : waitsOk celluloidlaw18_StrokeParts.T6.2 celluloidlaw18_StrokeParts.B6 = true:=by kernel_rfl
set_option maxHeartbeats 80000000 in
set_option maxRecDepth 100000 in
theorem celluloidlaw18_StrokeParts.calls (k : Nat) (a0_0 : Int) (a0_1 : Int) (a0_2 : Int) (a0_3 : Int) (a0_4 : Int) (a0_5 : Int) (a1 : Int) (a2 : Int) (r : Bool) (w : World) (h : celluloidlaw18_StrokeParts.f k a0_0 a0_1 a0_2 a0_3 a0_4 a0_5 a1 a2 = some r) :
    Calls Try.prog 7 #[.agg #[.int .i64 a0_0,.int .i64 a0_1,.int .i64 a0_2,.int .i64 a0_3,.int .i64 a0_4,.int .i64 a0_5],.int .i64 a1,.int .i64 a2] w fun e w' => e = .returned (.bool r) ∧ Below w.heap.size w w':=by
  have hu25:=Try.underlying25;have hu23:=Try.underlying23;have HB:=am (Below.refl w.heap.size w);have H : ((celluloidlaw18_ref.f a0_0 a0_1 a0_2 a0_3 a0_4 a0_5).bind fun bt341 => ((celluloidref18_Right.f k bt341.1 bt341.2.1 bt341.2.2.1 bt341.2.2.2.1 bt341.2.2.2.2.1 bt341.2.2.2.2.2).bind fun t347 => (if t347 = true then (if (wrap64 (2 * (wrap64 (Int.tdiv (wrap64 (a0_0 + a0_2)) 2)))) = (wrap64 (a0_0 + a0_2)) then (if (wrap64 (2 * (wrap64 (Int.tdiv (wrap64 (a0_1 + a0_3)) 2)))) = (wrap64 (a0_1 + a0_3)) then (if (Int.tmod (wrap64 (Int.tdiv (wrap64 (a0_0 + a0_2)) 2)) 2) = 0 then (celluloidlaw18_StrokeParts.j0 k a1 a2 ((Int.tmod (wrap64 (Int.tdiv (wrap64 (a0_1 + a0_3)) 2)) 2) != 0) a0_0 a0_1 a0_2 a0_3 a0_4 a0_5 (wrap64 (Int.tdiv (wrap64 (a0_0 + a0_2)) 2)) (wrap64 (Int.tdiv (wrap64 (a0_1 + a0_3)) 2))) else (celluloidlaw18_StrokeParts.j0 k a1 a2 true a0_0 a0_1 a0_2 a0_3 a0_4 a0_5 (wrap64 (Int.tdiv (wrap64 (a0_0 + a0_2)) 2)) (wrap64 (Int.tdiv (wrap64 (a0_1 + a0_3)) 2)))) else (celluloidlaw18_StrokeParts.j0 k a1 a2 true a0_0 a0_1 a0_2 a0_3 a0_4 a0_5 (wrap64 (Int.tdiv (wrap64 (a0_0 + a0_2)) 2)) (wrap64 (Int.tdiv (wrap64 (a0_1 + a0_3)) 2)))) else (celluloidlaw18_StrokeParts.j0 k a1 a2 true a0_0 a0_1 a0_2 a0_3 a0_4 a0_5 (wrap64 (Int.tdiv (wrap64 (a0_0 + a0_2)) 2)) (wrap64 (Int.tdiv (wrap64 (a0_1 + a0_3)) 2)))) else (celluloidlaw18_StrokeParts.j0 k a1 a2 true a0_0 a0_1 a0_2 a0_3 a0_4 a0_5 (wrap64 (Int.tdiv (wrap64 (a0_0 + a0_2)) 2)) (wrap64 (Int.tdiv (wrap64 (a0_1 + a0_3)) 2)))))) = some r:=h;clear h;have HC4:=am H;clear H
  go_enter Try.func7,Try.ntmps7
  go_upto_region 2 with (first|((with_reducible refine gate_dst (N:=3) rfl ?_);refine box_event ?hg (N:=3) ?hd (cs:=#[.int .i64 a0_0,.int .i64 a0_1,.int .i64 a0_2,.int .i64 a0_3,.int .i64 a0_4,.int .i64 a0_5]) (t:=25) ?hr ?_;(case hd => rfl);(case hg => rfl);(case hr => first|(go_simp;done)|(go_simp;rfl));intro gb339 hg w5 hbox hb;have n0_:=am (ss (by repeat (first|(with_reducible first|exact HB.out|apply sa|apply sn|apply sd)|exact HB.out)) hb);have n1_:=am (hbox);have n2_:=am ((by rw [hg];exact (sz (by repeat (first|(with_reducible first|exact HB.out|apply sa|apply sn|apply sd)|exact HB.out))) : w.heap.size ≤ gb339));have n3_:=am ((by rw [hg];exact (sz (by repeat (first|(with_reducible first|exact HB.out|apply sa|apply sn|apply sd)|exact HB.out))) : w.heap.size ≤ gb339));clear HB;have HB:=n0_;have BK339:=n1_;have GW339:=n2_;have GE339:=n3_;clear n0_ n1_ n2_ n3_;clear hb hbox hg;obtain ⟨hcz6_0,hcz6_1,hcz6_2,hcz6_3,hcz6_4,hcz6_5⟩:=cq6 BK339.out;obtain ⟨hfz6_0,hfz6_1,hfz6_2,hfz6_3,hfz6_4,hfz6_5⟩:=fq6 BK339.out)|((with_reducible refine gate_dst (N:=7) rfl ?_);refine box_event ?hg (N:=7) ?hd (cs:=#[.int .i64 0,.int .i64 0]) (t:=23) ?hr ?_;(case hd => rfl);(case hg => rfl);(case hr => first|(go_simp;done)|(go_simp;rfl));intro gb340 hg w7 hbox hb;have n0_:=am (bw (by exact BK339.out) hb);have n1_:=am (ss (by repeat (first|(with_reducible first|exact HB.out|apply sa|apply sn|apply sd|refine sx ?_ GE339.out)|exact HB.out)) hb);have n2_:=am (hbox);have n3_:=am ((by rw [hg];exact (sz (by repeat (first|(with_reducible first|exact HB.out|apply sa|apply sn|apply sd|refine sx ?_ GE339.out)|exact HB.out))) : w.heap.size ≤ gb340));have n4_:=n3_;have n5_:=nb (by exact BK339.out) hg;have n6_:=ng (by exact BK339.out) hg;clear BK339;clear HB;have BK339:=n0_;have HB:=n1_;have BK340:=n2_;have GW340:=n3_;have GE340:=n4_;have NB339_340:=n5_;have NB340_339:=n6_;clear n0_ n1_ n2_ n3_ n4_ n5_ n6_;clear hb hbox hg;have hnb8:=NB340_339.out;have hnc8:=NB339_340.out;obtain ⟨hcz9_0,hcz9_1⟩:=cq2 BK340.out;obtain ⟨hfz9_0,hfz9_1⟩:=fq2 BK340.out))
  (try simp only [Act.put,q1,q2,q3])
  go_cut [68] (fun v68 wc => ∃ (kq : Nat) (x68_3 : Bool),v68 = .bool x68_3 ∧ Aside0 (celluloidlaw18_StrokeParts.j0 kq a1 a2 x68_3 a0_0 a0_1 a0_2 a0_3 a0_4 a0_5 (wrap64 (Int.tdiv (wrap64 (a0_0 + a0_2)) 2)) (wrap64 (Int.tdiv (wrap64 (a0_1 + a0_3)) 2)) = some r) ∧ Aside0 (kq ≤ k) ∧ Aside0 (wc.heap[gb339]? = some (.cells #[.int .i64 a0_0,.int .i64 a0_1,.int .i64 a0_2,.int .i64 a0_3,.int .i64 a0_4,.int .i64 a0_5] 25 (0,0))) ∧ Aside0 (wc.heap[gb340]? = some (.cells #[.int .i64 (wrap64 (Int.tdiv (wrap64 (a0_0 + a0_2)) 2)),.int .i64 (wrap64 (Int.tdiv (wrap64 (a0_1 + a0_3)) 2))] 23 (0,0))) ∧ Aside0 (Below w.heap.size w wc))
  case first =>
    have H:=HC4.out;clear HC4;replace H:=Option.bind_eq_some_iff.mp H;obtain ⟨⟨t341,t342,t343,t344,t345,t346⟩,A100,H⟩:=H;replace H : ((celluloidref18_Right.f k t341 t342 t343 t344 t345 t346).bind fun t347 => (if t347 = true then (if (wrap64 (2 * (wrap64 (Int.tdiv (wrap64 (a0_0 + a0_2)) 2)))) = (wrap64 (a0_0 + a0_2)) then (if (wrap64 (2 * (wrap64 (Int.tdiv (wrap64 (a0_1 + a0_3)) 2)))) = (wrap64 (a0_1 + a0_3)) then (if (Int.tmod (wrap64 (Int.tdiv (wrap64 (a0_0 + a0_2)) 2)) 2) = 0 then (celluloidlaw18_StrokeParts.j0 k a1 a2 ((Int.tmod (wrap64 (Int.tdiv (wrap64 (a0_1 + a0_3)) 2)) 2) != 0) a0_0 a0_1 a0_2 a0_3 a0_4 a0_5 (wrap64 (Int.tdiv (wrap64 (a0_0 + a0_2)) 2)) (wrap64 (Int.tdiv (wrap64 (a0_1 + a0_3)) 2))) else (celluloidlaw18_StrokeParts.j0 k a1 a2 true a0_0 a0_1 a0_2 a0_3 a0_4 a0_5 (wrap64 (Int.tdiv (wrap64 (a0_0 + a0_2)) 2)) (wrap64 (Int.tdiv (wrap64 (a0_1 + a0_3)) 2)))) else (celluloidlaw18_StrokeParts.j0 k a1 a2 true a0_0 a0_1 a0_2 a0_3 a0_4 a0_5 (wrap64 (Int.tdiv (wrap64 (a0_0 + a0_2)) 2)) (wrap64 (Int.tdiv (wrap64 (a0_1 + a0_3)) 2)))) else (celluloidlaw18_StrokeParts.j0 k a1 a2 true a0_0 a0_1 a0_2 a0_3 a0_4 a0_5 (wrap64 (Int.tdiv (wrap64 (a0_0 + a0_2)) 2)) (wrap64 (Int.tdiv (wrap64 (a0_1 + a0_3)) 2)))) else (celluloidlaw18_StrokeParts.j0 k a1 a2 true a0_0 a0_1 a0_2 a0_3 a0_4 a0_5 (wrap64 (Int.tdiv (wrap64 (a0_0 + a0_2)) 2)) (wrap64 (Int.tdiv (wrap64 (a0_1 + a0_3)) 2))))) = some r:=H;have A10:=am A100;clear A100;replace H:=Option.bind_eq_some_iff.mp H;obtain ⟨t347,A110,H⟩:=H;replace H : (if t347 = true then (if (wrap64 (2 * (wrap64 (Int.tdiv (wrap64 (a0_0 + a0_2)) 2)))) = (wrap64 (a0_0 + a0_2)) then (if (wrap64 (2 * (wrap64 (Int.tdiv (wrap64 (a0_1 + a0_3)) 2)))) = (wrap64 (a0_1 + a0_3)) then (if (Int.tmod (wrap64 (Int.tdiv (wrap64 (a0_0 + a0_2)) 2)) 2) = 0 then (celluloidlaw18_StrokeParts.j0 k a1 a2 ((Int.tmod (wrap64 (Int.tdiv (wrap64 (a0_1 + a0_3)) 2)) 2) != 0) a0_0 a0_1 a0_2 a0_3 a0_4 a0_5 (wrap64 (Int.tdiv (wrap64 (a0_0 + a0_2)) 2)) (wrap64 (Int.tdiv (wrap64 (a0_1 + a0_3)) 2))) else (celluloidlaw18_StrokeParts.j0 k a1 a2 true a0_0 a0_1 a0_2 a0_3 a0_4 a0_5 (wrap64 (Int.tdiv (wrap64 (a0_0 + a0_2)) 2)) (wrap64 (Int.tdiv (wrap64 (a0_1 + a0_3)) 2)))) else (celluloidlaw18_StrokeParts.j0 k a1 a2 true a0_0 a0_1 a0_2 a0_3 a0_4 a0_5 (wrap64 (Int.tdiv (wrap64 (a0_0 + a0_2)) 2)) (wrap64 (Int.tdiv (wrap64 (a0_1 + a0_3)) 2)))) else (celluloidlaw18_StrokeParts.j0 k a1 a2 true a0_0 a0_1 a0_2 a0_3 a0_4 a0_5 (wrap64 (Int.tdiv (wrap64 (a0_0 + a0_2)) 2)) (wrap64 (Int.tdiv (wrap64 (a0_1 + a0_3)) 2)))) else (celluloidlaw18_StrokeParts.j0 k a1 a2 true a0_0 a0_1 a0_2 a0_3 a0_4 a0_5 (wrap64 (Int.tdiv (wrap64 (a0_0 + a0_2)) 2)) (wrap64 (Int.tdiv (wrap64 (a0_1 + a0_3)) 2)))) = some r:=H;have A11:=am A110;clear A110
    by_cases c12 : t347 = true
    · subst c12
      have H1 : (if (wrap64 (2 * (wrap64 (Int.tdiv (wrap64 (a0_0 + a0_2)) 2)))) = (wrap64 (a0_0 + a0_2)) then (if (wrap64 (2 * (wrap64 (Int.tdiv (wrap64 (a0_1 + a0_3)) 2)))) = (wrap64 (a0_1 + a0_3)) then (if (Int.tmod (wrap64 (Int.tdiv (wrap64 (a0_0 + a0_2)) 2)) 2) = 0 then (celluloidlaw18_StrokeParts.j0 k a1 a2 ((Int.tmod (wrap64 (Int.tdiv (wrap64 (a0_1 + a0_3)) 2)) 2) != 0) a0_0 a0_1 a0_2 a0_3 a0_4 a0_5 (wrap64 (Int.tdiv (wrap64 (a0_0 + a0_2)) 2)) (wrap64 (Int.tdiv (wrap64 (a0_1 + a0_3)) 2))) else (celluloidlaw18_StrokeParts.j0 k a1 a2 true a0_0 a0_1 a0_2 a0_3 a0_4 a0_5 (wrap64 (Int.tdiv (wrap64 (a0_0 + a0_2)) 2)) (wrap64 (Int.tdiv (wrap64 (a0_1 + a0_3)) 2)))) else (celluloidlaw18_StrokeParts.j0 k a1 a2 true a0_0 a0_1 a0_2 a0_3 a0_4 a0_5 (wrap64 (Int.tdiv (wrap64 (a0_0 + a0_2)) 2)) (wrap64 (Int.tdiv (wrap64 (a0_1 + a0_3)) 2)))) else (celluloidlaw18_StrokeParts.j0 k a1 a2 true a0_0 a0_1 a0_2 a0_3 a0_4 a0_5 (wrap64 (Int.tdiv (wrap64 (a0_0 + a0_2)) 2)) (wrap64 (Int.tdiv (wrap64 (a0_1 + a0_3)) 2)))) = some r:=by rw [if_pos rfl] at H;exact H
      clear H;have H:=H1;clear H1
      by_cases c13 : (wrap64 (2 * (wrap64 (Int.tdiv (wrap64 (a0_0 + a0_2)) 2)))) = (wrap64 (a0_0 + a0_2))
      · rw [if_pos c13] at H
        have c13b0 : ((wrap64 (2 * (wrap64 (Int.tdiv (wrap64 (a0_0 + a0_2)) 2)))) == (wrap64 (a0_0 + a0_2))) = true:=beq_iff_eq.mpr c13;have c13b1 : ((wrap64 (2 * (wrap64 (Int.tdiv (wrap64 (a0_0 + a0_2)) 2)))) != (wrap64 (a0_0 + a0_2))) = false:=bne_eq_false_iff_eq.mpr c13;clear c13
        (first|rw [c13b0]|(simp only [i64_w,i32_w];rw [c13b0])|skip)
        by_cases c14 : (wrap64 (2 * (wrap64 (Int.tdiv (wrap64 (a0_1 + a0_3)) 2)))) = (wrap64 (a0_1 + a0_3))
        · rw [if_pos c14] at H
          have c14b0 : ((wrap64 (2 * (wrap64 (Int.tdiv (wrap64 (a0_1 + a0_3)) 2)))) == (wrap64 (a0_1 + a0_3))) = true:=beq_iff_eq.mpr c14;have c14b1 : ((wrap64 (2 * (wrap64 (Int.tdiv (wrap64 (a0_1 + a0_3)) 2)))) != (wrap64 (a0_1 + a0_3))) = false:=bne_eq_false_iff_eq.mpr c14;clear c14
          by_cases c15 : (Int.tmod (wrap64 (Int.tdiv (wrap64 (a0_0 + a0_2)) 2)) 2) = 0
          · rw [if_pos c15] at H
            have c15b0 : ((Int.tmod (wrap64 (Int.tdiv (wrap64 (a0_0 + a0_2)) 2)) 2) == 0) = true:=beq_iff_eq.mpr c15;have c15b1 : ((Int.tmod (wrap64 (Int.tdiv (wrap64 (a0_0 + a0_2)) 2)) 2) != 0) = false:=bne_eq_false_iff_eq.mpr c15;clear c15;have H':=am H;clear H;have hnb16:=NB339_340.out;have hnc16:=NB340_339.out;have hcz17_0 : w7.cell? ⟨gb339,0,none⟩ = some (.int .i64 a0_0):=(bc BK339.out 0).trans rfl;have hcz17_1 : w7.cell? ⟨gb339,1,none⟩ = some (.int .i64 a0_1):=(bc BK339.out 1).trans rfl;have hcz17_2 : w7.cell? ⟨gb339,2,none⟩ = some (.int .i64 a0_2):=(bc BK339.out 2).trans rfl;have hcz17_3 : w7.cell? ⟨gb339,3,none⟩ = some (.int .i64 a0_3):=(bc BK339.out 3).trans rfl;have hcz17_4 : w7.cell? ⟨gb339,4,none⟩ = some (.int .i64 a0_4):=(bc BK339.out 4).trans rfl;have hcz17_5 : w7.cell? ⟨gb339,5,none⟩ = some (.int .i64 a0_5):=(bc BK339.out 5).trans rfl;have hfz17_0:=bz BK339.out 0;have hfz17_1:=bz BK339.out 1;have hfz17_2:=bz BK339.out 2;have hfz17_3:=bz BK339.out 3;have hfz17_4:=bz BK339.out 4;have hfz17_5:=bz BK339.out 5
            go_wp2_with (first|((with_reducible refine gate_callee (f:=11) rfl ?_);refine goesL_ (some 28) rfl rfl Try.func11 (by kernel_rfl) rfl #[.agg #[.int .i64 a0_0,.int .i64 a0_1,.int .i64 a0_2,.int .i64 a0_3,.int .i64 a0_4,.int .i64 a0_5]] rfl (by (try simp only [List.map_toArray,List.map_cons,List.map_nil]);first|done|rfl|(simp only [List.length_drop,List.length_take];rfl)) ?_;(with_reducible refine (celluloidlaw18_ref.calls a0_0 a0_1 a0_2 a0_3 a0_4 a0_5 t341 t342 t343 t344 t345 t346 _ A10.out).mono ?_);rintro e w18 ⟨rfl,hb⟩;refine ⟨_,rfl,?_⟩;replace BK339:=am (wz BK339.out (by (with_reducible repeat (first|refine bn ?_ _|refine bd ?_|refine ba ?_ _|refine bf ?_ NB339_340.out _));exact BK339.out) hb);replace BK340:=am (bw (g:=gb340) (o:=.cells #[.int .i64 (wrap64 (Int.tdiv (wrap64 (a0_0 + a0_2)) 2)),.int .i64 (wrap64 (Int.tdiv (wrap64 (a0_1 + a0_3)) 2))] 23 (0,0)) (bp (bp BK340.out 0 _ rfl) 1 _ rfl) hb);replace HB:=am (ss (by repeat (first|(with_reducible first|exact HB.out|apply sa|apply sn|apply sd|refine sy ?_ (by assumption))|exact HB.out)) hb);(try clear hb);(try clear hb2);(try clear hk);(try clear hi))|((with_reducible refine gate_callee (f:=10) rfl ?_);refine goesL_ (some 29) rfl rfl Try.func10 (by kernel_rfl) rfl #[.agg #[.int .i64 t341,.int .i64 t342,.int .i64 t343,.int .i64 t344,.int .i64 t345,.int .i64 t346]] rfl (by (try simp only [List.map_toArray,List.map_cons,List.map_nil]);first|done|rfl|(simp only [List.length_drop,List.length_take];rfl)) ?_;(with_reducible refine (celluloidref18_Right.calls k t341 t342 t343 t344 t345 t346 true _ A11.out).mono ?_);rintro e w19 ⟨rfl,hb⟩;refine ⟨_,rfl,?_⟩;replace BK339:=am (bw (by exact BK339.out) hb);replace BK340:=am (bw (by exact BK340.out) hb);replace HB:=am (ss (by repeat (first|(with_reducible first|exact HB.out|apply sa|apply sn|apply sd|refine sy ?_ (by assumption))|exact HB.out)) hb);(try clear hb);(try clear hb2);(try clear hk);(try clear hi);obtain ⟨hcz20_0,hcz20_1⟩:=cq2 BK340.out;obtain ⟨hfz20_0,hfz20_1⟩:=fq2 BK340.out;obtain ⟨hcz21_0,hcz21_1,hcz21_2,hcz21_3,hcz21_4,hcz21_5⟩:=cq6 BK339.out;obtain ⟨hfz21_0,hfz21_1,hfz21_2,hfz21_3,hfz21_4,hfz21_5⟩:=fq6 BK339.out))
            go_meet
            case rel => exact ⟨_,(((Int.tmod (wrap64 (Int.tdiv (wrap64 (a0_1 + a0_3)) 2)) 2) != 0)),(by first|rfl|(simp;done)|(simp [*];done)),H',⟨by first|omega|exact Nat.le_refl _⟩,⟨by exact BK339.out⟩,⟨by exact BK340.out⟩,⟨by repeat (first|(with_reducible first|exact HB.out|apply sa|apply sn|apply sd|refine sy ?_ (by assumption))|exact HB.out)⟩⟩
          · rw [if_neg c15] at H
            have c15b0 : ((Int.tmod (wrap64 (Int.tdiv (wrap64 (a0_0 + a0_2)) 2)) 2) == 0) = false:=beq_eq_false_iff_ne.mpr c15;have c15b1 : ((Int.tmod (wrap64 (Int.tdiv (wrap64 (a0_0 + a0_2)) 2)) 2) != 0) = true:=bne_iff_ne.mpr c15;have H':=am H;clear H;have hnb22:=NB339_340.out;have hnc22:=NB340_339.out;have hcz23_0 : w7.cell? ⟨gb339,0,none⟩ = some (.int .i64 a0_0):=(bc BK339.out 0).trans rfl;have hcz23_1 : w7.cell? ⟨gb339,1,none⟩ = some (.int .i64 a0_1):=(bc BK339.out 1).trans rfl;have hcz23_2 : w7.cell? ⟨gb339,2,none⟩ = some (.int .i64 a0_2):=(bc BK339.out 2).trans rfl;have hcz23_3 : w7.cell? ⟨gb339,3,none⟩ = some (.int .i64 a0_3):=(bc BK339.out 3).trans rfl;have hcz23_4 : w7.cell? ⟨gb339,4,none⟩ = some (.int .i64 a0_4):=(bc BK339.out 4).trans rfl;have hcz23_5 : w7.cell? ⟨gb339,5,none⟩ = some (.int .i64 a0_5):=(bc BK339.out 5).trans rfl;have hfz23_0:=bz BK339.out 0;have hfz23_1:=bz BK339.out 1;have hfz23_2:=bz BK339.out 2;have hfz23_3:=bz BK339.out 3;have hfz23_4:=bz BK339.out 4;have hfz23_5:=bz BK339.out 5
            go_wp2_with (first|((with_reducible refine gate_callee (f:=11) rfl ?_);refine goesL_ (some 28) rfl rfl Try.func11 (by kernel_rfl) rfl #[.agg #[.int .i64 a0_0,.int .i64 a0_1,.int .i64 a0_2,.int .i64 a0_3,.int .i64 a0_4,.int .i64 a0_5]] rfl (by (try simp only [List.map_toArray,List.map_cons,List.map_nil]);first|done|rfl|(simp only [List.length_drop,List.length_take];rfl)) ?_;(with_reducible refine (celluloidlaw18_ref.calls a0_0 a0_1 a0_2 a0_3 a0_4 a0_5 t341 t342 t343 t344 t345 t346 _ A10.out).mono ?_);rintro e w24 ⟨rfl,hb⟩;refine ⟨_,rfl,?_⟩;replace BK339:=am (wz BK339.out (by (with_reducible repeat (first|refine bn ?_ _|refine bd ?_|refine ba ?_ _|refine bf ?_ NB339_340.out _));exact BK339.out) hb);replace BK340:=am (bw (g:=gb340) (o:=.cells #[.int .i64 (wrap64 (Int.tdiv (wrap64 (a0_0 + a0_2)) 2)),.int .i64 (wrap64 (Int.tdiv (wrap64 (a0_1 + a0_3)) 2))] 23 (0,0)) (bp (bp BK340.out 0 _ rfl) 1 _ rfl) hb);replace HB:=am (ss (by repeat (first|(with_reducible first|exact HB.out|apply sa|apply sn|apply sd|refine sy ?_ (by assumption))|exact HB.out)) hb);(try clear hb);(try clear hb2);(try clear hk);(try clear hi))|((with_reducible refine gate_callee (f:=10) rfl ?_);refine goesL_ (some 29) rfl rfl Try.func10 (by kernel_rfl) rfl #[.agg #[.int .i64 t341,.int .i64 t342,.int .i64 t343,.int .i64 t344,.int .i64 t345,.int .i64 t346]] rfl (by (try simp only [List.map_toArray,List.map_cons,List.map_nil]);first|done|rfl|(simp only [List.length_drop,List.length_take];rfl)) ?_;(with_reducible refine (celluloidref18_Right.calls k t341 t342 t343 t344 t345 t346 true _ A11.out).mono ?_);rintro e w25 ⟨rfl,hb⟩;refine ⟨_,rfl,?_⟩;replace BK339:=am (bw (by exact BK339.out) hb);replace BK340:=am (bw (by exact BK340.out) hb);replace HB:=am (ss (by repeat (first|(with_reducible first|exact HB.out|apply sa|apply sn|apply sd|refine sy ?_ (by assumption))|exact HB.out)) hb);(try clear hb);(try clear hb2);(try clear hk);(try clear hi);obtain ⟨hcz26_0,hcz26_1⟩:=cq2 BK340.out;obtain ⟨hfz26_0,hfz26_1⟩:=fq2 BK340.out;obtain ⟨hcz27_0,hcz27_1,hcz27_2,hcz27_3,hcz27_4,hcz27_5⟩:=cq6 BK339.out;obtain ⟨hfz27_0,hfz27_1,hfz27_2,hfz27_3,hfz27_4,hfz27_5⟩:=fq6 BK339.out))
            go_meet
            case rel => exact ⟨_,(true),(by first|rfl|(simp;done)|(simp [*];done)),H',⟨by first|omega|exact Nat.le_refl _⟩,⟨by exact BK339.out⟩,⟨by exact BK340.out⟩,⟨by repeat (first|(with_reducible first|exact HB.out|apply sa|apply sn|apply sd|refine sy ?_ (by assumption))|exact HB.out)⟩⟩
        · rw [if_neg c14] at H
          have c14b0 : ((wrap64 (2 * (wrap64 (Int.tdiv (wrap64 (a0_1 + a0_3)) 2)))) == (wrap64 (a0_1 + a0_3))) = false:=beq_eq_false_iff_ne.mpr c14;have c14b1 : ((wrap64 (2 * (wrap64 (Int.tdiv (wrap64 (a0_1 + a0_3)) 2)))) != (wrap64 (a0_1 + a0_3))) = true:=bne_iff_ne.mpr c14;have H':=am H;clear H;have hnb28:=NB339_340.out;have hnc28:=NB340_339.out;have hcz29_0 : w7.cell? ⟨gb339,0,none⟩ = some (.int .i64 a0_0):=(bc BK339.out 0).trans rfl;have hcz29_1 : w7.cell? ⟨gb339,1,none⟩ = some (.int .i64 a0_1):=(bc BK339.out 1).trans rfl;have hcz29_2 : w7.cell? ⟨gb339,2,none⟩ = some (.int .i64 a0_2):=(bc BK339.out 2).trans rfl;have hcz29_3 : w7.cell? ⟨gb339,3,none⟩ = some (.int .i64 a0_3):=(bc BK339.out 3).trans rfl;have hcz29_4 : w7.cell? ⟨gb339,4,none⟩ = some (.int .i64 a0_4):=(bc BK339.out 4).trans rfl;have hcz29_5 : w7.cell? ⟨gb339,5,none⟩ = some (.int .i64 a0_5):=(bc BK339.out 5).trans rfl;have hfz29_0:=bz BK339.out 0;have hfz29_1:=bz BK339.out 1;have hfz29_2:=bz BK339.out 2;have hfz29_3:=bz BK339.out 3;have hfz29_4:=bz BK339.out 4;have hfz29_5:=bz BK339.out 5
          go_wp2_with (first|((with_reducible refine gate_callee (f:=11) rfl ?_);refine goesL_ (some 28) rfl rfl Try.func11 (by kernel_rfl) rfl #[.agg #[.int .i64 a0_0,.int .i64 a0_1,.int .i64 a0_2,.int .i64 a0_3,.int .i64 a0_4,.int .i64 a0_5]] rfl (by (try simp only [List.map_toArray,List.map_cons,List.map_nil]);first|done|rfl|(simp only [List.length_drop,List.length_take];rfl)) ?_;(with_reducible refine (celluloidlaw18_ref.calls a0_0 a0_1 a0_2 a0_3 a0_4 a0_5 t341 t342 t343 t344 t345 t346 _ A10.out).mono ?_);rintro e w30 ⟨rfl,hb⟩;refine ⟨_,rfl,?_⟩;replace BK339:=am (wz BK339.out (by (with_reducible repeat (first|refine bn ?_ _|refine bd ?_|refine ba ?_ _|refine bf ?_ NB339_340.out _));exact BK339.out) hb);replace BK340:=am (bw (g:=gb340) (o:=.cells #[.int .i64 (wrap64 (Int.tdiv (wrap64 (a0_0 + a0_2)) 2)),.int .i64 (wrap64 (Int.tdiv (wrap64 (a0_1 + a0_3)) 2))] 23 (0,0)) (bp (bp BK340.out 0 _ rfl) 1 _ rfl) hb);replace HB:=am (ss (by repeat (first|(with_reducible first|exact HB.out|apply sa|apply sn|apply sd|refine sy ?_ (by assumption))|exact HB.out)) hb);(try clear hb);(try clear hb2);(try clear hk);(try clear hi))|((with_reducible refine gate_callee (f:=10) rfl ?_);refine goesL_ (some 29) rfl rfl Try.func10 (by kernel_rfl) rfl #[.agg #[.int .i64 t341,.int .i64 t342,.int .i64 t343,.int .i64 t344,.int .i64 t345,.int .i64 t346]] rfl (by (try simp only [List.map_toArray,List.map_cons,List.map_nil]);first|done|rfl|(simp only [List.length_drop,List.length_take];rfl)) ?_;(with_reducible refine (celluloidref18_Right.calls k t341 t342 t343 t344 t345 t346 true _ A11.out).mono ?_);rintro e w31 ⟨rfl,hb⟩;refine ⟨_,rfl,?_⟩;replace BK339:=am (bw (by exact BK339.out) hb);replace BK340:=am (bw (by exact BK340.out) hb);replace HB:=am (ss (by repeat (first|(with_reducible first|exact HB.out|apply sa|apply sn|apply sd|refine sy ?_ (by assumption))|exact HB.out)) hb);(try clear hb);(try clear hb2);(try clear hk);(try clear hi);obtain ⟨hcz32_0,hcz32_1⟩:=cq2 BK340.out;obtain ⟨hfz32_0,hfz32_1⟩:=fq2 BK340.out;obtain ⟨hcz33_0,hcz33_1,hcz33_2,hcz33_3,hcz33_4,hcz33_5⟩:=cq6 BK339.out;obtain ⟨hfz33_0,hfz33_1,hfz33_2,hfz33_3,hfz33_4,hfz33_5⟩:=fq6 BK339.out))
          go_meet
          case rel => exact ⟨_,(true),(by first|rfl|(simp;done)|(simp [*];done)),H',⟨by first|omega|exact Nat.le_refl _⟩,⟨by exact BK339.out⟩,⟨by exact BK340.out⟩,⟨by repeat (first|(with_reducible first|exact HB.out|apply sa|apply sn|apply sd|refine sy ?_ (by assumption))|exact HB.out)⟩⟩
      · rw [if_neg c13] at H
        have c13b0 : ((wrap64 (2 * (wrap64 (Int.tdiv (wrap64 (a0_0 + a0_2)) 2)))) == (wrap64 (a0_0 + a0_2))) = false:=beq_eq_false_iff_ne.mpr c13;have c13b1 : ((wrap64 (2 * (wrap64 (Int.tdiv (wrap64 (a0_0 + a0_2)) 2)))) != (wrap64 (a0_0 + a0_2))) = true:=bne_iff_ne.mpr c13
        (first|rw [c13b0]|(simp only [i64_w,i32_w];rw [c13b0])|skip)
        have H':=am H;clear H;have hnb34:=NB339_340.out;have hnc34:=NB340_339.out;have hcz35_0 : w7.cell? ⟨gb339,0,none⟩ = some (.int .i64 a0_0):=(bc BK339.out 0).trans rfl;have hcz35_1 : w7.cell? ⟨gb339,1,none⟩ = some (.int .i64 a0_1):=(bc BK339.out 1).trans rfl;have hcz35_2 : w7.cell? ⟨gb339,2,none⟩ = some (.int .i64 a0_2):=(bc BK339.out 2).trans rfl;have hcz35_3 : w7.cell? ⟨gb339,3,none⟩ = some (.int .i64 a0_3):=(bc BK339.out 3).trans rfl;have hcz35_4 : w7.cell? ⟨gb339,4,none⟩ = some (.int .i64 a0_4):=(bc BK339.out 4).trans rfl;have hcz35_5 : w7.cell? ⟨gb339,5,none⟩ = some (.int .i64 a0_5):=(bc BK339.out 5).trans rfl;have hfz35_0:=bz BK339.out 0;have hfz35_1:=bz BK339.out 1;have hfz35_2:=bz BK339.out 2;have hfz35_3:=bz BK339.out 3;have hfz35_4:=bz BK339.out 4;have hfz35_5:=bz BK339.out 5
        go_wp2_with (first|((with_reducible refine gate_callee (f:=11) rfl ?_);refine goesL_ (some 28) rfl rfl Try.func11 (by kernel_rfl) rfl #[.agg #[.int .i64 a0_0,.int .i64 a0_1,.int .i64 a0_2,.int .i64 a0_3,.int .i64 a0_4,.int .i64 a0_5]] rfl (by (try simp only [List.map_toArray,List.map_cons,List.map_nil]);first|done|rfl|(simp only [List.length_drop,List.length_take];rfl)) ?_;(with_reducible refine (celluloidlaw18_ref.calls a0_0 a0_1 a0_2 a0_3 a0_4 a0_5 t341 t342 t343 t344 t345 t346 _ A10.out).mono ?_);rintro e w36 ⟨rfl,hb⟩;refine ⟨_,rfl,?_⟩;replace BK339:=am (wz BK339.out (by (with_reducible repeat (first|refine bn ?_ _|refine bd ?_|refine ba ?_ _|refine bf ?_ NB339_340.out _));exact BK339.out) hb);replace BK340:=am (bw (g:=gb340) (o:=.cells #[.int .i64 (wrap64 (Int.tdiv (wrap64 (a0_0 + a0_2)) 2)),.int .i64 (wrap64 (Int.tdiv (wrap64 (a0_1 + a0_3)) 2))] 23 (0,0)) (bp (bp BK340.out 0 _ rfl) 1 _ rfl) hb);replace HB:=am (ss (by repeat (first|(with_reducible first|exact HB.out|apply sa|apply sn|apply sd|refine sy ?_ (by assumption))|exact HB.out)) hb);(try clear hb);(try clear hb2);(try clear hk);(try clear hi))|((with_reducible refine gate_callee (f:=10) rfl ?_);refine goesL_ (some 29) rfl rfl Try.func10 (by kernel_rfl) rfl #[.agg #[.int .i64 t341,.int .i64 t342,.int .i64 t343,.int .i64 t344,.int .i64 t345,.int .i64 t346]] rfl (by (try simp only [List.map_toArray,List.map_cons,List.map_nil]);first|done|rfl|(simp only [List.length_drop,List.length_take];rfl)) ?_;(with_reducible refine (celluloidref18_Right.calls k t341 t342 t343 t344 t345 t346 true _ A11.out).mono ?_);rintro e w37 ⟨rfl,hb⟩;refine ⟨_,rfl,?_⟩;replace BK339:=am (bw (by exact BK339.out) hb);replace BK340:=am (bw (by exact BK340.out) hb);replace HB:=am (ss (by repeat (first|(with_reducible first|exact HB.out|apply sa|apply sn|apply sd|refine sy ?_ (by assumption))|exact HB.out)) hb);(try clear hb);(try clear hb2);(try clear hk);(try clear hi);obtain ⟨hcz38_0,hcz38_1⟩:=cq2 BK340.out;obtain ⟨hfz38_0,hfz38_1⟩:=fq2 BK340.out;obtain ⟨hcz39_0,hcz39_1,hcz39_2,hcz39_3,hcz39_4,hcz39_5⟩:=cq6 BK339.out;obtain ⟨hfz39_0,hfz39_1,hfz39_2,hfz39_3,hfz39_4,hfz39_5⟩:=fq6 BK339.out))
        go_meet
        case rel => exact ⟨_,(true),(by first|rfl|(simp;done)|(simp [*];done)),H',⟨by first|omega|exact Nat.le_refl _⟩,⟨by exact BK339.out⟩,⟨by exact BK340.out⟩,⟨by repeat (first|(with_reducible first|exact HB.out|apply sa|apply sn|apply sd|refine sy ?_ (by assumption))|exact HB.out)⟩⟩
    · replace c12:=Bool.eq_false_iff.mpr c12
      subst c12
      have H1 : (celluloidlaw18_StrokeParts.j0 k a1 a2 true a0_0 a0_1 a0_2 a0_3 a0_4 a0_5 (wrap64 (Int.tdiv (wrap64 (a0_0 + a0_2)) 2)) (wrap64 (Int.tdiv (wrap64 (a0_1 + a0_3)) 2))) = some r:=by rw [if_neg (show ¬ (false = true) by decide)] at H;exact H
      clear H;have H:=H1;clear H1;have H':=am H;clear H;have hnb40:=NB339_340.out;have hnc40:=NB340_339.out;have hcz41_0 : w7.cell? ⟨gb339,0,none⟩ = some (.int .i64 a0_0):=(bc BK339.out 0).trans rfl;have hcz41_1 : w7.cell? ⟨gb339,1,none⟩ = some (.int .i64 a0_1):=(bc BK339.out 1).trans rfl;have hcz41_2 : w7.cell? ⟨gb339,2,none⟩ = some (.int .i64 a0_2):=(bc BK339.out 2).trans rfl;have hcz41_3 : w7.cell? ⟨gb339,3,none⟩ = some (.int .i64 a0_3):=(bc BK339.out 3).trans rfl;have hcz41_4 : w7.cell? ⟨gb339,4,none⟩ = some (.int .i64 a0_4):=(bc BK339.out 4).trans rfl;have hcz41_5 : w7.cell? ⟨gb339,5,none⟩ = some (.int .i64 a0_5):=(bc BK339.out 5).trans rfl;have hfz41_0:=bz BK339.out 0;have hfz41_1:=bz BK339.out 1;have hfz41_2:=bz BK339.out 2;have hfz41_3:=bz BK339.out 3;have hfz41_4:=bz BK339.out 4;have hfz41_5:=bz BK339.out 5
      go_wp2_with (first|((with_reducible refine gate_callee (f:=11) rfl ?_);refine goesL_ (some 28) rfl rfl Try.func11 (by kernel_rfl) rfl #[.agg #[.int .i64 a0_0,.int .i64 a0_1,.int .i64 a0_2,.int .i64 a0_3,.int .i64 a0_4,.int .i64 a0_5]] rfl (by (try simp only [List.map_toArray,List.map_cons,List.map_nil]);first|done|rfl|(simp only [List.length_drop,List.length_take];rfl)) ?_;(with_reducible refine (celluloidlaw18_ref.calls a0_0 a0_1 a0_2 a0_3 a0_4 a0_5 t341 t342 t343 t344 t345 t346 _ A10.out).mono ?_);rintro e w42 ⟨rfl,hb⟩;refine ⟨_,rfl,?_⟩;replace BK339:=am (wz BK339.out (by (with_reducible repeat (first|refine bn ?_ _|refine bd ?_|refine ba ?_ _|refine bf ?_ NB339_340.out _));exact BK339.out) hb);replace BK340:=am (bw (g:=gb340) (o:=.cells #[.int .i64 (wrap64 (Int.tdiv (wrap64 (a0_0 + a0_2)) 2)),.int .i64 (wrap64 (Int.tdiv (wrap64 (a0_1 + a0_3)) 2))] 23 (0,0)) (bp (bp BK340.out 0 _ rfl) 1 _ rfl) hb);replace HB:=am (ss (by repeat (first|(with_reducible first|exact HB.out|apply sa|apply sn|apply sd|refine sy ?_ (by assumption))|exact HB.out)) hb);(try clear hb);(try clear hb2);(try clear hk);(try clear hi))|((with_reducible refine gate_callee (f:=10) rfl ?_);refine goesL_ (some 29) rfl rfl Try.func10 (by kernel_rfl) rfl #[.agg #[.int .i64 t341,.int .i64 t342,.int .i64 t343,.int .i64 t344,.int .i64 t345,.int .i64 t346]] rfl (by (try simp only [List.map_toArray,List.map_cons,List.map_nil]);first|done|rfl|(simp only [List.length_drop,List.length_take];rfl)) ?_;(with_reducible refine (celluloidref18_Right.calls k t341 t342 t343 t344 t345 t346 false _ A11.out).mono ?_);rintro e w43 ⟨rfl,hb⟩;refine ⟨_,rfl,?_⟩;replace BK339:=am (bw (by exact BK339.out) hb);replace BK340:=am (bw (by exact BK340.out) hb);replace HB:=am (ss (by repeat (first|(with_reducible first|exact HB.out|apply sa|apply sn|apply sd|refine sy ?_ (by assumption))|exact HB.out)) hb);(try clear hb);(try clear hb2);(try clear hk);(try clear hi)))
      go_meet
      case rel => exact ⟨_,(true),(by first|rfl|(simp;done)|(simp [*];done)),H',⟨by first|omega|exact Nat.le_refl _⟩,⟨by exact BK339.out⟩,⟨by exact BK340.out⟩,⟨by repeat (first|(with_reducible first|exact HB.out|apply sa|apply sn|apply sd|refine sy ?_ (by assumption))|exact HB.out)⟩⟩
  case rest =>
    clear HC4
    try clear c1
    try clear c2
    try clear p2
    try clear c3
    try clear c4
    try clear p6
    try clear c7
    try clear c8
    try clear c10
    try clear c11
    try clear c12
    try clear c13
    try clear c13b0
    try clear c13b1
    try clear c14
    try clear c14b0
    try clear c14b1
    try clear c15
    try clear c15b0
    try clear c15b1
    try clear c16
    try clear c22
    try clear c28
    try clear c34
    try clear c40
    try clear hcz17_0
    try clear hcz17_1
    try clear hcz17_2
    try clear hcz17_3
    try clear hcz17_4
    try clear hcz17_5
    try clear hcz20_0
    try clear hcz20_1
    try clear hcz21_0
    try clear hcz21_1
    try clear hcz21_2
    try clear hcz21_3
    try clear hcz21_4
    try clear hcz21_5
    try clear hcz23_0
    try clear hcz23_1
    try clear hcz23_2
    try clear hcz23_3
    try clear hcz23_4
    try clear hcz23_5
    try clear hcz26_0
    try clear hcz26_1
    try clear hcz27_0
    try clear hcz27_1
    try clear hcz27_2
    try clear hcz27_3
    try clear hcz27_4
    try clear hcz27_5
    try clear hcz29_0
    try clear hcz29_1
    try clear hcz29_2
    try clear hcz29_3
    try clear hcz29_4
    try clear hcz29_5
    try clear hcz32_0
    try clear hcz32_1
    try clear hcz33_0
    try clear hcz33_1
    try clear hcz33_2
    try clear hcz33_3
    try clear hcz33_4
    try clear hcz33_5
    try clear hcz35_0
    try clear hcz35_1
    try clear hcz35_2
    try clear hcz35_3
    try clear hcz35_4
    try clear hcz35_5
    try clear hcz38_0
    try clear hcz38_1
    try clear hcz39_0
    try clear hcz39_1
    try clear hcz39_2
    try clear hcz39_3
    try clear hcz39_4
    try clear hcz39_5
    try clear hcz41_0
    try clear hcz41_1
    try clear hcz41_2
    try clear hcz41_3
    try clear hcz41_4
    try clear hcz41_5
    try clear hcz6_0
    try clear hcz6_1
    try clear hcz6_2
    try clear hcz6_3
    try clear hcz6_4
    try clear hcz6_5
    try clear hcz9_0
    try clear hcz9_1
    try clear hfz17_0
    try clear hfz17_1
    try clear hfz17_2
    try clear hfz17_3
    try clear hfz17_4
    try clear hfz17_5
    try clear hfz20_0
    try clear hfz20_1
    try clear hfz21_0
    try clear hfz21_1
    try clear hfz21_2
    try clear hfz21_3
    try clear hfz21_4
    try clear hfz21_5
    try clear hfz23_0
    try clear hfz23_1
    try clear hfz23_2
    try clear hfz23_3
    try clear hfz23_4
    try clear hfz23_5
    try clear hfz26_0
    try clear hfz26_1
    try clear hfz27_0
    try clear hfz27_1
    try clear hfz27_2
    try clear hfz27_3
    try clear hfz27_4
    try clear hfz27_5
    try clear hfz29_0
    try clear hfz29_1
    try clear hfz29_2
    try clear hfz29_3
    try clear hfz29_4
    try clear hfz29_5
    try clear hfz32_0
    try clear hfz32_1
    try clear hfz33_0
    try clear hfz33_1
    try clear hfz33_2
    try clear hfz33_3
    try clear hfz33_4
    try clear hfz33_5
    try clear hfz35_0
    try clear hfz35_1
    try clear hfz35_2
    try clear hfz35_3
    try clear hfz35_4
    try clear hfz35_5
    try clear hfz38_0
    try clear hfz38_1
    try clear hfz39_0
    try clear hfz39_1
    try clear hfz39_2
    try clear hfz39_3
    try clear hfz39_4
    try clear hfz39_5
    try clear hfz41_0
    try clear hfz41_1
    try clear hfz41_2
    try clear hfz41_3
    try clear hfz41_4
    try clear hfz41_5
    try clear hfz6_0
    try clear hfz6_1
    try clear hfz6_2
    try clear hfz6_3
    try clear hfz6_4
    try clear hfz6_5
    try clear hfz9_0
    try clear hfz9_1
    obtain ⟨kq,x68_3,rfl,HA,HJ3,BK339,BK340,HB⟩:=hcut
    cases kq with
    | zero => exact absurd HA.out (by simp [celluloidlaw18_StrokeParts.j0])
    | succ kj3 =>
      have H:=HA.out;clear HA;simp only [celluloidlaw18_StrokeParts.j0] at H
      by_cases c44 : x68_3 = true
      · subst c44
        have H1 : ((celluloidlaw18_awake.f kj3).bind fun t348 => (some t348)) = some r:=by rw [if_pos rfl] at H;exact H
        clear H;have H:=H1;clear H1;replace H:=Option.bind_eq_some_iff.mp H;obtain ⟨t348,A450,H⟩:=H;replace H : (some t348) = some r:=H;have A45:=am A450;clear A450;obtain rfl:=Option.some.inj H
        go_wp2_with (first|((with_reducible refine gate_callee (f:=16) rfl ?_);refine goesL_ (some 69) rfl rfl Try.func16 (by kernel_rfl) rfl #[] rfl (by (try simp only [List.map_toArray,List.map_cons,List.map_nil]);first|done|rfl|(simp only [List.length_drop,List.length_take];rfl)) ?_;(with_reducible refine (celluloidlaw18_awake.calls kj3  t348 _ A45.out).mono ?_);rintro e w46 ⟨rfl,hb⟩;refine ⟨_,rfl,?_⟩;replace BK339:=am (bw (by exact BK339.out) hb);replace BK340:=am (bw (by exact BK340.out) hb);replace HB:=am (ss (by repeat (first|(with_reducible first|exact HB.out|apply sa|apply sn|apply sd|refine sy ?_ (by assumption))|exact HB.out)) hb);(try clear hb);(try clear hb2);(try clear hk);(try clear hi)))
        go_ret
        exact ⟨by first|rfl|(simp [errW_none,errW_some] <;> rfl)|(simp [*,errW_none,errW_some] <;> rfl),by repeat (first|(with_reducible first|exact HB.out|apply sa|apply sn|apply sd|refine sy ?_ (by assumption))|exact HB.out)⟩
      · replace c44:=Bool.eq_false_iff.mpr c44
        subst c44
        have H1 : ((stroke_Near.f a0_0 a0_1 a0_2 a0_3 a0_4 a0_5 a1 a2).bind fun t351 => ((stroke_Near.f a0_0 a0_1 (wrap64 (Int.tdiv (wrap64 (a0_0 + a0_2)) 2)) (wrap64 (Int.tdiv (wrap64 (a0_1 + a0_3)) 2)) a0_4 a0_5 a1 a2).bind fun t352 => (if t352 = true then (if (t351 == true) = true then ((celluloidlaw18_awake.f kj3).bind fun t353 => (some t353)) else (some false)) else ((stroke_Near.f (wrap64 (Int.tdiv (wrap64 (a0_0 + a0_2)) 2)) (wrap64 (Int.tdiv (wrap64 (a0_1 + a0_3)) 2)) a0_2 a0_3 a0_4 a0_5 a1 a2).bind fun t354 => (if (t351 == t354) = true then ((celluloidlaw18_awake.f kj3).bind fun t355 => (some t355)) else (some false)))))) = some r:=by rw [if_neg (show ¬ (false = true) by decide)] at H;exact H
        clear H;have H:=H1;clear H1;replace H:=Option.bind_eq_some_iff.mp H;obtain ⟨t351,A470,H⟩:=H;replace H : ((stroke_Near.f a0_0 a0_1 (wrap64 (Int.tdiv (wrap64 (a0_0 + a0_2)) 2)) (wrap64 (Int.tdiv (wrap64 (a0_1 + a0_3)) 2)) a0_4 a0_5 a1 a2).bind fun t352 => (if t352 = true then (if (t351 == true) = true then ((celluloidlaw18_awake.f kj3).bind fun t353 => (some t353)) else (some false)) else ((stroke_Near.f (wrap64 (Int.tdiv (wrap64 (a0_0 + a0_2)) 2)) (wrap64 (Int.tdiv (wrap64 (a0_1 + a0_3)) 2)) a0_2 a0_3 a0_4 a0_5 a1 a2).bind fun t354 => (if (t351 == t354) = true then ((celluloidlaw18_awake.f kj3).bind fun t355 => (some t355)) else (some false))))) = some r:=H;have A47:=am A470;clear A470;replace H:=Option.bind_eq_some_iff.mp H;obtain ⟨t352,A480,H⟩:=H;replace H : (if t352 = true then (if (t351 == true) = true then ((celluloidlaw18_awake.f kj3).bind fun t353 => (some t353)) else (some false)) else ((stroke_Near.f (wrap64 (Int.tdiv (wrap64 (a0_0 + a0_2)) 2)) (wrap64 (Int.tdiv (wrap64 (a0_1 + a0_3)) 2)) a0_2 a0_3 a0_4 a0_5 a1 a2).bind fun t354 => (if (t351 == t354) = true then ((celluloidlaw18_awake.f kj3).bind fun t355 => (some t355)) else (some false)))) = some r:=H;have A48:=am A480;clear A480
        by_cases c49 : t352 = true
        · subst c49
          have H1 : (if (t351 == true) = true then ((celluloidlaw18_awake.f kj3).bind fun t353 => (some t353)) else (some false)) = some r:=by rw [if_pos rfl] at H;exact H
          clear H;have H:=H1;clear H1
          by_cases c50 : (t351 == true) = true
          · rw [if_pos c50] at H
            have c50b0 : (t351 == true) = true:=c50
            (try (have c50b1 : decide (t351 = true) = true:=by simpa using c50))
            (try (have c50b2 : (t351 == true) = true:=by simpa using c50))
            clear c50;replace H:=Option.bind_eq_some_iff.mp H;obtain ⟨t353,A510,H⟩:=H;replace H : (some t353) = some r:=H;have A51:=am A510;clear A510;obtain rfl:=Option.some.inj H
            try go_wp2
            replace BK339:=am (bd BK339.out);replace BK340:=am (bd BK340.out);replace HB:=am (sd HB.out);refine start_ (n:=6) (S:=fun w' => w'.cell? ⟨gb339,0,none⟩ = some (.int .i64 a0_0) ∧ w'.cell? ⟨gb339,1,none⟩ = some (.int .i64 a0_1) ∧ w'.cell? ⟨gb339,2,none⟩ = some (.int .i64 a0_2) ∧ w'.cell? ⟨gb339,3,none⟩ = some (.int .i64 a0_3) ∧ w'.cell? ⟨gb339,4,none⟩ = some (.int .i64 a0_4) ∧ w'.cell? ⟨gb339,5,none⟩ = some (.int .i64 a0_5)) (ds:=[]) #[false,false,false,false,false,false] (by kernel_rfl) rfl rfl ⟨(bc BK339.out 0).trans rfl,(bc BK339.out 1).trans rfl,(bc BK339.out 2).trans rfl,(bc BK339.out 3).trans rfl,(bc BK339.out 4).trans rfl,(bc BK339.out 5).trans rfl⟩ (fun hHeld => ?_);generalize wc.drew = w52 at BK339 BK340 HB hHeld ⊢;refine take_ (i:=0) (N:=some 70) (v:=?_) (a':=?_) #[true,false,false,false,false,false] rfl rfl (by kernel_rfl) (fun _ _ _ h => h) (Or.inl ⟨by rfl,?_⟩) hHeld ?_ ?_
            rotate_left
            · rintro w' ⟨s0,s1,s2,s3,s4,s5⟩
              go_simp
              with_reducible rfl
            rotate_left
            · simp only [Act.put,q1,q2,q3,i64_w,i32_w]
              rfl
            refine take_ (i:=1) (N:=some 71) (v:=?_) (a':=?_) #[true,true,false,false,false,false] rfl rfl (by kernel_rfl) (fun _ _ _ h => h) (Or.inl ⟨by rfl,?_⟩) hHeld ?_ ?_
            rotate_left
            · rintro w' ⟨s0,s1,s2,s3,s4,s5⟩
              go_simp
              with_reducible rfl
            rotate_left
            · simp only [Act.put,q1,q2,q3,i64_w,i32_w]
              rfl
            refine join_ (σ:=Nat × Nat) 2 #[true,true,true,true,false,false] (fun s_ => [(8,.pointer (some ⟨s_.1,0,none⟩)),(9,.pointer (some ⟨s_.2,0,none⟩))]) (fun s_ w' => (w'.cell? ⟨gb339,0,none⟩ = some (.int .i64 a0_0) ∧ w'.cell? ⟨gb339,1,none⟩ = some (.int .i64 a0_1) ∧ w'.cell? ⟨gb339,2,none⟩ = some (.int .i64 a0_2) ∧ w'.cell? ⟨gb339,3,none⟩ = some (.int .i64 a0_3) ∧ w'.cell? ⟨gb339,4,none⟩ = some (.int .i64 a0_4) ∧ w'.cell? ⟨gb339,5,none⟩ = some (.int .i64 a0_5)) ∧ (w'.heap[gb339]? = some (.cells #[.int .i64 a0_0,.int .i64 a0_1,.int .i64 a0_2,.int .i64 a0_3,.int .i64 a0_4,.int .i64 a0_5] 25 (0,0))) ∧ (w'.heap[gb340]? = some (.cells #[.int .i64 (wrap64 (Int.tdiv (wrap64 (a0_0 + a0_2)) 2)),.int .i64 (wrap64 (Int.tdiv (wrap64 (a0_1 + a0_3)) 2))] 23 (0,0))) ∧ (w'.heap[s_.1]? = some (.cells #[.int .i64 0,.int .i64 0,.int .i64 0,.int .i64 0,.int .i64 0,.int .i64 0] 25 (0,0))) ∧ (w'.heap[s_.2]? = some (.cells #[.int .i64 0,.int .i64 0,.int .i64 0,.int .i64 0,.int .i64 0,.int .i64 0] 25 (0,0))) ∧ (w.heap.size ≤ s_.1) ∧ (w.heap.size ≤ s_.1) ∧ (gb339 ≠ s_.1) ∧ (s_.1 ≠ gb339) ∧ (gb340 ≠ s_.1) ∧ (s_.1 ≠ gb340) ∧ (s_.2 ≠ s_.1) ∧ (s_.1 ≠ s_.2) ∧ (w.heap.size ≤ s_.2) ∧ (w.heap.size ≤ s_.2) ∧ (gb339 ≠ s_.2) ∧ (s_.2 ≠ gb339) ∧ (gb340 ≠ s_.2) ∧ (s_.2 ≠ gb340) ∧ (Below w.heap.size w w')) ?_ ?_
            rotate_left
            · intro hCont
              refine two_ (i:=2) (j:=3) (Ni:=some 8) (Nj:=some 9) #[true,true,true,false,false,false] #[true,true,false,true,false,false] rfl rfl rfl rfl (by kernel_rfl) (by decide) (by decide) (fun K hK => ?_) (fun K hK => ?_)
              · skip
                refine box_step ?hg (N:=8) ?hd (cs:=#[.int .i64 0,.int .i64 0,.int .i64 0,.int .i64 0,.int .i64 0,.int .i64 0]) (t:=25) ?hr ?_;(case hd => rfl);(case hg => rfl);(case hr => first|(go_simp;done)|(go_simp;rfl))
                intro gb349 hg w53 hbox hb
                have BK349:=am (hbox);have GW349:=am ((by rw [hg];exact (sz (by repeat (first|(with_reducible first|exact HB.out|apply sa|apply sn|apply sd|refine sy ?_ (by assumption))|exact HB.out))) : w.heap.size ≤ gb349));have GE349:=am ((by rw [hg];exact (sz (by repeat (first|(with_reducible first|exact HB.out|apply sa|apply sn|apply sd|refine sy ?_ (by assumption))|exact HB.out))) : w.heap.size ≤ gb349));replace HB:=am (ss (by repeat (first|(with_reducible first|exact HB.out|apply sa|apply sn|apply sd|refine sy ?_ (by assumption))|exact HB.out)) hb);have NB339_349:=nb (by exact BK339.out) hg;have NB349_339:=ng (by exact BK339.out) hg;replace BK339:=am (bw (by exact BK339.out) hb);have NB340_349:=nb (by exact BK340.out) hg;have NB349_340:=ng (by exact BK340.out) hg;replace BK340:=am (bw (by exact BK340.out) hb);clear hb hbox hg;refine hK.out _ _ ⟨(bc BK339.out 0).trans rfl,(bc BK339.out 1).trans rfl,(bc BK339.out 2).trans rfl,(bc BK339.out 3).trans rfl,(bc BK339.out 4).trans rfl,(bc BK339.out 5).trans rfl⟩ (fun hHeld => ?_);clear hK K;refine norm_ (a':=?_) ?_ ?_
                rotate_left
                · show Act.put _ (some 8) _ = _
                  simp only [Act.put,q1,q2,q3,i64_w,i32_w]
                  rfl
                refine one_ (i:=3) (N:=some 9) #[true,true,true,true,false,false] rfl rfl (by kernel_rfl) (by decide) (fun K hK => ?_);refine box_step ?hg (N:=9) ?hd (cs:=#[.int .i64 0,.int .i64 0,.int .i64 0,.int .i64 0,.int .i64 0,.int .i64 0]) (t:=25) ?hr ?_;(case hd => rfl);(case hg => rfl);(case hr => first|(go_simp;done)|(go_simp;rfl))
                intro gb350 hg w54 hbox hb
                have BK350:=am (hbox);have GW350:=am ((by rw [hg];exact (sz (by repeat (first|(with_reducible first|exact HB.out|apply sa|apply sn|apply sd|refine sy ?_ (by assumption))|exact HB.out))) : w.heap.size ≤ gb350));have GE350:=am ((by rw [hg];exact (sz (by repeat (first|(with_reducible first|exact HB.out|apply sa|apply sn|apply sd|refine sy ?_ (by assumption))|exact HB.out))) : w.heap.size ≤ gb350));replace HB:=am (ss (by repeat (first|(with_reducible first|exact HB.out|apply sa|apply sn|apply sd|refine sy ?_ (by assumption))|exact HB.out)) hb);have NB339_350:=nb (by exact BK339.out) hg;have NB350_339:=ng (by exact BK339.out) hg;replace BK339:=am (bw (by exact BK339.out) hb);have NB340_350:=nb (by exact BK340.out) hg;have NB350_340:=ng (by exact BK340.out) hg;replace BK340:=am (bw (by exact BK340.out) hb);have NB349_350:=nb (by exact BK349.out) hg;have NB350_349:=ng (by exact BK349.out) hg;replace BK349:=am (bw (by exact BK349.out) hb);clear hb hbox hg;refine hK.out _ _ ⟨(bc BK339.out 0).trans rfl,(bc BK339.out 1).trans rfl,(bc BK339.out 2).trans rfl,(bc BK339.out 3).trans rfl,(bc BK339.out 4).trans rfl,(bc BK339.out 5).trans rfl⟩ (fun hHeld => ?_);clear hK K;refine norm_ (a':=?_) ?_ ?_
                rotate_left
                · show Act.put _ (some 9) _ = _
                  simp only [Act.put,q1,q2,q3,i64_w,i32_w]
                  rfl
                exact norm_ (by simp only [putAll,Act.put,q1,q2,q3]) (hCont (gb349,gb350) _ ⟨hHeld,(by exact BK339.out),(by exact BK340.out),(by exact BK349.out),(by exact BK350.out),GW349.out,GE349.out,NB339_349.out,NB349_339.out,NB340_349.out,NB349_340.out,NB350_349.out,NB349_350.out,GW350.out,GE350.out,NB339_350.out,NB350_339.out,NB340_350.out,NB350_340.out,(by repeat (first|(with_reducible first|exact HB.out|apply sa|apply sn|apply sd|refine sy ?_ (by assumption))|exact HB.out))⟩)
              · skip
                refine box_step ?hg (N:=9) ?hd (cs:=#[.int .i64 0,.int .i64 0,.int .i64 0,.int .i64 0,.int .i64 0,.int .i64 0]) (t:=25) ?hr ?_;(case hd => rfl);(case hg => rfl);(case hr => first|(go_simp;done)|(go_simp;rfl))
                intro gb350 hg w53 hbox hb
                have BK350:=am (hbox);have GW350:=am ((by rw [hg];exact (sz (by repeat (first|(with_reducible first|exact HB.out|apply sa|apply sn|apply sd|refine sy ?_ (by assumption))|exact HB.out))) : w.heap.size ≤ gb350));have GE350:=am ((by rw [hg];exact (sz (by repeat (first|(with_reducible first|exact HB.out|apply sa|apply sn|apply sd|refine sy ?_ (by assumption))|exact HB.out))) : w.heap.size ≤ gb350));replace HB:=am (ss (by repeat (first|(with_reducible first|exact HB.out|apply sa|apply sn|apply sd|refine sy ?_ (by assumption))|exact HB.out)) hb);have NB339_350:=nb (by exact BK339.out) hg;have NB350_339:=ng (by exact BK339.out) hg;replace BK339:=am (bw (by exact BK339.out) hb);have NB340_350:=nb (by exact BK340.out) hg;have NB350_340:=ng (by exact BK340.out) hg;replace BK340:=am (bw (by exact BK340.out) hb);clear hb hbox hg;refine hK.out _ _ ⟨(bc BK339.out 0).trans rfl,(bc BK339.out 1).trans rfl,(bc BK339.out 2).trans rfl,(bc BK339.out 3).trans rfl,(bc BK339.out 4).trans rfl,(bc BK339.out 5).trans rfl⟩ (fun hHeld => ?_);clear hK K;refine norm_ (a':=?_) ?_ ?_
                rotate_left
                · show Act.put _ (some 9) _ = _
                  simp only [Act.put,q1,q2,q3,i64_w,i32_w]
                  rfl
                refine one_ (i:=2) (N:=some 8) #[true,true,true,true,false,false] rfl rfl (by kernel_rfl) (by decide) (fun K hK => ?_);refine box_step ?hg (N:=8) ?hd (cs:=#[.int .i64 0,.int .i64 0,.int .i64 0,.int .i64 0,.int .i64 0,.int .i64 0]) (t:=25) ?hr ?_;(case hd => rfl);(case hg => rfl);(case hr => first|(go_simp;done)|(go_simp;rfl))
                intro gb349 hg w54 hbox hb
                have BK349:=am (hbox);have GW349:=am ((by rw [hg];exact (sz (by repeat (first|(with_reducible first|exact HB.out|apply sa|apply sn|apply sd|refine sy ?_ (by assumption))|exact HB.out))) : w.heap.size ≤ gb349));have GE349:=am ((by rw [hg];exact (sz (by repeat (first|(with_reducible first|exact HB.out|apply sa|apply sn|apply sd|refine sy ?_ (by assumption))|exact HB.out))) : w.heap.size ≤ gb349));replace HB:=am (ss (by repeat (first|(with_reducible first|exact HB.out|apply sa|apply sn|apply sd|refine sy ?_ (by assumption))|exact HB.out)) hb);have NB339_349:=nb (by exact BK339.out) hg;have NB349_339:=ng (by exact BK339.out) hg;replace BK339:=am (bw (by exact BK339.out) hb);have NB340_349:=nb (by exact BK340.out) hg;have NB349_340:=ng (by exact BK340.out) hg;replace BK340:=am (bw (by exact BK340.out) hb);have NB350_349:=nb (by exact BK350.out) hg;have NB349_350:=ng (by exact BK350.out) hg;replace BK350:=am (bw (by exact BK350.out) hb);clear hb hbox hg;refine hK.out _ _ ⟨(bc BK339.out 0).trans rfl,(bc BK339.out 1).trans rfl,(bc BK339.out 2).trans rfl,(bc BK339.out 3).trans rfl,(bc BK339.out 4).trans rfl,(bc BK339.out 5).trans rfl⟩ (fun hHeld => ?_);clear hK K;refine norm_ (a':=?_) ?_ ?_
                rotate_left
                · show Act.put _ (some 8) _ = _
                  simp only [Act.put,q1,q2,q3,i64_w,i32_w]
                  rfl
                exact norm_ (by simp only [putAll,Act.put,q1,q2,q3]) (hCont (gb349,gb350) _ ⟨hHeld,(by exact BK339.out),(by exact BK340.out),(by exact BK349.out),(by exact BK350.out),GW349.out,GE349.out,NB339_349.out,NB349_339.out,NB340_349.out,NB349_340.out,NB350_349.out,NB349_350.out,GW350.out,GE350.out,NB339_350.out,NB350_339.out,NB340_350.out,NB350_340.out,(by repeat (first|(with_reducible first|exact HB.out|apply sa|apply sn|apply sd|refine sy ?_ (by assumption))|exact HB.out))⟩)
            rintro ⟨gb349,gb350⟩ w55 ⟨hS_,h0_,h1_,h2_,h3_,h4_,h5_,h6_,h7_,h8_,h9_,h10_,h11_,h12_,h13_,h14_,h15_,h16_,h17_,h18_⟩
            have n0_ : Aside0 (w55.heap[gb339]? = some (.cells #[.int .i64 a0_0,.int .i64 a0_1,.int .i64 a0_2,.int .i64 a0_3,.int .i64 a0_4,.int .i64 a0_5] 25 (0,0))):=⟨h0_⟩;have n1_ : Aside0 (w55.heap[gb340]? = some (.cells #[.int .i64 (wrap64 (Int.tdiv (wrap64 (a0_0 + a0_2)) 2)),.int .i64 (wrap64 (Int.tdiv (wrap64 (a0_1 + a0_3)) 2))] 23 (0,0))):=⟨h1_⟩;have n2_ : Aside0 (w55.heap[gb349]? = some (.cells #[.int .i64 0,.int .i64 0,.int .i64 0,.int .i64 0,.int .i64 0,.int .i64 0] 25 (0,0))):=⟨h2_⟩;have n3_ : Aside0 (w55.heap[gb350]? = some (.cells #[.int .i64 0,.int .i64 0,.int .i64 0,.int .i64 0,.int .i64 0,.int .i64 0] 25 (0,0))):=⟨h3_⟩;have n4_ : Aside0 (w.heap.size ≤ gb349):=⟨h4_⟩;have n5_ : Aside0 (w.heap.size ≤ gb349):=⟨h5_⟩;have n6_ : Aside0 (gb339 ≠ gb349):=⟨h6_⟩;have n7_ : Aside0 (gb349 ≠ gb339):=⟨h7_⟩;have n8_ : Aside0 (gb340 ≠ gb349):=⟨h8_⟩;have n9_ : Aside0 (gb349 ≠ gb340):=⟨h9_⟩;have n10_ : Aside0 (gb350 ≠ gb349):=⟨h10_⟩;have n11_ : Aside0 (gb349 ≠ gb350):=⟨h11_⟩;have n12_ : Aside0 (w.heap.size ≤ gb350):=⟨h12_⟩;have n13_ : Aside0 (w.heap.size ≤ gb350):=⟨h13_⟩;have n14_ : Aside0 (gb339 ≠ gb350):=⟨h14_⟩;have n15_ : Aside0 (gb350 ≠ gb339):=⟨h15_⟩;have n16_ : Aside0 (gb340 ≠ gb350):=⟨h16_⟩;have n17_ : Aside0 (gb350 ≠ gb340):=⟨h17_⟩;have n18_ : Aside0 (Below w.heap.size w w55):=⟨h18_⟩;clear BK339;clear BK340;clear HB;clear h0_ h1_ h2_ h3_ h4_ h5_ h6_ h7_ h8_ h9_ h10_ h11_ h12_ h13_ h14_ h15_ h16_ h17_ h18_;have BK339:=n0_;have BK340:=n1_;have BK349:=n2_;have BK350:=n3_;have GW349:=n4_;have GE349:=n5_;have NB339_349:=n6_;have NB349_339:=n7_;have NB340_349:=n8_;have NB349_340:=n9_;have NB350_349:=n10_;have NB349_350:=n11_;have GW350:=n12_;have GE350:=n13_;have NB339_350:=n14_;have NB350_339:=n15_;have NB340_350:=n16_;have NB350_340:=n17_;have HB:=n18_;clear n0_ n1_ n2_ n3_ n4_ n5_ n6_ n7_ n8_ n9_ n10_ n11_ n12_ n13_ n14_ n15_ n16_ n17_ n18_;have hHeld : w55.cell? ⟨gb339,0,none⟩ = some (.int .i64 a0_0) ∧ w55.cell? ⟨gb339,1,none⟩ = some (.int .i64 a0_1) ∧ w55.cell? ⟨gb339,2,none⟩ = some (.int .i64 a0_2) ∧ w55.cell? ⟨gb339,3,none⟩ = some (.int .i64 a0_3) ∧ w55.cell? ⟨gb339,4,none⟩ = some (.int .i64 a0_4) ∧ w55.cell? ⟨gb339,5,none⟩ = some (.int .i64 a0_5):=hS_;refine norm_ (a':=?_) ?_ ?_
            rotate_left
            · simp only [putAll,Act.put,q1,q2,q3]
              rfl
            refine one_ (i:=4) (N:=none) #[true,true,true,true,true,false] rfl rfl (by kernel_rfl) (by decide) (fun K hK => ?_);have hs56 : w55.cell? ⟨gb349,0,none⟩ = some (.int .i64 0):=(bc BK349.out 0).trans rfl;have hfs56:=bz BK349.out 0;have hns56_0:=NB339_349.out;have hns56_1:=NB340_349.out;have hns56_3:=NB350_349.out;have hms56_0:=NB349_339.out;have hms56_1:=NB349_340.out;have hms56_3:=NB349_350.out;have hs57 : w55.cell? ⟨gb349,1,none⟩ = some (.int .i64 0):=(bc BK349.out 1).trans rfl;have hfs57:=bz BK349.out 1;have hns57_0:=NB339_349.out;have hns57_1:=NB340_349.out;have hns57_3:=NB350_349.out;have hms57_0:=NB349_339.out;have hms57_1:=NB349_340.out;have hms57_3:=NB349_350.out;have hs58 : w55.cell? ⟨gb349,2,none⟩ = some (.int .i64 0):=(bc BK349.out 2).trans rfl;have hfs58:=bz BK349.out 2;have hns58_0:=NB339_349.out;have hns58_1:=NB340_349.out;have hns58_3:=NB350_349.out;have hms58_0:=NB349_339.out;have hms58_1:=NB349_340.out;have hms58_3:=NB349_350.out;have hs59 : w55.cell? ⟨gb349,3,none⟩ = some (.int .i64 0):=(bc BK349.out 3).trans rfl;have hfs59:=bz BK349.out 3;have hns59_0:=NB339_349.out;have hns59_1:=NB340_349.out;have hns59_3:=NB350_349.out;have hms59_0:=NB349_339.out;have hms59_1:=NB349_340.out;have hms59_3:=NB349_350.out;have hs60 : w55.cell? ⟨gb349,4,none⟩ = some (.int .i64 0):=(bc BK349.out 4).trans rfl;have hfs60:=bz BK349.out 4;have hns60_0:=NB339_349.out;have hns60_1:=NB340_349.out;have hns60_3:=NB350_349.out;have hms60_0:=NB349_339.out;have hms60_1:=NB349_340.out;have hms60_3:=NB349_350.out;have hs61 : w55.cell? ⟨gb349,5,none⟩ = some (.int .i64 0):=(bc BK349.out 5).trans rfl;have hfs61:=bz BK349.out 5;have hns61_0:=NB339_349.out;have hns61_1:=NB340_349.out;have hns61_3:=NB350_349.out;have hms61_0:=NB349_339.out;have hms61_1:=NB349_340.out;have hms61_3:=NB349_350.out;refine skip_ (w1:=?_) (by rfl) rfl ?_ ?_
            rotate_left
            · go_simp
              rfl
            refine hK.out _ _ ⟨((cell_far (p:=⟨gb349,_,none⟩) NB339_349.out _).trans (((cell_far (p:=⟨gb349,_,none⟩) NB339_349.out _).trans (((cell_far (p:=⟨gb349,_,none⟩) NB339_349.out _).trans (((cell_far (p:=⟨gb349,_,none⟩) NB339_349.out _).trans (((cell_far (p:=⟨gb349,_,none⟩) NB339_349.out _).trans (((cell_far (p:=⟨gb349,_,none⟩) NB339_349.out _).trans (hHeld.1)))))))))))),((cell_far (p:=⟨gb349,_,none⟩) NB339_349.out _).trans (((cell_far (p:=⟨gb349,_,none⟩) NB339_349.out _).trans (((cell_far (p:=⟨gb349,_,none⟩) NB339_349.out _).trans (((cell_far (p:=⟨gb349,_,none⟩) NB339_349.out _).trans (((cell_far (p:=⟨gb349,_,none⟩) NB339_349.out _).trans (((cell_far (p:=⟨gb349,_,none⟩) NB339_349.out _).trans (hHeld.2.1)))))))))))),((cell_far (p:=⟨gb349,_,none⟩) NB339_349.out _).trans (((cell_far (p:=⟨gb349,_,none⟩) NB339_349.out _).trans (((cell_far (p:=⟨gb349,_,none⟩) NB339_349.out _).trans (((cell_far (p:=⟨gb349,_,none⟩) NB339_349.out _).trans (((cell_far (p:=⟨gb349,_,none⟩) NB339_349.out _).trans (((cell_far (p:=⟨gb349,_,none⟩) NB339_349.out _).trans (hHeld.2.2.1)))))))))))),((cell_far (p:=⟨gb349,_,none⟩) NB339_349.out _).trans (((cell_far (p:=⟨gb349,_,none⟩) NB339_349.out _).trans (((cell_far (p:=⟨gb349,_,none⟩) NB339_349.out _).trans (((cell_far (p:=⟨gb349,_,none⟩) NB339_349.out _).trans (((cell_far (p:=⟨gb349,_,none⟩) NB339_349.out _).trans (((cell_far (p:=⟨gb349,_,none⟩) NB339_349.out _).trans (hHeld.2.2.2.1)))))))))))),((cell_far (p:=⟨gb349,_,none⟩) NB339_349.out _).trans (((cell_far (p:=⟨gb349,_,none⟩) NB339_349.out _).trans (((cell_far (p:=⟨gb349,_,none⟩) NB339_349.out _).trans (((cell_far (p:=⟨gb349,_,none⟩) NB339_349.out _).trans (((cell_far (p:=⟨gb349,_,none⟩) NB339_349.out _).trans (((cell_far (p:=⟨gb349,_,none⟩) NB339_349.out _).trans (hHeld.2.2.2.2.1)))))))))))),((cell_far (p:=⟨gb349,_,none⟩) NB339_349.out _).trans (((cell_far (p:=⟨gb349,_,none⟩) NB339_349.out _).trans (((cell_far (p:=⟨gb349,_,none⟩) NB339_349.out _).trans (((cell_far (p:=⟨gb349,_,none⟩) NB339_349.out _).trans (((cell_far (p:=⟨gb349,_,none⟩) NB339_349.out _).trans (((cell_far (p:=⟨gb349,_,none⟩) NB339_349.out _).trans (hHeld.2.2.2.2.2))))))))))))⟩ (fun hHeld => ?_);clear hK K;refine one_ (i:=5) (N:=none) #[true,true,true,true,true,true] rfl rfl (by kernel_rfl) (by decide) (fun K hK => ?_);have hs62 : w55.cell? ⟨gb350,0,none⟩ = some (.int .i64 0):=(bc BK350.out 0).trans rfl;have hfs62:=bz BK350.out 0;have hns62_0:=NB339_350.out;have hns62_1:=NB340_350.out;have hns62_2:=NB349_350.out;have hms62_0:=NB350_339.out;have hms62_1:=NB350_340.out;have hms62_2:=NB350_349.out;have hs63 : w55.cell? ⟨gb350,1,none⟩ = some (.int .i64 0):=(bc BK350.out 1).trans rfl;have hfs63:=bz BK350.out 1;have hns63_0:=NB339_350.out;have hns63_1:=NB340_350.out;have hns63_2:=NB349_350.out;have hms63_0:=NB350_339.out;have hms63_1:=NB350_340.out;have hms63_2:=NB350_349.out;have hs64 : w55.cell? ⟨gb350,2,none⟩ = some (.int .i64 0):=(bc BK350.out 2).trans rfl;have hfs64:=bz BK350.out 2;have hns64_0:=NB339_350.out;have hns64_1:=NB340_350.out;have hns64_2:=NB349_350.out;have hms64_0:=NB350_339.out;have hms64_1:=NB350_340.out;have hms64_2:=NB350_349.out;have hs65 : w55.cell? ⟨gb350,3,none⟩ = some (.int .i64 0):=(bc BK350.out 3).trans rfl;have hfs65:=bz BK350.out 3;have hns65_0:=NB339_350.out;have hns65_1:=NB340_350.out;have hns65_2:=NB349_350.out;have hms65_0:=NB350_339.out;have hms65_1:=NB350_340.out;have hms65_2:=NB350_349.out;have hs66 : w55.cell? ⟨gb350,4,none⟩ = some (.int .i64 0):=(bc BK350.out 4).trans rfl;have hfs66:=bz BK350.out 4;have hns66_0:=NB339_350.out;have hns66_1:=NB340_350.out;have hns66_2:=NB349_350.out;have hms66_0:=NB350_339.out;have hms66_1:=NB350_340.out;have hms66_2:=NB350_349.out;have hs67 : w55.cell? ⟨gb350,5,none⟩ = some (.int .i64 0):=(bc BK350.out 5).trans rfl;have hfs67:=bz BK350.out 5;have hns67_0:=NB339_350.out;have hns67_1:=NB340_350.out;have hns67_2:=NB349_350.out;have hms67_0:=NB350_339.out;have hms67_1:=NB350_340.out;have hms67_2:=NB350_349.out;refine skip_ (w1:=?_) (by rfl) rfl ?_ ?_
            rotate_left
            · go_simp
              rfl
            refine hK.out _ _ ⟨((cell_far (p:=⟨gb350,_,none⟩) NB339_350.out _).trans (((cell_far (p:=⟨gb350,_,none⟩) NB339_350.out _).trans (((cell_far (p:=⟨gb350,_,none⟩) NB339_350.out _).trans (((cell_far (p:=⟨gb350,_,none⟩) NB339_350.out _).trans (((cell_far (p:=⟨gb350,_,none⟩) NB339_350.out _).trans (((cell_far (p:=⟨gb350,_,none⟩) NB339_350.out _).trans (hHeld.1)))))))))))),((cell_far (p:=⟨gb350,_,none⟩) NB339_350.out _).trans (((cell_far (p:=⟨gb350,_,none⟩) NB339_350.out _).trans (((cell_far (p:=⟨gb350,_,none⟩) NB339_350.out _).trans (((cell_far (p:=⟨gb350,_,none⟩) NB339_350.out _).trans (((cell_far (p:=⟨gb350,_,none⟩) NB339_350.out _).trans (((cell_far (p:=⟨gb350,_,none⟩) NB339_350.out _).trans (hHeld.2.1)))))))))))),((cell_far (p:=⟨gb350,_,none⟩) NB339_350.out _).trans (((cell_far (p:=⟨gb350,_,none⟩) NB339_350.out _).trans (((cell_far (p:=⟨gb350,_,none⟩) NB339_350.out _).trans (((cell_far (p:=⟨gb350,_,none⟩) NB339_350.out _).trans (((cell_far (p:=⟨gb350,_,none⟩) NB339_350.out _).trans (((cell_far (p:=⟨gb350,_,none⟩) NB339_350.out _).trans (hHeld.2.2.1)))))))))))),((cell_far (p:=⟨gb350,_,none⟩) NB339_350.out _).trans (((cell_far (p:=⟨gb350,_,none⟩) NB339_350.out _).trans (((cell_far (p:=⟨gb350,_,none⟩) NB339_350.out _).trans (((cell_far (p:=⟨gb350,_,none⟩) NB339_350.out _).trans (((cell_far (p:=⟨gb350,_,none⟩) NB339_350.out _).trans (((cell_far (p:=⟨gb350,_,none⟩) NB339_350.out _).trans (hHeld.2.2.2.1)))))))))))),((cell_far (p:=⟨gb350,_,none⟩) NB339_350.out _).trans (((cell_far (p:=⟨gb350,_,none⟩) NB339_350.out _).trans (((cell_far (p:=⟨gb350,_,none⟩) NB339_350.out _).trans (((cell_far (p:=⟨gb350,_,none⟩) NB339_350.out _).trans (((cell_far (p:=⟨gb350,_,none⟩) NB339_350.out _).trans (((cell_far (p:=⟨gb350,_,none⟩) NB339_350.out _).trans (hHeld.2.2.2.2.1)))))))))))),((cell_far (p:=⟨gb350,_,none⟩) NB339_350.out _).trans (((cell_far (p:=⟨gb350,_,none⟩) NB339_350.out _).trans (((cell_far (p:=⟨gb350,_,none⟩) NB339_350.out _).trans (((cell_far (p:=⟨gb350,_,none⟩) NB339_350.out _).trans (((cell_far (p:=⟨gb350,_,none⟩) NB339_350.out _).trans (((cell_far (p:=⟨gb350,_,none⟩) NB339_350.out _).trans (hHeld.2.2.2.2.2))))))))))))⟩ (fun hHeld => ?_);clear hK K;refine done_ (by kernel_rfl) ?_
            try go_wp2
            have n0_ : Aside0 (((((((((((((w55.setCell ⟨gb349,0,none⟩ (.int .i64 a0_0)).setCell ⟨gb349,1,none⟩ (.int .i64 a0_1)).setCell ⟨gb349,2,none⟩ (.int .i64 a0_2)).setCell ⟨gb349,3,none⟩ (.int .i64 a0_3)).setCell ⟨gb349,4,none⟩ (.int .i64 a0_4)).setCell ⟨gb349,5,none⟩ (.int .i64 a0_5)).setCell ⟨gb350,0,none⟩ (.int .i64 a0_0)).setCell ⟨gb350,1,none⟩ (.int .i64 a0_1)).setCell ⟨gb350,2,none⟩ (.int .i64 a0_2)).setCell ⟨gb350,3,none⟩ (.int .i64 a0_3)).setCell ⟨gb350,4,none⟩ (.int .i64 a0_4)).setCell ⟨gb350,5,none⟩ (.int .i64 a0_5)).heap[gb339]? = some (.cells #[.int .i64 a0_0,.int .i64 a0_1,.int .i64 a0_2,.int .i64 a0_3,.int .i64 a0_4,.int .i64 a0_5] 25 (0,0))):=⟨by (with_reducible repeat (first|refine bn ?_ _|refine bd ?_|refine ba ?_ _|refine bf ?_ NB339_350.out _|refine bf ?_ NB339_349.out _));exact BK339.out⟩;have n1_ : Aside0 (((((((((((((w55.setCell ⟨gb349,0,none⟩ (.int .i64 a0_0)).setCell ⟨gb349,1,none⟩ (.int .i64 a0_1)).setCell ⟨gb349,2,none⟩ (.int .i64 a0_2)).setCell ⟨gb349,3,none⟩ (.int .i64 a0_3)).setCell ⟨gb349,4,none⟩ (.int .i64 a0_4)).setCell ⟨gb349,5,none⟩ (.int .i64 a0_5)).setCell ⟨gb350,0,none⟩ (.int .i64 a0_0)).setCell ⟨gb350,1,none⟩ (.int .i64 a0_1)).setCell ⟨gb350,2,none⟩ (.int .i64 a0_2)).setCell ⟨gb350,3,none⟩ (.int .i64 a0_3)).setCell ⟨gb350,4,none⟩ (.int .i64 a0_4)).setCell ⟨gb350,5,none⟩ (.int .i64 a0_5)).heap[gb340]? = some (.cells #[.int .i64 (wrap64 (Int.tdiv (wrap64 (a0_0 + a0_2)) 2)),.int .i64 (wrap64 (Int.tdiv (wrap64 (a0_1 + a0_3)) 2))] 23 (0,0))):=⟨by (with_reducible repeat (first|refine bn ?_ _|refine bd ?_|refine ba ?_ _|refine bf ?_ NB340_350.out _|refine bf ?_ NB340_349.out _));exact BK340.out⟩;have n2_ : Aside0 (((((((((((((w55.setCell ⟨gb349,0,none⟩ (.int .i64 a0_0)).setCell ⟨gb349,1,none⟩ (.int .i64 a0_1)).setCell ⟨gb349,2,none⟩ (.int .i64 a0_2)).setCell ⟨gb349,3,none⟩ (.int .i64 a0_3)).setCell ⟨gb349,4,none⟩ (.int .i64 a0_4)).setCell ⟨gb349,5,none⟩ (.int .i64 a0_5)).setCell ⟨gb350,0,none⟩ (.int .i64 a0_0)).setCell ⟨gb350,1,none⟩ (.int .i64 a0_1)).setCell ⟨gb350,2,none⟩ (.int .i64 a0_2)).setCell ⟨gb350,3,none⟩ (.int .i64 a0_3)).setCell ⟨gb350,4,none⟩ (.int .i64 a0_4)).setCell ⟨gb350,5,none⟩ (.int .i64 a0_5)).heap[gb349]? = some (.cells #[.int .i64 a0_0,.int .i64 a0_1,.int .i64 a0_2,.int .i64 a0_3,.int .i64 a0_4,.int .i64 a0_5] 25 (0,0))):=⟨by (with_reducible repeat (first|refine bn ?_ _|refine bd ?_|refine ba ?_ _));refine bf ?_ NB349_350.out _;(with_reducible repeat (first|refine bn ?_ _|refine bd ?_|refine ba ?_ _));refine bf ?_ NB349_350.out _;(with_reducible repeat (first|refine bn ?_ _|refine bd ?_|refine ba ?_ _));refine bf ?_ NB349_350.out _;(with_reducible repeat (first|refine bn ?_ _|refine bd ?_|refine ba ?_ _));refine bf ?_ NB349_350.out _;(with_reducible repeat (first|refine bn ?_ _|refine bd ?_|refine ba ?_ _));refine bf ?_ NB349_350.out _;(with_reducible repeat (first|refine bn ?_ _|refine bd ?_|refine ba ?_ _));refine bf ?_ NB349_350.out _;(with_reducible repeat (first|refine bn ?_ _|refine bd ?_|refine ba ?_ _));refine bp (cs:=#[.int .i64 a0_0,.int .i64 a0_1,.int .i64 a0_2,.int .i64 a0_3,.int .i64 a0_4,.int .i64 0]) ?_ 5 _ rfl;(with_reducible repeat (first|refine bn ?_ _|refine bd ?_|refine ba ?_ _));refine bp (cs:=#[.int .i64 a0_0,.int .i64 a0_1,.int .i64 a0_2,.int .i64 a0_3,.int .i64 0,.int .i64 0]) ?_ 4 _ rfl;(with_reducible repeat (first|refine bn ?_ _|refine bd ?_|refine ba ?_ _));refine bp (cs:=#[.int .i64 a0_0,.int .i64 a0_1,.int .i64 a0_2,.int .i64 0,.int .i64 0,.int .i64 0]) ?_ 3 _ rfl;(with_reducible repeat (first|refine bn ?_ _|refine bd ?_|refine ba ?_ _));refine bp (cs:=#[.int .i64 a0_0,.int .i64 a0_1,.int .i64 0,.int .i64 0,.int .i64 0,.int .i64 0]) ?_ 2 _ rfl;(with_reducible repeat (first|refine bn ?_ _|refine bd ?_|refine ba ?_ _));refine bp (cs:=#[.int .i64 a0_0,.int .i64 0,.int .i64 0,.int .i64 0,.int .i64 0,.int .i64 0]) ?_ 1 _ rfl;(with_reducible repeat (first|refine bn ?_ _|refine bd ?_|refine ba ?_ _));refine bp (cs:=#[.int .i64 0,.int .i64 0,.int .i64 0,.int .i64 0,.int .i64 0,.int .i64 0]) ?_ 0 _ rfl;(with_reducible repeat (first|refine bn ?_ _|refine bd ?_|refine ba ?_ _));exact BK349.out⟩;have n3_ : Aside0 (((((((((((((w55.setCell ⟨gb349,0,none⟩ (.int .i64 a0_0)).setCell ⟨gb349,1,none⟩ (.int .i64 a0_1)).setCell ⟨gb349,2,none⟩ (.int .i64 a0_2)).setCell ⟨gb349,3,none⟩ (.int .i64 a0_3)).setCell ⟨gb349,4,none⟩ (.int .i64 a0_4)).setCell ⟨gb349,5,none⟩ (.int .i64 a0_5)).setCell ⟨gb350,0,none⟩ (.int .i64 a0_0)).setCell ⟨gb350,1,none⟩ (.int .i64 a0_1)).setCell ⟨gb350,2,none⟩ (.int .i64 a0_2)).setCell ⟨gb350,3,none⟩ (.int .i64 a0_3)).setCell ⟨gb350,4,none⟩ (.int .i64 a0_4)).setCell ⟨gb350,5,none⟩ (.int .i64 a0_5)).heap[gb350]? = some (.cells #[.int .i64 a0_0,.int .i64 a0_1,.int .i64 a0_2,.int .i64 a0_3,.int .i64 a0_4,.int .i64 a0_5] 25 (0,0))):=⟨by (with_reducible repeat (first|refine bn ?_ _|refine bd ?_|refine ba ?_ _));refine bp (cs:=#[.int .i64 a0_0,.int .i64 a0_1,.int .i64 a0_2,.int .i64 a0_3,.int .i64 a0_4,.int .i64 0]) ?_ 5 _ rfl;(with_reducible repeat (first|refine bn ?_ _|refine bd ?_|refine ba ?_ _));refine bp (cs:=#[.int .i64 a0_0,.int .i64 a0_1,.int .i64 a0_2,.int .i64 a0_3,.int .i64 0,.int .i64 0]) ?_ 4 _ rfl;(with_reducible repeat (first|refine bn ?_ _|refine bd ?_|refine ba ?_ _));refine bp (cs:=#[.int .i64 a0_0,.int .i64 a0_1,.int .i64 a0_2,.int .i64 0,.int .i64 0,.int .i64 0]) ?_ 3 _ rfl;(with_reducible repeat (first|refine bn ?_ _|refine bd ?_|refine ba ?_ _));refine bp (cs:=#[.int .i64 a0_0,.int .i64 a0_1,.int .i64 0,.int .i64 0,.int .i64 0,.int .i64 0]) ?_ 2 _ rfl;(with_reducible repeat (first|refine bn ?_ _|refine bd ?_|refine ba ?_ _));refine bp (cs:=#[.int .i64 a0_0,.int .i64 0,.int .i64 0,.int .i64 0,.int .i64 0,.int .i64 0]) ?_ 1 _ rfl;(with_reducible repeat (first|refine bn ?_ _|refine bd ?_|refine ba ?_ _));refine bp (cs:=#[.int .i64 0,.int .i64 0,.int .i64 0,.int .i64 0,.int .i64 0,.int .i64 0]) ?_ 0 _ rfl;(with_reducible repeat (first|refine bn ?_ _|refine bd ?_|refine ba ?_ _));refine bf ?_ NB350_349.out _;(with_reducible repeat (first|refine bn ?_ _|refine bd ?_|refine ba ?_ _));refine bf ?_ NB350_349.out _;(with_reducible repeat (first|refine bn ?_ _|refine bd ?_|refine ba ?_ _));refine bf ?_ NB350_349.out _;(with_reducible repeat (first|refine bn ?_ _|refine bd ?_|refine ba ?_ _));refine bf ?_ NB350_349.out _;(with_reducible repeat (first|refine bn ?_ _|refine bd ?_|refine ba ?_ _));refine bf ?_ NB350_349.out _;(with_reducible repeat (first|refine bn ?_ _|refine bd ?_|refine ba ?_ _));refine bf ?_ NB350_349.out _;(with_reducible repeat (first|refine bn ?_ _|refine bd ?_|refine ba ?_ _));exact BK350.out⟩;have n4_ : Aside0 (Below w.heap.size w ((((((((((((w55.setCell ⟨gb349,0,none⟩ (.int .i64 a0_0)).setCell ⟨gb349,1,none⟩ (.int .i64 a0_1)).setCell ⟨gb349,2,none⟩ (.int .i64 a0_2)).setCell ⟨gb349,3,none⟩ (.int .i64 a0_3)).setCell ⟨gb349,4,none⟩ (.int .i64 a0_4)).setCell ⟨gb349,5,none⟩ (.int .i64 a0_5)).setCell ⟨gb350,0,none⟩ (.int .i64 a0_0)).setCell ⟨gb350,1,none⟩ (.int .i64 a0_1)).setCell ⟨gb350,2,none⟩ (.int .i64 a0_2)).setCell ⟨gb350,3,none⟩ (.int .i64 a0_3)).setCell ⟨gb350,4,none⟩ (.int .i64 a0_4)).setCell ⟨gb350,5,none⟩ (.int .i64 a0_5))):=⟨by repeat (first|(with_reducible first|exact HB.out|apply sa|apply sn|apply sd|refine sy ?_ (by assumption))|exact HB.out)⟩;(try clear BK339);(try clear BK340);(try clear BK349);(try clear BK350);(try clear HB);generalize ((((((((((((w55.setCell ⟨gb349,0,none⟩ (.int .i64 a0_0)).setCell ⟨gb349,1,none⟩ (.int .i64 a0_1)).setCell ⟨gb349,2,none⟩ (.int .i64 a0_2)).setCell ⟨gb349,3,none⟩ (.int .i64 a0_3)).setCell ⟨gb349,4,none⟩ (.int .i64 a0_4)).setCell ⟨gb349,5,none⟩ (.int .i64 a0_5)).setCell ⟨gb350,0,none⟩ (.int .i64 a0_0)).setCell ⟨gb350,1,none⟩ (.int .i64 a0_1)).setCell ⟨gb350,2,none⟩ (.int .i64 a0_2)).setCell ⟨gb350,3,none⟩ (.int .i64 a0_3)).setCell ⟨gb350,4,none⟩ (.int .i64 a0_4)).setCell ⟨gb350,5,none⟩ (.int .i64 a0_5)) = w68 at n0_ n1_ n2_ n3_ n4_ ⊢;have BK339:=n0_;have BK340:=n1_;have BK349:=n2_;have BK350:=n3_;have HB:=n4_;clear n0_ n1_ n2_ n3_ n4_;replace BK339:=am (bd BK339.out);replace BK340:=am (bd BK340.out);replace BK349:=am (bd BK349.out);replace BK350:=am (bd BK350.out);replace HB:=am (sd HB.out);refine start_ (n:=6) (S:=fun w' => w'.cell? ⟨gb340,0,none⟩ = some (.int .i64 (wrap64 (Int.tdiv (wrap64 (a0_0 + a0_2)) 2))) ∧ w'.cell? ⟨gb340,1,none⟩ = some (.int .i64 (wrap64 (Int.tdiv (wrap64 (a0_1 + a0_3)) 2)))) (ds:=[]) #[false,false,false,false,false,false] (by kernel_rfl) rfl rfl ⟨(bc BK340.out 0).trans rfl,(bc BK340.out 1).trans rfl⟩ (fun hHeld => ?_);generalize w68.drew = w69 at BK339 BK340 BK349 BK350 HB hHeld ⊢;refine take_ (i:=0) (N:=some 72) (v:=?_) (a':=?_) #[true,false,false,false,false,false] rfl rfl (by kernel_rfl) (fun _ _ _ h => h) (Or.inl ⟨by rfl,?_⟩) hHeld ?_ ?_
            rotate_left
            · rintro w' ⟨s0,s1⟩
              go_simp
              with_reducible rfl
            rotate_left
            · simp only [Act.put,q1,q2,q3,i64_w,i32_w]
              rfl
            refine pure_ (i:=2) (N:=some 74) (v:=?_) (a':=?_) #[true,false,true,false,false,false] rfl rfl (by kernel_rfl) (fun _ _ _ h => h) (Or.inl ⟨by rfl,?_⟩) ?_ ?_
            rotate_left
            · intro w'
              go_simp
              with_reducible rfl
            rotate_left
            · simp only [Act.put,q1,q2,q3,i64_w,i32_w]
              rfl
            refine take_ (i:=1) (N:=some 73) (v:=?_) (a':=?_) #[true,true,true,false,false,false] rfl rfl (by kernel_rfl) (fun _ _ _ h => h) (Or.inl ⟨by rfl,?_⟩) hHeld ?_ ?_
            rotate_left
            · rintro w' ⟨s0,s1⟩
              go_simp
              with_reducible rfl
            rotate_left
            · simp only [Act.put,q1,q2,q3,i64_w,i32_w]
              rfl
            refine one_ (i:=3) (N:=none) #[true,true,true,true,false,false] rfl rfl (by kernel_rfl) (by decide) (fun K hK => ?_);have hs70 : w69.cell? ⟨gb349,2,none⟩ = some (.int .i64 a0_2):=(bc BK349.out 2).trans rfl;have hfs70:=bz BK349.out 2;have hns70_0:=NB339_349.out;have hns70_1:=NB340_349.out;have hns70_3:=NB350_349.out;have hms70_0:=NB349_339.out;have hms70_1:=NB349_340.out;have hms70_3:=NB349_350.out;have hs71 : w69.cell? ⟨gb349,3,none⟩ = some (.int .i64 a0_3):=(bc BK349.out 3).trans rfl;have hfs71:=bz BK349.out 3;have hns71_0:=NB339_349.out;have hns71_1:=NB340_349.out;have hns71_3:=NB350_349.out;have hms71_0:=NB349_339.out;have hms71_1:=NB349_340.out;have hms71_3:=NB349_350.out;refine skip_ (w1:=?_) (by rfl) rfl ?_ ?_
            rotate_left
            · go_simp
              rfl
            refine hK.out _ _ ⟨((cell_far (p:=⟨gb349,_,none⟩) NB340_349.out _).trans (((cell_far (p:=⟨gb349,_,none⟩) NB340_349.out _).trans (hHeld.1)))),((cell_far (p:=⟨gb349,_,none⟩) NB340_349.out _).trans (((cell_far (p:=⟨gb349,_,none⟩) NB340_349.out _).trans (hHeld.2))))⟩ (fun hHeld => ?_);clear hK K;refine pure_ (i:=4) (N:=some 75) (v:=?_) (a':=?_) #[true,true,true,true,true,false] rfl rfl (by kernel_rfl) (fun _ _ _ h => h) (Or.inl ⟨by rfl,?_⟩) ?_ ?_
            rotate_left
            · intro w'
              go_simp
              with_reducible rfl
            rotate_left
            · simp only [Act.put,q1,q2,q3,i64_w,i32_w]
              rfl
            refine one_ (i:=5) (N:=none) #[true,true,true,true,true,true] rfl rfl (by kernel_rfl) (by decide) (fun K hK => ?_);have hs72 : w69.cell? ⟨gb350,0,none⟩ = some (.int .i64 a0_0):=(bc BK350.out 0).trans rfl;have hfs72:=bz BK350.out 0;have hns72_0:=NB339_350.out;have hns72_1:=NB340_350.out;have hns72_2:=NB349_350.out;have hms72_0:=NB350_339.out;have hms72_1:=NB350_340.out;have hms72_2:=NB350_349.out;have hs73 : w69.cell? ⟨gb350,1,none⟩ = some (.int .i64 a0_1):=(bc BK350.out 1).trans rfl;have hfs73:=bz BK350.out 1;have hns73_0:=NB339_350.out;have hns73_1:=NB340_350.out;have hns73_2:=NB349_350.out;have hms73_0:=NB350_339.out;have hms73_1:=NB350_340.out;have hms73_2:=NB350_349.out;refine skip_ (w1:=?_) (by rfl) rfl ?_ ?_
            rotate_left
            · go_simp
              rfl
            refine hK.out _ _ ⟨((cell_far (p:=⟨gb350,_,none⟩) NB340_350.out _).trans (((cell_far (p:=⟨gb350,_,none⟩) NB340_350.out _).trans (hHeld.1)))),((cell_far (p:=⟨gb350,_,none⟩) NB340_350.out _).trans (((cell_far (p:=⟨gb350,_,none⟩) NB340_350.out _).trans (hHeld.2))))⟩ (fun hHeld => ?_);clear hK K;refine done_ (by kernel_rfl) ?_
            try go_wp2
            have n0_ : Aside0 (((((w69.setCell ⟨gb349,2,none⟩ (.int .i64 (wrap64 (Int.tdiv (wrap64 (a0_0 + a0_2)) 2)))).setCell ⟨gb349,3,none⟩ (.int .i64 (wrap64 (Int.tdiv (wrap64 (a0_1 + a0_3)) 2)))).setCell ⟨gb350,0,none⟩ (.int .i64 (wrap64 (Int.tdiv (wrap64 (a0_0 + a0_2)) 2)))).setCell ⟨gb350,1,none⟩ (.int .i64 (wrap64 (Int.tdiv (wrap64 (a0_1 + a0_3)) 2)))).heap[gb339]? = some (.cells #[.int .i64 a0_0,.int .i64 a0_1,.int .i64 a0_2,.int .i64 a0_3,.int .i64 a0_4,.int .i64 a0_5] 25 (0,0))):=⟨by (with_reducible repeat (first|refine bn ?_ _|refine bd ?_|refine ba ?_ _|refine bf ?_ NB339_350.out _|refine bf ?_ NB339_349.out _));exact BK339.out⟩;have n1_ : Aside0 (((((w69.setCell ⟨gb349,2,none⟩ (.int .i64 (wrap64 (Int.tdiv (wrap64 (a0_0 + a0_2)) 2)))).setCell ⟨gb349,3,none⟩ (.int .i64 (wrap64 (Int.tdiv (wrap64 (a0_1 + a0_3)) 2)))).setCell ⟨gb350,0,none⟩ (.int .i64 (wrap64 (Int.tdiv (wrap64 (a0_0 + a0_2)) 2)))).setCell ⟨gb350,1,none⟩ (.int .i64 (wrap64 (Int.tdiv (wrap64 (a0_1 + a0_3)) 2)))).heap[gb340]? = some (.cells #[.int .i64 (wrap64 (Int.tdiv (wrap64 (a0_0 + a0_2)) 2)),.int .i64 (wrap64 (Int.tdiv (wrap64 (a0_1 + a0_3)) 2))] 23 (0,0))):=⟨by (with_reducible repeat (first|refine bn ?_ _|refine bd ?_|refine ba ?_ _|refine bf ?_ NB340_350.out _|refine bf ?_ NB340_349.out _));exact BK340.out⟩;have n2_ : Aside0 (((((w69.setCell ⟨gb349,2,none⟩ (.int .i64 (wrap64 (Int.tdiv (wrap64 (a0_0 + a0_2)) 2)))).setCell ⟨gb349,3,none⟩ (.int .i64 (wrap64 (Int.tdiv (wrap64 (a0_1 + a0_3)) 2)))).setCell ⟨gb350,0,none⟩ (.int .i64 (wrap64 (Int.tdiv (wrap64 (a0_0 + a0_2)) 2)))).setCell ⟨gb350,1,none⟩ (.int .i64 (wrap64 (Int.tdiv (wrap64 (a0_1 + a0_3)) 2)))).heap[gb349]? = some (.cells #[.int .i64 a0_0,.int .i64 a0_1,.int .i64 (wrap64 (Int.tdiv (wrap64 (a0_0 + a0_2)) 2)),.int .i64 (wrap64 (Int.tdiv (wrap64 (a0_1 + a0_3)) 2)),.int .i64 a0_4,.int .i64 a0_5] 25 (0,0))):=⟨by (with_reducible repeat (first|refine bn ?_ _|refine bd ?_|refine ba ?_ _));refine bf ?_ NB349_350.out _;(with_reducible repeat (first|refine bn ?_ _|refine bd ?_|refine ba ?_ _));refine bf ?_ NB349_350.out _;(with_reducible repeat (first|refine bn ?_ _|refine bd ?_|refine ba ?_ _));refine bp (cs:=#[.int .i64 a0_0,.int .i64 a0_1,.int .i64 (wrap64 (Int.tdiv (wrap64 (a0_0 + a0_2)) 2)),.int .i64 a0_3,.int .i64 a0_4,.int .i64 a0_5]) ?_ 3 _ rfl;(with_reducible repeat (first|refine bn ?_ _|refine bd ?_|refine ba ?_ _));refine bp (cs:=#[.int .i64 a0_0,.int .i64 a0_1,.int .i64 a0_2,.int .i64 a0_3,.int .i64 a0_4,.int .i64 a0_5]) ?_ 2 _ rfl;(with_reducible repeat (first|refine bn ?_ _|refine bd ?_|refine ba ?_ _));exact BK349.out⟩;have n3_ : Aside0 (((((w69.setCell ⟨gb349,2,none⟩ (.int .i64 (wrap64 (Int.tdiv (wrap64 (a0_0 + a0_2)) 2)))).setCell ⟨gb349,3,none⟩ (.int .i64 (wrap64 (Int.tdiv (wrap64 (a0_1 + a0_3)) 2)))).setCell ⟨gb350,0,none⟩ (.int .i64 (wrap64 (Int.tdiv (wrap64 (a0_0 + a0_2)) 2)))).setCell ⟨gb350,1,none⟩ (.int .i64 (wrap64 (Int.tdiv (wrap64 (a0_1 + a0_3)) 2)))).heap[gb350]? = some (.cells #[.int .i64 (wrap64 (Int.tdiv (wrap64 (a0_0 + a0_2)) 2)),.int .i64 (wrap64 (Int.tdiv (wrap64 (a0_1 + a0_3)) 2)),.int .i64 a0_2,.int .i64 a0_3,.int .i64 a0_4,.int .i64 a0_5] 25 (0,0))):=⟨by (with_reducible repeat (first|refine bn ?_ _|refine bd ?_|refine ba ?_ _));refine bp (cs:=#[.int .i64 (wrap64 (Int.tdiv (wrap64 (a0_0 + a0_2)) 2)),.int .i64 a0_1,.int .i64 a0_2,.int .i64 a0_3,.int .i64 a0_4,.int .i64 a0_5]) ?_ 1 _ rfl;(with_reducible repeat (first|refine bn ?_ _|refine bd ?_|refine ba ?_ _));refine bp (cs:=#[.int .i64 a0_0,.int .i64 a0_1,.int .i64 a0_2,.int .i64 a0_3,.int .i64 a0_4,.int .i64 a0_5]) ?_ 0 _ rfl;(with_reducible repeat (first|refine bn ?_ _|refine bd ?_|refine ba ?_ _));refine bf ?_ NB350_349.out _;(with_reducible repeat (first|refine bn ?_ _|refine bd ?_|refine ba ?_ _));refine bf ?_ NB350_349.out _;(with_reducible repeat (first|refine bn ?_ _|refine bd ?_|refine ba ?_ _));exact BK350.out⟩;have n4_ : Aside0 (Below w.heap.size w ((((w69.setCell ⟨gb349,2,none⟩ (.int .i64 (wrap64 (Int.tdiv (wrap64 (a0_0 + a0_2)) 2)))).setCell ⟨gb349,3,none⟩ (.int .i64 (wrap64 (Int.tdiv (wrap64 (a0_1 + a0_3)) 2)))).setCell ⟨gb350,0,none⟩ (.int .i64 (wrap64 (Int.tdiv (wrap64 (a0_0 + a0_2)) 2)))).setCell ⟨gb350,1,none⟩ (.int .i64 (wrap64 (Int.tdiv (wrap64 (a0_1 + a0_3)) 2))))):=⟨by repeat (first|(with_reducible first|exact HB.out|apply sa|apply sn|apply sd|refine sy ?_ (by assumption))|exact HB.out)⟩;(try clear BK339);(try clear BK340);(try clear BK349);(try clear BK350);(try clear HB);generalize ((((w69.setCell ⟨gb349,2,none⟩ (.int .i64 (wrap64 (Int.tdiv (wrap64 (a0_0 + a0_2)) 2)))).setCell ⟨gb349,3,none⟩ (.int .i64 (wrap64 (Int.tdiv (wrap64 (a0_1 + a0_3)) 2)))).setCell ⟨gb350,0,none⟩ (.int .i64 (wrap64 (Int.tdiv (wrap64 (a0_0 + a0_2)) 2)))).setCell ⟨gb350,1,none⟩ (.int .i64 (wrap64 (Int.tdiv (wrap64 (a0_1 + a0_3)) 2)))) = w74 at n0_ n1_ n2_ n3_ n4_ ⊢;have BK339:=n0_;have BK340:=n1_;have BK349:=n2_;have BK350:=n3_;have HB:=n4_;clear n0_ n1_ n2_ n3_ n4_;replace BK339:=am (bd BK339.out);replace BK340:=am (bd BK340.out);replace BK349:=am (bd BK349.out);replace BK350:=am (bd BK350.out);replace HB:=am (sd HB.out);refine start_ (n:=19) (S:=fun w' => w'.cell? ⟨gb339,0,none⟩ = some (.int .i64 a0_0) ∧ w'.cell? ⟨gb339,1,none⟩ = some (.int .i64 a0_1) ∧ w'.cell? ⟨gb339,2,none⟩ = some (.int .i64 a0_2) ∧ w'.cell? ⟨gb339,3,none⟩ = some (.int .i64 a0_3) ∧ w'.cell? ⟨gb339,4,none⟩ = some (.int .i64 a0_4) ∧ w'.cell? ⟨gb339,5,none⟩ = some (.int .i64 a0_5) ∧ w'.cell? ⟨gb349,0,none⟩ = some (.int .i64 a0_0) ∧ w'.cell? ⟨gb349,1,none⟩ = some (.int .i64 a0_1) ∧ w'.cell? ⟨gb349,2,none⟩ = some (.int .i64 (wrap64 (Int.tdiv (wrap64 (a0_0 + a0_2)) 2))) ∧ w'.cell? ⟨gb349,3,none⟩ = some (.int .i64 (wrap64 (Int.tdiv (wrap64 (a0_1 + a0_3)) 2))) ∧ w'.cell? ⟨gb349,4,none⟩ = some (.int .i64 a0_4) ∧ w'.cell? ⟨gb349,5,none⟩ = some (.int .i64 a0_5)) (ds:=[]) #[false,false,false,false,false,false,false,false,false,false,false,false,false,false,false,false,false,false,false] (by kernel_rfl) rfl rfl ⟨(bc BK339.out 0).trans rfl,(bc BK339.out 1).trans rfl,(bc BK339.out 2).trans rfl,(bc BK339.out 3).trans rfl,(bc BK339.out 4).trans rfl,(bc BK339.out 5).trans rfl,(bc BK349.out 0).trans rfl,(bc BK349.out 1).trans rfl,(bc BK349.out 2).trans rfl,(bc BK349.out 3).trans rfl,(bc BK349.out 4).trans rfl,(bc BK349.out 5).trans rfl⟩ (fun hHeld => ?_);refine with_tabW celluloidlaw18_StrokeParts.tab6 celluloidlaw18_StrokeParts.bits6 (fun HT_ HW_ => ?_);generalize w74.drew = w75 at BK339 BK340 BK349 BK350 HB hHeld ⊢;refine pure_ (i:=1) (N:=some 77) (v:=?_) (a':=?_) #[false,true,false,false,false,false,false,false,false,false,false,false,false,false,false,false,false,false,false] rfl rfl (any_of HT_.out (by kernel_rfl)) (fun _ _ _ h => h) (Or.inl ⟨by rfl,?_⟩) ?_ ?_
            rotate_left
            · intro w'
              go_simp
              with_reducible rfl
            rotate_left
            · simp only [Act.put,q1,q2,q3,i64_w,i32_w]
              rfl
            refine pure_ (i:=2) (N:=some 78) (v:=?_) (a':=?_) #[false,true,true,false,false,false,false,false,false,false,false,false,false,false,false,false,false,false,false] rfl rfl (any_of HT_.out (by kernel_rfl)) (fun _ _ _ h => h) (Or.inl ⟨by rfl,?_⟩) ?_ ?_
            rotate_left
            · intro w'
              go_simp
              with_reducible rfl
            rotate_left
            · simp only [Act.put,q1,q2,q3,i64_w,i32_w]
              rfl
            refine pure_ (i:=5) (N:=some 81) (v:=?_) (a':=?_) #[false,true,true,false,false,true,false,false,false,false,false,false,false,false,false,false,false,false,false] rfl rfl (any_of HT_.out (by kernel_rfl)) (fun _ _ _ h => h) (Or.inl ⟨by rfl,?_⟩) ?_ ?_
            rotate_left
            · intro w'
              go_simp
              with_reducible rfl
            rotate_left
            · simp only [Act.put,q1,q2,q3,i64_w,i32_w]
              rfl
            refine pure_ (i:=6) (N:=some 82) (v:=?_) (a':=?_) #[false,true,true,false,false,true,true,false,false,false,false,false,false,false,false,false,false,false,false] rfl rfl (any_of HT_.out (by kernel_rfl)) (fun _ _ _ h => h) (Or.inl ⟨by rfl,?_⟩) ?_ ?_
            rotate_left
            · intro w'
              go_simp
              with_reducible rfl
            rotate_left
            · simp only [Act.put,q1,q2,q3,i64_w,i32_w]
              rfl
            refine take_ (i:=0) (N:=some 76) (v:=?_) (a':=?_) #[true,true,true,false,false,true,true,false,false,false,false,false,false,false,false,false,false,false,false] rfl rfl (take_ofW HT_.out HW_.out (by kernel_rfl)) (fun _ _ _ h => h) (Or.inl ⟨by rfl,?_⟩) hHeld ?_ ?_
            rotate_left
            · rintro w' ⟨s0,s1,s2,s3,s4,s5,s6,s7,s8,s9,s10,s11⟩
              go_simp
              with_reducible rfl
            rotate_left
            · simp only [Act.put,q1,q2,q3,i64_w,i32_w]
              rfl
            refine take_ (i:=4) (N:=some 80) (v:=?_) (a':=?_) #[true,true,true,false,true,true,true,false,false,false,false,false,false,false,false,false,false,false,false] rfl rfl (take_ofW HT_.out HW_.out (by kernel_rfl)) (fun _ _ _ h => h) (Or.inl ⟨by rfl,?_⟩) hHeld ?_ ?_
            rotate_left
            · rintro w' ⟨s0,s1,s2,s3,s4,s5,s6,s7,s8,s9,s10,s11⟩
              go_simp
              with_reducible rfl
            rotate_left
            · simp only [Act.put,q1,q2,q3,i64_w,i32_w]
              rfl
            refine one_ (i:=3) (N:=some 79) #[true,true,true,true,true,true,true,false,false,false,false,false,false,false,false,false,false,false,false] rfl rfl (one_of HT_.out (by kernel_rfl)) (by decide) (fun K hK => ?_);refine goes_ Try.func15 (by kernel_rfl) rfl #[.agg #[.int .i64 a0_0,.int .i64 a0_1,.int .i64 a0_2,.int .i64 a0_3,.int .i64 a0_4,.int .i64 a0_5],.int .i64 a1,.int .i64 a2] (by rfl) rfl rfl (by (try simp only [List.map_toArray,List.map_cons,List.map_nil]);first|done|rfl|(simp only [List.length_drop,List.length_take];rfl)) ?_
            with_reducible refine (stroke_Near.calls a0_0 a0_1 a0_2 a0_3 a0_4 a0_5 a1 a2 t351 _ A47.out).mono ?_
            rintro e w76 ⟨rfl,hb⟩
            refine ⟨_,rfl,?_⟩;replace BK339:=am (bw (by exact BK339.out) hb);replace BK340:=am (bw (by exact BK340.out) hb);replace BK349:=am (bw (by exact BK349.out) hb);replace BK350:=am (bw (by exact BK350.out) hb);replace HB:=am (ss (by repeat (first|(with_reducible first|exact HB.out|apply sa|apply sn|apply sd|refine sy ?_ (by assumption))|exact HB.out)) hb);(try clear hb);(try clear hb2);(try clear hk);(try clear hi);refine hK.out _ _ ⟨(bc BK339.out 0).trans rfl,(bc BK339.out 1).trans rfl,(bc BK339.out 2).trans rfl,(bc BK339.out 3).trans rfl,(bc BK339.out 4).trans rfl,(bc BK339.out 5).trans rfl,(bc BK349.out 0).trans rfl,(bc BK349.out 1).trans rfl,(bc BK349.out 2).trans rfl,(bc BK349.out 3).trans rfl,(bc BK349.out 4).trans rfl,(bc BK349.out 5).trans rfl⟩ (fun hHeld => ?_);clear hK K;refine norm_ (a':=?_) ?_ ?_
            rotate_left
            · show Act.put _ (some 79) _ = _
              simp only [Act.put,q1,q2,q3,i64_w,i32_w]
              rfl
            refine one_ (i:=7) (N:=some 83) #[true,true,true,true,true,true,true,true,false,false,false,false,false,false,false,false,false,false,false] rfl rfl (one_of HT_.out (by kernel_rfl)) (by decide) (fun K hK => ?_);refine goes_ Try.func15 (by kernel_rfl) rfl #[.agg #[.int .i64 a0_0,.int .i64 a0_1,.int .i64 (wrap64 (Int.tdiv (wrap64 (a0_0 + a0_2)) 2)),.int .i64 (wrap64 (Int.tdiv (wrap64 (a0_1 + a0_3)) 2)),.int .i64 a0_4,.int .i64 a0_5],.int .i64 a1,.int .i64 a2] (by rfl) rfl rfl (by (try simp only [List.map_toArray,List.map_cons,List.map_nil]);first|done|rfl|(simp only [List.length_drop,List.length_take];rfl)) ?_
            with_reducible refine (stroke_Near.calls a0_0 a0_1 (wrap64 (Int.tdiv (wrap64 (a0_0 + a0_2)) 2)) (wrap64 (Int.tdiv (wrap64 (a0_1 + a0_3)) 2)) a0_4 a0_5 a1 a2 true _ A48.out).mono ?_
            rintro e w77 ⟨rfl,hb⟩
            refine ⟨_,rfl,?_⟩;replace BK339:=am (bw (by exact BK339.out) hb);replace BK340:=am (bw (by exact BK340.out) hb);replace BK349:=am (bw (by exact BK349.out) hb);replace BK350:=am (bw (by exact BK350.out) hb);replace HB:=am (ss (by repeat (first|(with_reducible first|exact HB.out|apply sa|apply sn|apply sd|refine sy ?_ (by assumption))|exact HB.out)) hb);(try clear hb);(try clear hb2);(try clear hk);(try clear hi);refine hK.out _ _ ⟨(bc BK339.out 0).trans rfl,(bc BK339.out 1).trans rfl,(bc BK339.out 2).trans rfl,(bc BK339.out 3).trans rfl,(bc BK339.out 4).trans rfl,(bc BK339.out 5).trans rfl,(bc BK349.out 0).trans rfl,(bc BK349.out 1).trans rfl,(bc BK349.out 2).trans rfl,(bc BK349.out 3).trans rfl,(bc BK349.out 4).trans rfl,(bc BK349.out 5).trans rfl⟩ (fun hHeld => ?_);clear hK K;refine norm_ (a':=?_) ?_ ?_
            rotate_left
            · show Act.put _ (some 83) _ = _
              simp only [Act.put,q1,q2,q3,i64_w,i32_w]
              rfl
            refine pure_ (i:=8) (N:=some 84) (v:=?_) (a':=?_) #[true,true,true,true,true,true,true,true,true,false,false,false,false,false,false,false,false,false,false] rfl rfl (any_of HT_.out (by kernel_rfl)) (fun _ _ _ h => h) (Or.inl ⟨by rfl,?_⟩) ?_ ?_
            rotate_left
            · intro w'
              go_simp
              with_reducible rfl
            rotate_left
            · simp only [Act.put,q1,q2,q3,i64_w,i32_w]
              rfl
            refine pure_ (i:=9) (N:=some 85) (v:=undef) (a':=?_) #[true,true,true,true,true,true,true,true,true,true,false,false,false,false,false,false,false,false,false] rfl rfl (any_of HT_.out (by kernel_rfl)) (fun _ _ _ h => h) (Or.inr ⟨by rfl,rfl⟩) ?_ ?_
            rotate_left
            · simp only [Act.put,q1,q2,q3,i64_w,i32_w]
              rfl
            refine pure_ (i:=10) (N:=some 86) (v:=undef) (a':=?_) #[true,true,true,true,true,true,true,true,true,true,true,false,false,false,false,false,false,false,false] rfl rfl (any_of HT_.out (by kernel_rfl)) (fun _ _ _ h => h) (Or.inr ⟨by rfl,rfl⟩) ?_ ?_
            rotate_left
            · simp only [Act.put,q1,q2,q3,i64_w,i32_w]
              rfl
            refine pure_ (i:=11) (N:=some 87) (v:=undef) (a':=?_) #[true,true,true,true,true,true,true,true,true,true,true,true,false,false,false,false,false,false,false] rfl rfl (any_of HT_.out (by kernel_rfl)) (fun _ _ _ h => h) (Or.inr ⟨by rfl,rfl⟩) ?_ ?_
            rotate_left
            · simp only [Act.put,q1,q2,q3,i64_w,i32_w]
              rfl
            refine pure_ (i:=12) (N:=some 88) (v:=undef) (a':=?_) #[true,true,true,true,true,true,true,true,true,true,true,true,true,false,false,false,false,false,false] rfl rfl (any_of HT_.out (by kernel_rfl)) (fun _ _ _ h => h) (Or.inr ⟨by rfl,rfl⟩) ?_ ?_
            rotate_left
            · simp only [Act.put,q1,q2,q3,i64_w,i32_w]
              rfl
            refine pure_ (i:=13) (N:=some 89) (v:=?_) (a':=?_) #[true,true,true,true,true,true,true,true,true,true,true,true,true,true,false,false,false,false,false] rfl rfl (any_of HT_.out (by kernel_rfl)) (fun _ _ _ h => h) (Or.inl ⟨by rfl,?_⟩) ?_ ?_
            rotate_left
            · intro w'
              go_simp
              with_reducible rfl
            rotate_left
            · simp only [Act.put,q1,q2,q3,i64_w,i32_w]
              rfl
            refine pure_ (i:=14) (N:=some 90) (v:=?_) (a':=?_) #[true,true,true,true,true,true,true,true,true,true,true,true,true,true,true,false,false,false,false] rfl rfl (any_of HT_.out (by kernel_rfl)) (fun _ _ _ h => h) (Or.inl ⟨by rfl,?_⟩) ?_ ?_
            rotate_left
            · intro w'
              go_simp
              with_reducible rfl
            rotate_left
            · simp only [Act.put,q1,q2,q3,i64_w,i32_w]
              rfl
            refine pure_ (i:=15) (N:=some 91) (v:=?_) (a':=?_) #[true,true,true,true,true,true,true,true,true,true,true,true,true,true,true,true,false,false,false] rfl rfl (any_of HT_.out (by kernel_rfl)) (fun _ _ _ h => h) (Or.inl ⟨by rfl,?_⟩) ?_ ?_
            rotate_left
            · intro w'
              go_simp
              with_reducible rfl
            rotate_left
            · simp only [Act.put,q1,q2,q3,i64_w,i32_w]
              rfl
            refine one_ (i:=16) (N:=some 92) #[true,true,true,true,true,true,true,true,true,true,true,true,true,true,true,true,true,false,false] rfl rfl (one_of HT_.out (by kernel_rfl)) (by decide) (fun K hK => ?_);refine goes_ Try.func16 (by kernel_rfl) rfl #[] (by rfl) rfl rfl (by (try simp only [List.map_toArray,List.map_cons,List.map_nil]);first|done|rfl|(simp only [List.length_drop,List.length_take];rfl)) ?_
            with_reducible refine (celluloidlaw18_awake.calls kj3  t353 _ A51.out).mono ?_
            rintro e w78 ⟨rfl,hb⟩
            refine ⟨_,rfl,?_⟩;replace BK339:=am (bw (by exact BK339.out) hb);replace BK340:=am (bw (by exact BK340.out) hb);replace BK349:=am (bw (by exact BK349.out) hb);replace BK350:=am (bw (by exact BK350.out) hb);replace HB:=am (ss (by repeat (first|(with_reducible first|exact HB.out|apply sa|apply sn|apply sd|refine sy ?_ (by assumption))|exact HB.out)) hb);(try clear hb);(try clear hb2);(try clear hk);(try clear hi);refine hK.out _ _ ⟨(bc BK339.out 0).trans rfl,(bc BK339.out 1).trans rfl,(bc BK339.out 2).trans rfl,(bc BK339.out 3).trans rfl,(bc BK339.out 4).trans rfl,(bc BK339.out 5).trans rfl,(bc BK349.out 0).trans rfl,(bc BK349.out 1).trans rfl,(bc BK349.out 2).trans rfl,(bc BK349.out 3).trans rfl,(bc BK349.out 4).trans rfl,(bc BK349.out 5).trans rfl⟩ (fun hHeld => ?_);clear hK K;refine norm_ (a':=?_) ?_ ?_
            rotate_left
            · show Act.put _ (some 92) _ = _
              simp only [Act.put,q1,q2,q3,i64_w,i32_w]
              rfl
            refine pure_ (i:=17) (N:=some 93) (v:=?_) (a':=?_) #[true,true,true,true,true,true,true,true,true,true,true,true,true,true,true,true,true,true,false] rfl rfl (any_of HT_.out (by kernel_rfl)) (fun _ _ _ h => h) (Or.inl ⟨by rfl,?_⟩) ?_ ?_
            rotate_left
            · intro w'
              go_simp
              with_reducible rfl
            rotate_left
            · simp only [Act.put,q1,q2,q3,i64_w,i32_w]
              rfl
            refine pure_ (i:=18) (N:=some 6) (v:=?_) (a':=?_) #[true,true,true,true,true,true,true,true,true,true,true,true,true,true,true,true,true,true,true] rfl rfl (any_of HT_.out (by kernel_rfl)) (fun _ _ _ h => h) (Or.inl ⟨by rfl,?_⟩) ?_ ?_
            rotate_left
            · intro w'
              go_simp
              with_reducible rfl
            rotate_left
            · simp only [Act.put,q1,q2,q3,i64_w,i32_w]
              rfl
            refine done_ (done_of HT_.out (by kernel_rfl)) ?_
            try go_wp2
            go_ret
            exact ⟨by first|rfl|(simp [errW_none,errW_some] <;> rfl)|(simp [*,errW_none,errW_some] <;> rfl),by repeat (first|(with_reducible first|exact HB.out|apply sa|apply sn|apply sd|refine sy ?_ (by assumption))|exact HB.out)⟩
          · rw [if_neg c50] at H
            have c50b0 : (t351 == true) = false:=by simpa using c50
            (try (have c50b1 : decide (t351 = true) = false:=by simpa using c50))
            (try (have c50b2 : (t351 == true) = false:=by simpa using c50))
            (try (have c50b3 : ¬ (t351 = true):=by simpa using c50))
            clear c50;obtain rfl:=Option.some.inj H
            try go_wp2
            replace BK339:=am (bd BK339.out);replace BK340:=am (bd BK340.out);replace HB:=am (sd HB.out);refine start_ (n:=6) (S:=fun w' => w'.cell? ⟨gb339,0,none⟩ = some (.int .i64 a0_0) ∧ w'.cell? ⟨gb339,1,none⟩ = some (.int .i64 a0_1) ∧ w'.cell? ⟨gb339,2,none⟩ = some (.int .i64 a0_2) ∧ w'.cell? ⟨gb339,3,none⟩ = some (.int .i64 a0_3) ∧ w'.cell? ⟨gb339,4,none⟩ = some (.int .i64 a0_4) ∧ w'.cell? ⟨gb339,5,none⟩ = some (.int .i64 a0_5)) (ds:=[]) #[false,false,false,false,false,false] (by kernel_rfl) rfl rfl ⟨(bc BK339.out 0).trans rfl,(bc BK339.out 1).trans rfl,(bc BK339.out 2).trans rfl,(bc BK339.out 3).trans rfl,(bc BK339.out 4).trans rfl,(bc BK339.out 5).trans rfl⟩ (fun hHeld => ?_);generalize wc.drew = w79 at BK339 BK340 HB hHeld ⊢;refine take_ (i:=0) (N:=some 70) (v:=?_) (a':=?_) #[true,false,false,false,false,false] rfl rfl (by kernel_rfl) (fun _ _ _ h => h) (Or.inl ⟨by rfl,?_⟩) hHeld ?_ ?_
            rotate_left
            · rintro w' ⟨s0,s1,s2,s3,s4,s5⟩
              go_simp
              with_reducible rfl
            rotate_left
            · simp only [Act.put,q1,q2,q3,i64_w,i32_w]
              rfl
            refine take_ (i:=1) (N:=some 71) (v:=?_) (a':=?_) #[true,true,false,false,false,false] rfl rfl (by kernel_rfl) (fun _ _ _ h => h) (Or.inl ⟨by rfl,?_⟩) hHeld ?_ ?_
            rotate_left
            · rintro w' ⟨s0,s1,s2,s3,s4,s5⟩
              go_simp
              with_reducible rfl
            rotate_left
            · simp only [Act.put,q1,q2,q3,i64_w,i32_w]
              rfl
            refine join_ (σ:=Nat × Nat) 2 #[true,true,true,true,false,false] (fun s_ => [(8,.pointer (some ⟨s_.1,0,none⟩)),(9,.pointer (some ⟨s_.2,0,none⟩))]) (fun s_ w' => (w'.cell? ⟨gb339,0,none⟩ = some (.int .i64 a0_0) ∧ w'.cell? ⟨gb339,1,none⟩ = some (.int .i64 a0_1) ∧ w'.cell? ⟨gb339,2,none⟩ = some (.int .i64 a0_2) ∧ w'.cell? ⟨gb339,3,none⟩ = some (.int .i64 a0_3) ∧ w'.cell? ⟨gb339,4,none⟩ = some (.int .i64 a0_4) ∧ w'.cell? ⟨gb339,5,none⟩ = some (.int .i64 a0_5)) ∧ (w'.heap[gb339]? = some (.cells #[.int .i64 a0_0,.int .i64 a0_1,.int .i64 a0_2,.int .i64 a0_3,.int .i64 a0_4,.int .i64 a0_5] 25 (0,0))) ∧ (w'.heap[gb340]? = some (.cells #[.int .i64 (wrap64 (Int.tdiv (wrap64 (a0_0 + a0_2)) 2)),.int .i64 (wrap64 (Int.tdiv (wrap64 (a0_1 + a0_3)) 2))] 23 (0,0))) ∧ (w'.heap[s_.1]? = some (.cells #[.int .i64 0,.int .i64 0,.int .i64 0,.int .i64 0,.int .i64 0,.int .i64 0] 25 (0,0))) ∧ (w'.heap[s_.2]? = some (.cells #[.int .i64 0,.int .i64 0,.int .i64 0,.int .i64 0,.int .i64 0,.int .i64 0] 25 (0,0))) ∧ (w.heap.size ≤ s_.1) ∧ (w.heap.size ≤ s_.1) ∧ (gb339 ≠ s_.1) ∧ (s_.1 ≠ gb339) ∧ (gb340 ≠ s_.1) ∧ (s_.1 ≠ gb340) ∧ (s_.2 ≠ s_.1) ∧ (s_.1 ≠ s_.2) ∧ (w.heap.size ≤ s_.2) ∧ (w.heap.size ≤ s_.2) ∧ (gb339 ≠ s_.2) ∧ (s_.2 ≠ gb339) ∧ (gb340 ≠ s_.2) ∧ (s_.2 ≠ gb340) ∧ (Below w.heap.size w w')) ?_ ?_
            rotate_left
            · intro hCont
              refine two_ (i:=2) (j:=3) (Ni:=some 8) (Nj:=some 9) #[true,true,true,false,false,false] #[true,true,false,true,false,false] rfl rfl rfl rfl (by kernel_rfl) (by decide) (by decide) (fun K hK => ?_) (fun K hK => ?_)
              · skip
                refine box_step ?hg (N:=8) ?hd (cs:=#[.int .i64 0,.int .i64 0,.int .i64 0,.int .i64 0,.int .i64 0,.int .i64 0]) (t:=25) ?hr ?_;(case hd => rfl);(case hg => rfl);(case hr => first|(go_simp;done)|(go_simp;rfl))
                intro gb349 hg w80 hbox hb
                have BK349:=am (hbox);have GW349:=am ((by rw [hg];exact (sz (by repeat (first|(with_reducible first|exact HB.out|apply sa|apply sn|apply sd|refine sy ?_ (by assumption))|exact HB.out))) : w.heap.size ≤ gb349));have GE349:=am ((by rw [hg];exact (sz (by repeat (first|(with_reducible first|exact HB.out|apply sa|apply sn|apply sd|refine sy ?_ (by assumption))|exact HB.out))) : w.heap.size ≤ gb349));replace HB:=am (ss (by repeat (first|(with_reducible first|exact HB.out|apply sa|apply sn|apply sd|refine sy ?_ (by assumption))|exact HB.out)) hb);have NB339_349:=nb (by exact BK339.out) hg;have NB349_339:=ng (by exact BK339.out) hg;replace BK339:=am (bw (by exact BK339.out) hb);have NB340_349:=nb (by exact BK340.out) hg;have NB349_340:=ng (by exact BK340.out) hg;replace BK340:=am (bw (by exact BK340.out) hb);clear hb hbox hg;refine hK.out _ _ ⟨(bc BK339.out 0).trans rfl,(bc BK339.out 1).trans rfl,(bc BK339.out 2).trans rfl,(bc BK339.out 3).trans rfl,(bc BK339.out 4).trans rfl,(bc BK339.out 5).trans rfl⟩ (fun hHeld => ?_);clear hK K;refine norm_ (a':=?_) ?_ ?_
                rotate_left
                · show Act.put _ (some 8) _ = _
                  simp only [Act.put,q1,q2,q3,i64_w,i32_w]
                  rfl
                refine one_ (i:=3) (N:=some 9) #[true,true,true,true,false,false] rfl rfl (by kernel_rfl) (by decide) (fun K hK => ?_);refine box_step ?hg (N:=9) ?hd (cs:=#[.int .i64 0,.int .i64 0,.int .i64 0,.int .i64 0,.int .i64 0,.int .i64 0]) (t:=25) ?hr ?_;(case hd => rfl);(case hg => rfl);(case hr => first|(go_simp;done)|(go_simp;rfl))
                intro gb350 hg w81 hbox hb
                have BK350:=am (hbox);have GW350:=am ((by rw [hg];exact (sz (by repeat (first|(with_reducible first|exact HB.out|apply sa|apply sn|apply sd|refine sy ?_ (by assumption))|exact HB.out))) : w.heap.size ≤ gb350));have GE350:=am ((by rw [hg];exact (sz (by repeat (first|(with_reducible first|exact HB.out|apply sa|apply sn|apply sd|refine sy ?_ (by assumption))|exact HB.out))) : w.heap.size ≤ gb350));replace HB:=am (ss (by repeat (first|(with_reducible first|exact HB.out|apply sa|apply sn|apply sd|refine sy ?_ (by assumption))|exact HB.out)) hb);have NB339_350:=nb (by exact BK339.out) hg;have NB350_339:=ng (by exact BK339.out) hg;replace BK339:=am (bw (by exact BK339.out) hb);have NB340_350:=nb (by exact BK340.out) hg;have NB350_340:=ng (by exact BK340.out) hg;replace BK340:=am (bw (by exact BK340.out) hb);have NB349_350:=nb (by exact BK349.out) hg;have NB350_349:=ng (by exact BK349.out) hg;replace BK349:=am (bw (by exact BK349.out) hb);clear hb hbox hg;refine hK.out _ _ ⟨(bc BK339.out 0).trans rfl,(bc BK339.out 1).trans rfl,(bc BK339.out 2).trans rfl,(bc BK339.out 3).trans rfl,(bc BK339.out 4).trans rfl,(bc BK339.out 5).trans rfl⟩ (fun hHeld => ?_);clear hK K;refine norm_ (a':=?_) ?_ ?_
                rotate_left
                · show Act.put _ (some 9) _ = _
                  simp only [Act.put,q1,q2,q3,i64_w,i32_w]
                  rfl
                exact norm_ (by simp only [putAll,Act.put,q1,q2,q3]) (hCont (gb349,gb350) _ ⟨hHeld,(by exact BK339.out),(by exact BK340.out),(by exact BK349.out),(by exact BK350.out),GW349.out,GE349.out,NB339_349.out,NB349_339.out,NB340_349.out,NB349_340.out,NB350_349.out,NB349_350.out,GW350.out,GE350.out,NB339_350.out,NB350_339.out,NB340_350.out,NB350_340.out,(by repeat (first|(with_reducible first|exact HB.out|apply sa|apply sn|apply sd|refine sy ?_ (by assumption))|exact HB.out))⟩)
              · skip
                refine box_step ?hg (N:=9) ?hd (cs:=#[.int .i64 0,.int .i64 0,.int .i64 0,.int .i64 0,.int .i64 0,.int .i64 0]) (t:=25) ?hr ?_;(case hd => rfl);(case hg => rfl);(case hr => first|(go_simp;done)|(go_simp;rfl))
                intro gb350 hg w80 hbox hb
                have BK350:=am (hbox);have GW350:=am ((by rw [hg];exact (sz (by repeat (first|(with_reducible first|exact HB.out|apply sa|apply sn|apply sd|refine sy ?_ (by assumption))|exact HB.out))) : w.heap.size ≤ gb350));have GE350:=am ((by rw [hg];exact (sz (by repeat (first|(with_reducible first|exact HB.out|apply sa|apply sn|apply sd|refine sy ?_ (by assumption))|exact HB.out))) : w.heap.size ≤ gb350));replace HB:=am (ss (by repeat (first|(with_reducible first|exact HB.out|apply sa|apply sn|apply sd|refine sy ?_ (by assumption))|exact HB.out)) hb);have NB339_350:=nb (by exact BK339.out) hg;have NB350_339:=ng (by exact BK339.out) hg;replace BK339:=am (bw (by exact BK339.out) hb);have NB340_350:=nb (by exact BK340.out) hg;have NB350_340:=ng (by exact BK340.out) hg;replace BK340:=am (bw (by exact BK340.out) hb);clear hb hbox hg;refine hK.out _ _ ⟨(bc BK339.out 0).trans rfl,(bc BK339.out 1).trans rfl,(bc BK339.out 2).trans rfl,(bc BK339.out 3).trans rfl,(bc BK339.out 4).trans rfl,(bc BK339.out 5).trans rfl⟩ (fun hHeld => ?_);clear hK K;refine norm_ (a':=?_) ?_ ?_
                rotate_left
                · show Act.put _ (some 9) _ = _
                  simp only [Act.put,q1,q2,q3,i64_w,i32_w]
                  rfl
                refine one_ (i:=2) (N:=some 8) #[true,true,true,true,false,false] rfl rfl (by kernel_rfl) (by decide) (fun K hK => ?_);refine box_step ?hg (N:=8) ?hd (cs:=#[.int .i64 0,.int .i64 0,.int .i64 0,.int .i64 0,.int .i64 0,.int .i64 0]) (t:=25) ?hr ?_;(case hd => rfl);(case hg => rfl);(case hr => first|(go_simp;done)|(go_simp;rfl))
                intro gb349 hg w81 hbox hb
                have BK349:=am (hbox);have GW349:=am ((by rw [hg];exact (sz (by repeat (first|(with_reducible first|exact HB.out|apply sa|apply sn|apply sd|refine sy ?_ (by assumption))|exact HB.out))) : w.heap.size ≤ gb349));have GE349:=am ((by rw [hg];exact (sz (by repeat (first|(with_reducible first|exact HB.out|apply sa|apply sn|apply sd|refine sy ?_ (by assumption))|exact HB.out))) : w.heap.size ≤ gb349));replace HB:=am (ss (by repeat (first|(with_reducible first|exact HB.out|apply sa|apply sn|apply sd|refine sy ?_ (by assumption))|exact HB.out)) hb);have NB339_349:=nb (by exact BK339.out) hg;have NB349_339:=ng (by exact BK339.out) hg;replace BK339:=am (bw (by exact BK339.out) hb);have NB340_349:=nb (by exact BK340.out) hg;have NB349_340:=ng (by exact BK340.out) hg;replace BK340:=am (bw (by exact BK340.out) hb);have NB350_349:=nb (by exact BK350.out) hg;have NB349_350:=ng (by exact BK350.out) hg;replace BK350:=am (bw (by exact BK350.out) hb);clear hb hbox hg;refine hK.out _ _ ⟨(bc BK339.out 0).trans rfl,(bc BK339.out 1).trans rfl,(bc BK339.out 2).trans rfl,(bc BK339.out 3).trans rfl,(bc BK339.out 4).trans rfl,(bc BK339.out 5).trans rfl⟩ (fun hHeld => ?_);clear hK K;refine norm_ (a':=?_) ?_ ?_
                rotate_left
                · show Act.put _ (some 8) _ = _
                  simp only [Act.put,q1,q2,q3,i64_w,i32_w]
                  rfl
                exact norm_ (by simp only [putAll,Act.put,q1,q2,q3]) (hCont (gb349,gb350) _ ⟨hHeld,(by exact BK339.out),(by exact BK340.out),(by exact BK349.out),(by exact BK350.out),GW349.out,GE349.out,NB339_349.out,NB349_339.out,NB340_349.out,NB349_340.out,NB350_349.out,NB349_350.out,GW350.out,GE350.out,NB339_350.out,NB350_339.out,NB340_350.out,NB350_340.out,(by repeat (first|(with_reducible first|exact HB.out|apply sa|apply sn|apply sd|refine sy ?_ (by assumption))|exact HB.out))⟩)
            rintro ⟨gb349,gb350⟩ w82 ⟨hS_,h0_,h1_,h2_,h3_,h4_,h5_,h6_,h7_,h8_,h9_,h10_,h11_,h12_,h13_,h14_,h15_,h16_,h17_,h18_⟩
            have n0_ : Aside0 (w82.heap[gb339]? = some (.cells #[.int .i64 a0_0,.int .i64 a0_1,.int .i64 a0_2,.int .i64 a0_3,.int .i64 a0_4,.int .i64 a0_5] 25 (0,0))):=⟨h0_⟩;have n1_ : Aside0 (w82.heap[gb340]? = some (.cells #[.int .i64 (wrap64 (Int.tdiv (wrap64 (a0_0 + a0_2)) 2)),.int .i64 (wrap64 (Int.tdiv (wrap64 (a0_1 + a0_3)) 2))] 23 (0,0))):=⟨h1_⟩;have n2_ : Aside0 (w82.heap[gb349]? = some (.cells #[.int .i64 0,.int .i64 0,.int .i64 0,.int .i64 0,.int .i64 0,.int .i64 0] 25 (0,0))):=⟨h2_⟩;have n3_ : Aside0 (w82.heap[gb350]? = some (.cells #[.int .i64 0,.int .i64 0,.int .i64 0,.int .i64 0,.int .i64 0,.int .i64 0] 25 (0,0))):=⟨h3_⟩;have n4_ : Aside0 (w.heap.size ≤ gb349):=⟨h4_⟩;have n5_ : Aside0 (w.heap.size ≤ gb349):=⟨h5_⟩;have n6_ : Aside0 (gb339 ≠ gb349):=⟨h6_⟩;have n7_ : Aside0 (gb349 ≠ gb339):=⟨h7_⟩;have n8_ : Aside0 (gb340 ≠ gb349):=⟨h8_⟩;have n9_ : Aside0 (gb349 ≠ gb340):=⟨h9_⟩;have n10_ : Aside0 (gb350 ≠ gb349):=⟨h10_⟩;have n11_ : Aside0 (gb349 ≠ gb350):=⟨h11_⟩;have n12_ : Aside0 (w.heap.size ≤ gb350):=⟨h12_⟩;have n13_ : Aside0 (w.heap.size ≤ gb350):=⟨h13_⟩;have n14_ : Aside0 (gb339 ≠ gb350):=⟨h14_⟩;have n15_ : Aside0 (gb350 ≠ gb339):=⟨h15_⟩;have n16_ : Aside0 (gb340 ≠ gb350):=⟨h16_⟩;have n17_ : Aside0 (gb350 ≠ gb340):=⟨h17_⟩;have n18_ : Aside0 (Below w.heap.size w w82):=⟨h18_⟩;clear BK339;clear BK340;clear HB;clear h0_ h1_ h2_ h3_ h4_ h5_ h6_ h7_ h8_ h9_ h10_ h11_ h12_ h13_ h14_ h15_ h16_ h17_ h18_;have BK339:=n0_;have BK340:=n1_;have BK349:=n2_;have BK350:=n3_;have GW349:=n4_;have GE349:=n5_;have NB339_349:=n6_;have NB349_339:=n7_;have NB340_349:=n8_;have NB349_340:=n9_;have NB350_349:=n10_;have NB349_350:=n11_;have GW350:=n12_;have GE350:=n13_;have NB339_350:=n14_;have NB350_339:=n15_;have NB340_350:=n16_;have NB350_340:=n17_;have HB:=n18_;clear n0_ n1_ n2_ n3_ n4_ n5_ n6_ n7_ n8_ n9_ n10_ n11_ n12_ n13_ n14_ n15_ n16_ n17_ n18_;have hHeld : w82.cell? ⟨gb339,0,none⟩ = some (.int .i64 a0_0) ∧ w82.cell? ⟨gb339,1,none⟩ = some (.int .i64 a0_1) ∧ w82.cell? ⟨gb339,2,none⟩ = some (.int .i64 a0_2) ∧ w82.cell? ⟨gb339,3,none⟩ = some (.int .i64 a0_3) ∧ w82.cell? ⟨gb339,4,none⟩ = some (.int .i64 a0_4) ∧ w82.cell? ⟨gb339,5,none⟩ = some (.int .i64 a0_5):=hS_;refine norm_ (a':=?_) ?_ ?_
            rotate_left
            · simp only [putAll,Act.put,q1,q2,q3]
              rfl
            refine one_ (i:=4) (N:=none) #[true,true,true,true,true,false] rfl rfl (by kernel_rfl) (by decide) (fun K hK => ?_);have hs83 : w82.cell? ⟨gb349,0,none⟩ = some (.int .i64 0):=(bc BK349.out 0).trans rfl;have hfs83:=bz BK349.out 0;have hns83_0:=NB339_349.out;have hns83_1:=NB340_349.out;have hns83_3:=NB350_349.out;have hms83_0:=NB349_339.out;have hms83_1:=NB349_340.out;have hms83_3:=NB349_350.out;have hs84 : w82.cell? ⟨gb349,1,none⟩ = some (.int .i64 0):=(bc BK349.out 1).trans rfl;have hfs84:=bz BK349.out 1;have hns84_0:=NB339_349.out;have hns84_1:=NB340_349.out;have hns84_3:=NB350_349.out;have hms84_0:=NB349_339.out;have hms84_1:=NB349_340.out;have hms84_3:=NB349_350.out;have hs85 : w82.cell? ⟨gb349,2,none⟩ = some (.int .i64 0):=(bc BK349.out 2).trans rfl;have hfs85:=bz BK349.out 2;have hns85_0:=NB339_349.out;have hns85_1:=NB340_349.out;have hns85_3:=NB350_349.out;have hms85_0:=NB349_339.out;have hms85_1:=NB349_340.out;have hms85_3:=NB349_350.out;have hs86 : w82.cell? ⟨gb349,3,none⟩ = some (.int .i64 0):=(bc BK349.out 3).trans rfl;have hfs86:=bz BK349.out 3;have hns86_0:=NB339_349.out;have hns86_1:=NB340_349.out;have hns86_3:=NB350_349.out;have hms86_0:=NB349_339.out;have hms86_1:=NB349_340.out;have hms86_3:=NB349_350.out;have hs87 : w82.cell? ⟨gb349,4,none⟩ = some (.int .i64 0):=(bc BK349.out 4).trans rfl;have hfs87:=bz BK349.out 4;have hns87_0:=NB339_349.out;have hns87_1:=NB340_349.out;have hns87_3:=NB350_349.out;have hms87_0:=NB349_339.out;have hms87_1:=NB349_340.out;have hms87_3:=NB349_350.out;have hs88 : w82.cell? ⟨gb349,5,none⟩ = some (.int .i64 0):=(bc BK349.out 5).trans rfl;have hfs88:=bz BK349.out 5;have hns88_0:=NB339_349.out;have hns88_1:=NB340_349.out;have hns88_3:=NB350_349.out;have hms88_0:=NB349_339.out;have hms88_1:=NB349_340.out;have hms88_3:=NB349_350.out;refine skip_ (w1:=?_) (by rfl) rfl ?_ ?_
            rotate_left
            · go_simp
              rfl
            refine hK.out _ _ ⟨((cell_far (p:=⟨gb349,_,none⟩) NB339_349.out _).trans (((cell_far (p:=⟨gb349,_,none⟩) NB339_349.out _).trans (((cell_far (p:=⟨gb349,_,none⟩) NB339_349.out _).trans (((cell_far (p:=⟨gb349,_,none⟩) NB339_349.out _).trans (((cell_far (p:=⟨gb349,_,none⟩) NB339_349.out _).trans (((cell_far (p:=⟨gb349,_,none⟩) NB339_349.out _).trans (hHeld.1)))))))))))),((cell_far (p:=⟨gb349,_,none⟩) NB339_349.out _).trans (((cell_far (p:=⟨gb349,_,none⟩) NB339_349.out _).trans (((cell_far (p:=⟨gb349,_,none⟩) NB339_349.out _).trans (((cell_far (p:=⟨gb349,_,none⟩) NB339_349.out _).trans (((cell_far (p:=⟨gb349,_,none⟩) NB339_349.out _).trans (((cell_far (p:=⟨gb349,_,none⟩) NB339_349.out _).trans (hHeld.2.1)))))))))))),((cell_far (p:=⟨gb349,_,none⟩) NB339_349.out _).trans (((cell_far (p:=⟨gb349,_,none⟩) NB339_349.out _).trans (((cell_far (p:=⟨gb349,_,none⟩) NB339_349.out _).trans (((cell_far (p:=⟨gb349,_,none⟩) NB339_349.out _).trans (((cell_far (p:=⟨gb349,_,none⟩) NB339_349.out _).trans (((cell_far (p:=⟨gb349,_,none⟩) NB339_349.out _).trans (hHeld.2.2.1)))))))))))),((cell_far (p:=⟨gb349,_,none⟩) NB339_349.out _).trans (((cell_far (p:=⟨gb349,_,none⟩) NB339_349.out _).trans (((cell_far (p:=⟨gb349,_,none⟩) NB339_349.out _).trans (((cell_far (p:=⟨gb349,_,none⟩) NB339_349.out _).trans (((cell_far (p:=⟨gb349,_,none⟩) NB339_349.out _).trans (((cell_far (p:=⟨gb349,_,none⟩) NB339_349.out _).trans (hHeld.2.2.2.1)))))))))))),((cell_far (p:=⟨gb349,_,none⟩) NB339_349.out _).trans (((cell_far (p:=⟨gb349,_,none⟩) NB339_349.out _).trans (((cell_far (p:=⟨gb349,_,none⟩) NB339_349.out _).trans (((cell_far (p:=⟨gb349,_,none⟩) NB339_349.out _).trans (((cell_far (p:=⟨gb349,_,none⟩) NB339_349.out _).trans (((cell_far (p:=⟨gb349,_,none⟩) NB339_349.out _).trans (hHeld.2.2.2.2.1)))))))))))),((cell_far (p:=⟨gb349,_,none⟩) NB339_349.out _).trans (((cell_far (p:=⟨gb349,_,none⟩) NB339_349.out _).trans (((cell_far (p:=⟨gb349,_,none⟩) NB339_349.out _).trans (((cell_far (p:=⟨gb349,_,none⟩) NB339_349.out _).trans (((cell_far (p:=⟨gb349,_,none⟩) NB339_349.out _).trans (((cell_far (p:=⟨gb349,_,none⟩) NB339_349.out _).trans (hHeld.2.2.2.2.2))))))))))))⟩ (fun hHeld => ?_);clear hK K;refine one_ (i:=5) (N:=none) #[true,true,true,true,true,true] rfl rfl (by kernel_rfl) (by decide) (fun K hK => ?_);have hs89 : w82.cell? ⟨gb350,0,none⟩ = some (.int .i64 0):=(bc BK350.out 0).trans rfl;have hfs89:=bz BK350.out 0;have hns89_0:=NB339_350.out;have hns89_1:=NB340_350.out;have hns89_2:=NB349_350.out;have hms89_0:=NB350_339.out;have hms89_1:=NB350_340.out;have hms89_2:=NB350_349.out;have hs90 : w82.cell? ⟨gb350,1,none⟩ = some (.int .i64 0):=(bc BK350.out 1).trans rfl;have hfs90:=bz BK350.out 1;have hns90_0:=NB339_350.out;have hns90_1:=NB340_350.out;have hns90_2:=NB349_350.out;have hms90_0:=NB350_339.out;have hms90_1:=NB350_340.out;have hms90_2:=NB350_349.out;have hs91 : w82.cell? ⟨gb350,2,none⟩ = some (.int .i64 0):=(bc BK350.out 2).trans rfl;have hfs91:=bz BK350.out 2;have hns91_0:=NB339_350.out;have hns91_1:=NB340_350.out;have hns91_2:=NB349_350.out;have hms91_0:=NB350_339.out;have hms91_1:=NB350_340.out;have hms91_2:=NB350_349.out;have hs92 : w82.cell? ⟨gb350,3,none⟩ = some (.int .i64 0):=(bc BK350.out 3).trans rfl;have hfs92:=bz BK350.out 3;have hns92_0:=NB339_350.out;have hns92_1:=NB340_350.out;have hns92_2:=NB349_350.out;have hms92_0:=NB350_339.out;have hms92_1:=NB350_340.out;have hms92_2:=NB350_349.out;have hs93 : w82.cell? ⟨gb350,4,none⟩ = some (.int .i64 0):=(bc BK350.out 4).trans rfl;have hfs93:=bz BK350.out 4;have hns93_0:=NB339_350.out;have hns93_1:=NB340_350.out;have hns93_2:=NB349_350.out;have hms93_0:=NB350_339.out;have hms93_1:=NB350_340.out;have hms93_2:=NB350_349.out;have hs94 : w82.cell? ⟨gb350,5,none⟩ = some (.int .i64 0):=(bc BK350.out 5).trans rfl;have hfs94:=bz BK350.out 5;have hns94_0:=NB339_350.out;have hns94_1:=NB340_350.out;have hns94_2:=NB349_350.out;have hms94_0:=NB350_339.out;have hms94_1:=NB350_340.out;have hms94_2:=NB350_349.out;refine skip_ (w1:=?_) (by rfl) rfl ?_ ?_
            rotate_left
            · go_simp
              rfl
            refine hK.out _ _ ⟨((cell_far (p:=⟨gb350,_,none⟩) NB339_350.out _).trans (((cell_far (p:=⟨gb350,_,none⟩) NB339_350.out _).trans (((cell_far (p:=⟨gb350,_,none⟩) NB339_350.out _).trans (((cell_far (p:=⟨gb350,_,none⟩) NB339_350.out _).trans (((cell_far (p:=⟨gb350,_,none⟩) NB339_350.out _).trans (((cell_far (p:=⟨gb350,_,none⟩) NB339_350.out _).trans (hHeld.1)))))))))))),((cell_far (p:=⟨gb350,_,none⟩) NB339_350.out _).trans (((cell_far (p:=⟨gb350,_,none⟩) NB339_350.out _).trans (((cell_far (p:=⟨gb350,_,none⟩) NB339_350.out _).trans (((cell_far (p:=⟨gb350,_,none⟩) NB339_350.out _).trans (((cell_far (p:=⟨gb350,_,none⟩) NB339_350.out _).trans (((cell_far (p:=⟨gb350,_,none⟩) NB339_350.out _).trans (hHeld.2.1)))))))))))),((cell_far (p:=⟨gb350,_,none⟩) NB339_350.out _).trans (((cell_far (p:=⟨gb350,_,none⟩) NB339_350.out _).trans (((cell_far (p:=⟨gb350,_,none⟩) NB339_350.out _).trans (((cell_far (p:=⟨gb350,_,none⟩) NB339_350.out _).trans (((cell_far (p:=⟨gb350,_,none⟩) NB339_350.out _).trans (((cell_far (p:=⟨gb350,_,none⟩) NB339_350.out _).trans (hHeld.2.2.1)))))))))))),((cell_far (p:=⟨gb350,_,none⟩) NB339_350.out _).trans (((cell_far (p:=⟨gb350,_,none⟩) NB339_350.out _).trans (((cell_far (p:=⟨gb350,_,none⟩) NB339_350.out _).trans (((cell_far (p:=⟨gb350,_,none⟩) NB339_350.out _).trans (((cell_far (p:=⟨gb350,_,none⟩) NB339_350.out _).trans (((cell_far (p:=⟨gb350,_,none⟩) NB339_350.out _).trans (hHeld.2.2.2.1)))))))))))),((cell_far (p:=⟨gb350,_,none⟩) NB339_350.out _).trans (((cell_far (p:=⟨gb350,_,none⟩) NB339_350.out _).trans (((cell_far (p:=⟨gb350,_,none⟩) NB339_350.out _).trans (((cell_far (p:=⟨gb350,_,none⟩) NB339_350.out _).trans (((cell_far (p:=⟨gb350,_,none⟩) NB339_350.out _).trans (((cell_far (p:=⟨gb350,_,none⟩) NB339_350.out _).trans (hHeld.2.2.2.2.1)))))))))))),((cell_far (p:=⟨gb350,_,none⟩) NB339_350.out _).trans (((cell_far (p:=⟨gb350,_,none⟩) NB339_350.out _).trans (((cell_far (p:=⟨gb350,_,none⟩) NB339_350.out _).trans (((cell_far (p:=⟨gb350,_,none⟩) NB339_350.out _).trans (((cell_far (p:=⟨gb350,_,none⟩) NB339_350.out _).trans (((cell_far (p:=⟨gb350,_,none⟩) NB339_350.out _).trans (hHeld.2.2.2.2.2))))))))))))⟩ (fun hHeld => ?_);clear hK K;refine done_ (by kernel_rfl) ?_
            try go_wp2
            have n0_ : Aside0 (((((((((((((w82.setCell ⟨gb349,0,none⟩ (.int .i64 a0_0)).setCell ⟨gb349,1,none⟩ (.int .i64 a0_1)).setCell ⟨gb349,2,none⟩ (.int .i64 a0_2)).setCell ⟨gb349,3,none⟩ (.int .i64 a0_3)).setCell ⟨gb349,4,none⟩ (.int .i64 a0_4)).setCell ⟨gb349,5,none⟩ (.int .i64 a0_5)).setCell ⟨gb350,0,none⟩ (.int .i64 a0_0)).setCell ⟨gb350,1,none⟩ (.int .i64 a0_1)).setCell ⟨gb350,2,none⟩ (.int .i64 a0_2)).setCell ⟨gb350,3,none⟩ (.int .i64 a0_3)).setCell ⟨gb350,4,none⟩ (.int .i64 a0_4)).setCell ⟨gb350,5,none⟩ (.int .i64 a0_5)).heap[gb339]? = some (.cells #[.int .i64 a0_0,.int .i64 a0_1,.int .i64 a0_2,.int .i64 a0_3,.int .i64 a0_4,.int .i64 a0_5] 25 (0,0))):=⟨by (with_reducible repeat (first|refine bn ?_ _|refine bd ?_|refine ba ?_ _|refine bf ?_ NB339_350.out _|refine bf ?_ NB339_349.out _));exact BK339.out⟩;have n1_ : Aside0 (((((((((((((w82.setCell ⟨gb349,0,none⟩ (.int .i64 a0_0)).setCell ⟨gb349,1,none⟩ (.int .i64 a0_1)).setCell ⟨gb349,2,none⟩ (.int .i64 a0_2)).setCell ⟨gb349,3,none⟩ (.int .i64 a0_3)).setCell ⟨gb349,4,none⟩ (.int .i64 a0_4)).setCell ⟨gb349,5,none⟩ (.int .i64 a0_5)).setCell ⟨gb350,0,none⟩ (.int .i64 a0_0)).setCell ⟨gb350,1,none⟩ (.int .i64 a0_1)).setCell ⟨gb350,2,none⟩ (.int .i64 a0_2)).setCell ⟨gb350,3,none⟩ (.int .i64 a0_3)).setCell ⟨gb350,4,none⟩ (.int .i64 a0_4)).setCell ⟨gb350,5,none⟩ (.int .i64 a0_5)).heap[gb340]? = some (.cells #[.int .i64 (wrap64 (Int.tdiv (wrap64 (a0_0 + a0_2)) 2)),.int .i64 (wrap64 (Int.tdiv (wrap64 (a0_1 + a0_3)) 2))] 23 (0,0))):=⟨by (with_reducible repeat (first|refine bn ?_ _|refine bd ?_|refine ba ?_ _|refine bf ?_ NB340_350.out _|refine bf ?_ NB340_349.out _));exact BK340.out⟩;have n2_ : Aside0 (((((((((((((w82.setCell ⟨gb349,0,none⟩ (.int .i64 a0_0)).setCell ⟨gb349,1,none⟩ (.int .i64 a0_1)).setCell ⟨gb349,2,none⟩ (.int .i64 a0_2)).setCell ⟨gb349,3,none⟩ (.int .i64 a0_3)).setCell ⟨gb349,4,none⟩ (.int .i64 a0_4)).setCell ⟨gb349,5,none⟩ (.int .i64 a0_5)).setCell ⟨gb350,0,none⟩ (.int .i64 a0_0)).setCell ⟨gb350,1,none⟩ (.int .i64 a0_1)).setCell ⟨gb350,2,none⟩ (.int .i64 a0_2)).setCell ⟨gb350,3,none⟩ (.int .i64 a0_3)).setCell ⟨gb350,4,none⟩ (.int .i64 a0_4)).setCell ⟨gb350,5,none⟩ (.int .i64 a0_5)).heap[gb349]? = some (.cells #[.int .i64 a0_0,.int .i64 a0_1,.int .i64 a0_2,.int .i64 a0_3,.int .i64 a0_4,.int .i64 a0_5] 25 (0,0))):=⟨by (with_reducible repeat (first|refine bn ?_ _|refine bd ?_|refine ba ?_ _));refine bf ?_ NB349_350.out _;(with_reducible repeat (first|refine bn ?_ _|refine bd ?_|refine ba ?_ _));refine bf ?_ NB349_350.out _;(with_reducible repeat (first|refine bn ?_ _|refine bd ?_|refine ba ?_ _));refine bf ?_ NB349_350.out _;(with_reducible repeat (first|refine bn ?_ _|refine bd ?_|refine ba ?_ _));refine bf ?_ NB349_350.out _;(with_reducible repeat (first|refine bn ?_ _|refine bd ?_|refine ba ?_ _));refine bf ?_ NB349_350.out _;(with_reducible repeat (first|refine bn ?_ _|refine bd ?_|refine ba ?_ _));refine bf ?_ NB349_350.out _;(with_reducible repeat (first|refine bn ?_ _|refine bd ?_|refine ba ?_ _));refine bp (cs:=#[.int .i64 a0_0,.int .i64 a0_1,.int .i64 a0_2,.int .i64 a0_3,.int .i64 a0_4,.int .i64 0]) ?_ 5 _ rfl;(with_reducible repeat (first|refine bn ?_ _|refine bd ?_|refine ba ?_ _));refine bp (cs:=#[.int .i64 a0_0,.int .i64 a0_1,.int .i64 a0_2,.int .i64 a0_3,.int .i64 0,.int .i64 0]) ?_ 4 _ rfl;(with_reducible repeat (first|refine bn ?_ _|refine bd ?_|refine ba ?_ _));refine bp (cs:=#[.int .i64 a0_0,.int .i64 a0_1,.int .i64 a0_2,.int .i64 0,.int .i64 0,.int .i64 0]) ?_ 3 _ rfl;(with_reducible repeat (first|refine bn ?_ _|refine bd ?_|refine ba ?_ _));refine bp (cs:=#[.int .i64 a0_0,.int .i64 a0_1,.int .i64 0,.int .i64 0,.int .i64 0,.int .i64 0]) ?_ 2 _ rfl;(with_reducible repeat (first|refine bn ?_ _|refine bd ?_|refine ba ?_ _));refine bp (cs:=#[.int .i64 a0_0,.int .i64 0,.int .i64 0,.int .i64 0,.int .i64 0,.int .i64 0]) ?_ 1 _ rfl;(with_reducible repeat (first|refine bn ?_ _|refine bd ?_|refine ba ?_ _));refine bp (cs:=#[.int .i64 0,.int .i64 0,.int .i64 0,.int .i64 0,.int .i64 0,.int .i64 0]) ?_ 0 _ rfl;(with_reducible repeat (first|refine bn ?_ _|refine bd ?_|refine ba ?_ _));exact BK349.out⟩;have n3_ : Aside0 (((((((((((((w82.setCell ⟨gb349,0,none⟩ (.int .i64 a0_0)).setCell ⟨gb349,1,none⟩ (.int .i64 a0_1)).setCell ⟨gb349,2,none⟩ (.int .i64 a0_2)).setCell ⟨gb349,3,none⟩ (.int .i64 a0_3)).setCell ⟨gb349,4,none⟩ (.int .i64 a0_4)).setCell ⟨gb349,5,none⟩ (.int .i64 a0_5)).setCell ⟨gb350,0,none⟩ (.int .i64 a0_0)).setCell ⟨gb350,1,none⟩ (.int .i64 a0_1)).setCell ⟨gb350,2,none⟩ (.int .i64 a0_2)).setCell ⟨gb350,3,none⟩ (.int .i64 a0_3)).setCell ⟨gb350,4,none⟩ (.int .i64 a0_4)).setCell ⟨gb350,5,none⟩ (.int .i64 a0_5)).heap[gb350]? = some (.cells #[.int .i64 a0_0,.int .i64 a0_1,.int .i64 a0_2,.int .i64 a0_3,.int .i64 a0_4,.int .i64 a0_5] 25 (0,0))):=⟨by (with_reducible repeat (first|refine bn ?_ _|refine bd ?_|refine ba ?_ _));refine bp (cs:=#[.int .i64 a0_0,.int .i64 a0_1,.int .i64 a0_2,.int .i64 a0_3,.int .i64 a0_4,.int .i64 0]) ?_ 5 _ rfl;(with_reducible repeat (first|refine bn ?_ _|refine bd ?_|refine ba ?_ _));refine bp (cs:=#[.int .i64 a0_0,.int .i64 a0_1,.int .i64 a0_2,.int .i64 a0_3,.int .i64 0,.int .i64 0]) ?_ 4 _ rfl;(with_reducible repeat (first|refine bn ?_ _|refine bd ?_|refine ba ?_ _));refine bp (cs:=#[.int .i64 a0_0,.int .i64 a0_1,.int .i64 a0_2,.int .i64 0,.int .i64 0,.int .i64 0]) ?_ 3 _ rfl;(with_reducible repeat (first|refine bn ?_ _|refine bd ?_|refine ba ?_ _));refine bp (cs:=#[.int .i64 a0_0,.int .i64 a0_1,.int .i64 0,.int .i64 0,.int .i64 0,.int .i64 0]) ?_ 2 _ rfl;(with_reducible repeat (first|refine bn ?_ _|refine bd ?_|refine ba ?_ _));refine bp (cs:=#[.int .i64 a0_0,.int .i64 0,.int .i64 0,.int .i64 0,.int .i64 0,.int .i64 0]) ?_ 1 _ rfl;(with_reducible repeat (first|refine bn ?_ _|refine bd ?_|refine ba ?_ _));refine bp (cs:=#[.int .i64 0,.int .i64 0,.int .i64 0,.int .i64 0,.int .i64 0,.int .i64 0]) ?_ 0 _ rfl;(with_reducible repeat (first|refine bn ?_ _|refine bd ?_|refine ba ?_ _));refine bf ?_ NB350_349.out _;(with_reducible repeat (first|refine bn ?_ _|refine bd ?_|refine ba ?_ _));refine bf ?_ NB350_349.out _;(with_reducible repeat (first|refine bn ?_ _|refine bd ?_|refine ba ?_ _));refine bf ?_ NB350_349.out _;(with_reducible repeat (first|refine bn ?_ _|refine bd ?_|refine ba ?_ _));refine bf ?_ NB350_349.out _;(with_reducible repeat (first|refine bn ?_ _|refine bd ?_|refine ba ?_ _));refine bf ?_ NB350_349.out _;(with_reducible repeat (first|refine bn ?_ _|refine bd ?_|refine ba ?_ _));refine bf ?_ NB350_349.out _;(with_reducible repeat (first|refine bn ?_ _|refine bd ?_|refine ba ?_ _));exact BK350.out⟩;have n4_ : Aside0 (Below w.heap.size w ((((((((((((w82.setCell ⟨gb349,0,none⟩ (.int .i64 a0_0)).setCell ⟨gb349,1,none⟩ (.int .i64 a0_1)).setCell ⟨gb349,2,none⟩ (.int .i64 a0_2)).setCell ⟨gb349,3,none⟩ (.int .i64 a0_3)).setCell ⟨gb349,4,none⟩ (.int .i64 a0_4)).setCell ⟨gb349,5,none⟩ (.int .i64 a0_5)).setCell ⟨gb350,0,none⟩ (.int .i64 a0_0)).setCell ⟨gb350,1,none⟩ (.int .i64 a0_1)).setCell ⟨gb350,2,none⟩ (.int .i64 a0_2)).setCell ⟨gb350,3,none⟩ (.int .i64 a0_3)).setCell ⟨gb350,4,none⟩ (.int .i64 a0_4)).setCell ⟨gb350,5,none⟩ (.int .i64 a0_5))):=⟨by repeat (first|(with_reducible first|exact HB.out|apply sa|apply sn|apply sd|refine sy ?_ (by assumption))|exact HB.out)⟩;(try clear BK339);(try clear BK340);(try clear BK349);(try clear BK350);(try clear HB);generalize ((((((((((((w82.setCell ⟨gb349,0,none⟩ (.int .i64 a0_0)).setCell ⟨gb349,1,none⟩ (.int .i64 a0_1)).setCell ⟨gb349,2,none⟩ (.int .i64 a0_2)).setCell ⟨gb349,3,none⟩ (.int .i64 a0_3)).setCell ⟨gb349,4,none⟩ (.int .i64 a0_4)).setCell ⟨gb349,5,none⟩ (.int .i64 a0_5)).setCell ⟨gb350,0,none⟩ (.int .i64 a0_0)).setCell ⟨gb350,1,none⟩ (.int .i64 a0_1)).setCell ⟨gb350,2,none⟩ (.int .i64 a0_2)).setCell ⟨gb350,3,none⟩ (.int .i64 a0_3)).setCell ⟨gb350,4,none⟩ (.int .i64 a0_4)).setCell ⟨gb350,5,none⟩ (.int .i64 a0_5)) = w95 at n0_ n1_ n2_ n3_ n4_ ⊢;have BK339:=n0_;have BK340:=n1_;have BK349:=n2_;have BK350:=n3_;have HB:=n4_;clear n0_ n1_ n2_ n3_ n4_;replace BK339:=am (bd BK339.out);replace BK340:=am (bd BK340.out);replace BK349:=am (bd BK349.out);replace BK350:=am (bd BK350.out);replace HB:=am (sd HB.out);refine start_ (n:=6) (S:=fun w' => w'.cell? ⟨gb340,0,none⟩ = some (.int .i64 (wrap64 (Int.tdiv (wrap64 (a0_0 + a0_2)) 2))) ∧ w'.cell? ⟨gb340,1,none⟩ = some (.int .i64 (wrap64 (Int.tdiv (wrap64 (a0_1 + a0_3)) 2)))) (ds:=[]) #[false,false,false,false,false,false] (by kernel_rfl) rfl rfl ⟨(bc BK340.out 0).trans rfl,(bc BK340.out 1).trans rfl⟩ (fun hHeld => ?_);generalize w95.drew = w96 at BK339 BK340 BK349 BK350 HB hHeld ⊢;refine take_ (i:=0) (N:=some 72) (v:=?_) (a':=?_) #[true,false,false,false,false,false] rfl rfl (by kernel_rfl) (fun _ _ _ h => h) (Or.inl ⟨by rfl,?_⟩) hHeld ?_ ?_
            rotate_left
            · rintro w' ⟨s0,s1⟩
              go_simp
              with_reducible rfl
            rotate_left
            · simp only [Act.put,q1,q2,q3,i64_w,i32_w]
              rfl
            refine pure_ (i:=2) (N:=some 74) (v:=?_) (a':=?_) #[true,false,true,false,false,false] rfl rfl (by kernel_rfl) (fun _ _ _ h => h) (Or.inl ⟨by rfl,?_⟩) ?_ ?_
            rotate_left
            · intro w'
              go_simp
              with_reducible rfl
            rotate_left
            · simp only [Act.put,q1,q2,q3,i64_w,i32_w]
              rfl
            refine take_ (i:=1) (N:=some 73) (v:=?_) (a':=?_) #[true,true,true,false,false,false] rfl rfl (by kernel_rfl) (fun _ _ _ h => h) (Or.inl ⟨by rfl,?_⟩) hHeld ?_ ?_
            rotate_left
            · rintro w' ⟨s0,s1⟩
              go_simp
              with_reducible rfl
            rotate_left
            · simp only [Act.put,q1,q2,q3,i64_w,i32_w]
              rfl
            refine one_ (i:=3) (N:=none) #[true,true,true,true,false,false] rfl rfl (by kernel_rfl) (by decide) (fun K hK => ?_);have hs97 : w96.cell? ⟨gb349,2,none⟩ = some (.int .i64 a0_2):=(bc BK349.out 2).trans rfl;have hfs97:=bz BK349.out 2;have hns97_0:=NB339_349.out;have hns97_1:=NB340_349.out;have hns97_3:=NB350_349.out;have hms97_0:=NB349_339.out;have hms97_1:=NB349_340.out;have hms97_3:=NB349_350.out;have hs98 : w96.cell? ⟨gb349,3,none⟩ = some (.int .i64 a0_3):=(bc BK349.out 3).trans rfl;have hfs98:=bz BK349.out 3;have hns98_0:=NB339_349.out;have hns98_1:=NB340_349.out;have hns98_3:=NB350_349.out;have hms98_0:=NB349_339.out;have hms98_1:=NB349_340.out;have hms98_3:=NB349_350.out;refine skip_ (w1:=?_) (by rfl) rfl ?_ ?_
            rotate_left
            · go_simp
              rfl
            refine hK.out _ _ ⟨((cell_far (p:=⟨gb349,_,none⟩) NB340_349.out _).trans (((cell_far (p:=⟨gb349,_,none⟩) NB340_349.out _).trans (hHeld.1)))),((cell_far (p:=⟨gb349,_,none⟩) NB340_349.out _).trans (((cell_far (p:=⟨gb349,_,none⟩) NB340_349.out _).trans (hHeld.2))))⟩ (fun hHeld => ?_);clear hK K;refine pure_ (i:=4) (N:=some 75) (v:=?_) (a':=?_) #[true,true,true,true,true,false] rfl rfl (by kernel_rfl) (fun _ _ _ h => h) (Or.inl ⟨by rfl,?_⟩) ?_ ?_
            rotate_left
            · intro w'
              go_simp
              with_reducible rfl
            rotate_left
            · simp only [Act.put,q1,q2,q3,i64_w,i32_w]
              rfl
            refine one_ (i:=5) (N:=none) #[true,true,true,true,true,true] rfl rfl (by kernel_rfl) (by decide) (fun K hK => ?_);have hs99 : w96.cell? ⟨gb350,0,none⟩ = some (.int .i64 a0_0):=(bc BK350.out 0).trans rfl;have hfs99:=bz BK350.out 0;have hns99_0:=NB339_350.out;have hns99_1:=NB340_350.out;have hns99_2:=NB349_350.out;have hms99_0:=NB350_339.out;have hms99_1:=NB350_340.out;have hms99_2:=NB350_349.out;have hs100 : w96.cell? ⟨gb350,1,none⟩ = some (.int .i64 a0_1):=(bc BK350.out 1).trans rfl;have hfs100:=bz BK350.out 1;have hns100_0:=NB339_350.out;have hns100_1:=NB340_350.out;have hns100_2:=NB349_350.out;have hms100_0:=NB350_339.out;have hms100_1:=NB350_340.out;have hms100_2:=NB350_349.out;refine skip_ (w1:=?_) (by rfl) rfl ?_ ?_
            rotate_left
            · go_simp
              rfl
            refine hK.out _ _ ⟨((cell_far (p:=⟨gb350,_,none⟩) NB340_350.out _).trans (((cell_far (p:=⟨gb350,_,none⟩) NB340_350.out _).trans (hHeld.1)))),((cell_far (p:=⟨gb350,_,none⟩) NB340_350.out _).trans (((cell_far (p:=⟨gb350,_,none⟩) NB340_350.out _).trans (hHeld.2))))⟩ (fun hHeld => ?_);clear hK K;refine done_ (by kernel_rfl) ?_
            try go_wp2
            have n0_ : Aside0 (((((w96.setCell ⟨gb349,2,none⟩ (.int .i64 (wrap64 (Int.tdiv (wrap64 (a0_0 + a0_2)) 2)))).setCell ⟨gb349,3,none⟩ (.int .i64 (wrap64 (Int.tdiv (wrap64 (a0_1 + a0_3)) 2)))).setCell ⟨gb350,0,none⟩ (.int .i64 (wrap64 (Int.tdiv (wrap64 (a0_0 + a0_2)) 2)))).setCell ⟨gb350,1,none⟩ (.int .i64 (wrap64 (Int.tdiv (wrap64 (a0_1 + a0_3)) 2)))).heap[gb339]? = some (.cells #[.int .i64 a0_0,.int .i64 a0_1,.int .i64 a0_2,.int .i64 a0_3,.int .i64 a0_4,.int .i64 a0_5] 25 (0,0))):=⟨by (with_reducible repeat (first|refine bn ?_ _|refine bd ?_|refine ba ?_ _|refine bf ?_ NB339_350.out _|refine bf ?_ NB339_349.out _));exact BK339.out⟩;have n1_ : Aside0 (((((w96.setCell ⟨gb349,2,none⟩ (.int .i64 (wrap64 (Int.tdiv (wrap64 (a0_0 + a0_2)) 2)))).setCell ⟨gb349,3,none⟩ (.int .i64 (wrap64 (Int.tdiv (wrap64 (a0_1 + a0_3)) 2)))).setCell ⟨gb350,0,none⟩ (.int .i64 (wrap64 (Int.tdiv (wrap64 (a0_0 + a0_2)) 2)))).setCell ⟨gb350,1,none⟩ (.int .i64 (wrap64 (Int.tdiv (wrap64 (a0_1 + a0_3)) 2)))).heap[gb340]? = some (.cells #[.int .i64 (wrap64 (Int.tdiv (wrap64 (a0_0 + a0_2)) 2)),.int .i64 (wrap64 (Int.tdiv (wrap64 (a0_1 + a0_3)) 2))] 23 (0,0))):=⟨by (with_reducible repeat (first|refine bn ?_ _|refine bd ?_|refine ba ?_ _|refine bf ?_ NB340_350.out _|refine bf ?_ NB340_349.out _));exact BK340.out⟩;have n2_ : Aside0 (((((w96.setCell ⟨gb349,2,none⟩ (.int .i64 (wrap64 (Int.tdiv (wrap64 (a0_0 + a0_2)) 2)))).setCell ⟨gb349,3,none⟩ (.int .i64 (wrap64 (Int.tdiv (wrap64 (a0_1 + a0_3)) 2)))).setCell ⟨gb350,0,none⟩ (.int .i64 (wrap64 (Int.tdiv (wrap64 (a0_0 + a0_2)) 2)))).setCell ⟨gb350,1,none⟩ (.int .i64 (wrap64 (Int.tdiv (wrap64 (a0_1 + a0_3)) 2)))).heap[gb349]? = some (.cells #[.int .i64 a0_0,.int .i64 a0_1,.int .i64 (wrap64 (Int.tdiv (wrap64 (a0_0 + a0_2)) 2)),.int .i64 (wrap64 (Int.tdiv (wrap64 (a0_1 + a0_3)) 2)),.int .i64 a0_4,.int .i64 a0_5] 25 (0,0))):=⟨by (with_reducible repeat (first|refine bn ?_ _|refine bd ?_|refine ba ?_ _));refine bf ?_ NB349_350.out _;(with_reducible repeat (first|refine bn ?_ _|refine bd ?_|refine ba ?_ _));refine bf ?_ NB349_350.out _;(with_reducible repeat (first|refine bn ?_ _|refine bd ?_|refine ba ?_ _));refine bp (cs:=#[.int .i64 a0_0,.int .i64 a0_1,.int .i64 (wrap64 (Int.tdiv (wrap64 (a0_0 + a0_2)) 2)),.int .i64 a0_3,.int .i64 a0_4,.int .i64 a0_5]) ?_ 3 _ rfl;(with_reducible repeat (first|refine bn ?_ _|refine bd ?_|refine ba ?_ _));refine bp (cs:=#[.int .i64 a0_0,.int .i64 a0_1,.int .i64 a0_2,.int .i64 a0_3,.int .i64 a0_4,.int .i64 a0_5]) ?_ 2 _ rfl;(with_reducible repeat (first|refine bn ?_ _|refine bd ?_|refine ba ?_ _));exact BK349.out⟩;have n3_ : Aside0 (((((w96.setCell ⟨gb349,2,none⟩ (.int .i64 (wrap64 (Int.tdiv (wrap64 (a0_0 + a0_2)) 2)))).setCell ⟨gb349,3,none⟩ (.int .i64 (wrap64 (Int.tdiv (wrap64 (a0_1 + a0_3)) 2)))).setCell ⟨gb350,0,none⟩ (.int .i64 (wrap64 (Int.tdiv (wrap64 (a0_0 + a0_2)) 2)))).setCell ⟨gb350,1,none⟩ (.int .i64 (wrap64 (Int.tdiv (wrap64 (a0_1 + a0_3)) 2)))).heap[gb350]? = some (.cells #[.int .i64 (wrap64 (Int.tdiv (wrap64 (a0_0 + a0_2)) 2)),.int .i64 (wrap64 (Int.tdiv (wrap64 (a0_1 + a0_3)) 2)),.int .i64 a0_2,.int .i64 a0_3,.int .i64 a0_4,.int .i64 a0_5] 25 (0,0))):=⟨by (with_reducible repeat (first|refine bn ?_ _|refine bd ?_|refine ba ?_ _));refine bp (cs:=#[.int .i64 (wrap64 (Int.tdiv (wrap64 (a0_0 + a0_2)) 2)),.int .i64 a0_1,.int .i64 a0_2,.int .i64 a0_3,.int .i64 a0_4,.int .i64 a0_5]) ?_ 1 _ rfl;(with_reducible repeat (first|refine bn ?_ _|refine bd ?_|refine ba ?_ _));refine bp (cs:=#[.int .i64 a0_0,.int .i64 a0_1,.int .i64 a0_2,.int .i64 a0_3,.int .i64 a0_4,.int .i64 a0_5]) ?_ 0 _ rfl;(with_reducible repeat (first|refine bn ?_ _|refine bd ?_|refine ba ?_ _));refine bf ?_ NB350_349.out _;(with_reducible repeat (first|refine bn ?_ _|refine bd ?_|refine ba ?_ _));refine bf ?_ NB350_349.out _;(with_reducible repeat (first|refine bn ?_ _|refine bd ?_|refine ba ?_ _));exact BK350.out⟩;have n4_ : Aside0 (Below w.heap.size w ((((w96.setCell ⟨gb349,2,none⟩ (.int .i64 (wrap64 (Int.tdiv (wrap64 (a0_0 + a0_2)) 2)))).setCell ⟨gb349,3,none⟩ (.int .i64 (wrap64 (Int.tdiv (wrap64 (a0_1 + a0_3)) 2)))).setCell ⟨gb350,0,none⟩ (.int .i64 (wrap64 (Int.tdiv (wrap64 (a0_0 + a0_2)) 2)))).setCell ⟨gb350,1,none⟩ (.int .i64 (wrap64 (Int.tdiv (wrap64 (a0_1 + a0_3)) 2))))):=⟨by repeat (first|(with_reducible first|exact HB.out|apply sa|apply sn|apply sd|refine sy ?_ (by assumption))|exact HB.out)⟩;(try clear BK339);(try clear BK340);(try clear BK349);(try clear BK350);(try clear HB);generalize ((((w96.setCell ⟨gb349,2,none⟩ (.int .i64 (wrap64 (Int.tdiv (wrap64 (a0_0 + a0_2)) 2)))).setCell ⟨gb349,3,none⟩ (.int .i64 (wrap64 (Int.tdiv (wrap64 (a0_1 + a0_3)) 2)))).setCell ⟨gb350,0,none⟩ (.int .i64 (wrap64 (Int.tdiv (wrap64 (a0_0 + a0_2)) 2)))).setCell ⟨gb350,1,none⟩ (.int .i64 (wrap64 (Int.tdiv (wrap64 (a0_1 + a0_3)) 2)))) = w101 at n0_ n1_ n2_ n3_ n4_ ⊢;have BK339:=n0_;have BK340:=n1_;have BK349:=n2_;have BK350:=n3_;have HB:=n4_;clear n0_ n1_ n2_ n3_ n4_;replace BK339:=am (bd BK339.out);replace BK340:=am (bd BK340.out);replace BK349:=am (bd BK349.out);replace BK350:=am (bd BK350.out);replace HB:=am (sd HB.out);refine start_ (n:=19) (S:=fun w' => w'.cell? ⟨gb339,0,none⟩ = some (.int .i64 a0_0) ∧ w'.cell? ⟨gb339,1,none⟩ = some (.int .i64 a0_1) ∧ w'.cell? ⟨gb339,2,none⟩ = some (.int .i64 a0_2) ∧ w'.cell? ⟨gb339,3,none⟩ = some (.int .i64 a0_3) ∧ w'.cell? ⟨gb339,4,none⟩ = some (.int .i64 a0_4) ∧ w'.cell? ⟨gb339,5,none⟩ = some (.int .i64 a0_5) ∧ w'.cell? ⟨gb349,0,none⟩ = some (.int .i64 a0_0) ∧ w'.cell? ⟨gb349,1,none⟩ = some (.int .i64 a0_1) ∧ w'.cell? ⟨gb349,2,none⟩ = some (.int .i64 (wrap64 (Int.tdiv (wrap64 (a0_0 + a0_2)) 2))) ∧ w'.cell? ⟨gb349,3,none⟩ = some (.int .i64 (wrap64 (Int.tdiv (wrap64 (a0_1 + a0_3)) 2))) ∧ w'.cell? ⟨gb349,4,none⟩ = some (.int .i64 a0_4) ∧ w'.cell? ⟨gb349,5,none⟩ = some (.int .i64 a0_5)) (ds:=[]) #[false,false,false,false,false,false,false,false,false,false,false,false,false,false,false,false,false,false,false] (by kernel_rfl) rfl rfl ⟨(bc BK339.out 0).trans rfl,(bc BK339.out 1).trans rfl,(bc BK339.out 2).trans rfl,(bc BK339.out 3).trans rfl,(bc BK339.out 4).trans rfl,(bc BK339.out 5).trans rfl,(bc BK349.out 0).trans rfl,(bc BK349.out 1).trans rfl,(bc BK349.out 2).trans rfl,(bc BK349.out 3).trans rfl,(bc BK349.out 4).trans rfl,(bc BK349.out 5).trans rfl⟩ (fun hHeld => ?_);refine with_tabW celluloidlaw18_StrokeParts.tab6 celluloidlaw18_StrokeParts.bits6 (fun HT_ HW_ => ?_);generalize w101.drew = w102 at BK339 BK340 BK349 BK350 HB hHeld ⊢;refine pure_ (i:=1) (N:=some 77) (v:=?_) (a':=?_) #[false,true,false,false,false,false,false,false,false,false,false,false,false,false,false,false,false,false,false] rfl rfl (any_of HT_.out (by kernel_rfl)) (fun _ _ _ h => h) (Or.inl ⟨by rfl,?_⟩) ?_ ?_
            rotate_left
            · intro w'
              go_simp
              with_reducible rfl
            rotate_left
            · simp only [Act.put,q1,q2,q3,i64_w,i32_w]
              rfl
            refine pure_ (i:=2) (N:=some 78) (v:=?_) (a':=?_) #[false,true,true,false,false,false,false,false,false,false,false,false,false,false,false,false,false,false,false] rfl rfl (any_of HT_.out (by kernel_rfl)) (fun _ _ _ h => h) (Or.inl ⟨by rfl,?_⟩) ?_ ?_
            rotate_left
            · intro w'
              go_simp
              with_reducible rfl
            rotate_left
            · simp only [Act.put,q1,q2,q3,i64_w,i32_w]
              rfl
            refine pure_ (i:=5) (N:=some 81) (v:=?_) (a':=?_) #[false,true,true,false,false,true,false,false,false,false,false,false,false,false,false,false,false,false,false] rfl rfl (any_of HT_.out (by kernel_rfl)) (fun _ _ _ h => h) (Or.inl ⟨by rfl,?_⟩) ?_ ?_
            rotate_left
            · intro w'
              go_simp
              with_reducible rfl
            rotate_left
            · simp only [Act.put,q1,q2,q3,i64_w,i32_w]
              rfl
            refine pure_ (i:=6) (N:=some 82) (v:=?_) (a':=?_) #[false,true,true,false,false,true,true,false,false,false,false,false,false,false,false,false,false,false,false] rfl rfl (any_of HT_.out (by kernel_rfl)) (fun _ _ _ h => h) (Or.inl ⟨by rfl,?_⟩) ?_ ?_
            rotate_left
            · intro w'
              go_simp
              with_reducible rfl
            rotate_left
            · simp only [Act.put,q1,q2,q3,i64_w,i32_w]
              rfl
            refine take_ (i:=0) (N:=some 76) (v:=?_) (a':=?_) #[true,true,true,false,false,true,true,false,false,false,false,false,false,false,false,false,false,false,false] rfl rfl (take_ofW HT_.out HW_.out (by kernel_rfl)) (fun _ _ _ h => h) (Or.inl ⟨by rfl,?_⟩) hHeld ?_ ?_
            rotate_left
            · rintro w' ⟨s0,s1,s2,s3,s4,s5,s6,s7,s8,s9,s10,s11⟩
              go_simp
              with_reducible rfl
            rotate_left
            · simp only [Act.put,q1,q2,q3,i64_w,i32_w]
              rfl
            refine take_ (i:=4) (N:=some 80) (v:=?_) (a':=?_) #[true,true,true,false,true,true,true,false,false,false,false,false,false,false,false,false,false,false,false] rfl rfl (take_ofW HT_.out HW_.out (by kernel_rfl)) (fun _ _ _ h => h) (Or.inl ⟨by rfl,?_⟩) hHeld ?_ ?_
            rotate_left
            · rintro w' ⟨s0,s1,s2,s3,s4,s5,s6,s7,s8,s9,s10,s11⟩
              go_simp
              with_reducible rfl
            rotate_left
            · simp only [Act.put,q1,q2,q3,i64_w,i32_w]
              rfl
            refine one_ (i:=3) (N:=some 79) #[true,true,true,true,true,true,true,false,false,false,false,false,false,false,false,false,false,false,false] rfl rfl (one_of HT_.out (by kernel_rfl)) (by decide) (fun K hK => ?_);refine goes_ Try.func15 (by kernel_rfl) rfl #[.agg #[.int .i64 a0_0,.int .i64 a0_1,.int .i64 a0_2,.int .i64 a0_3,.int .i64 a0_4,.int .i64 a0_5],.int .i64 a1,.int .i64 a2] (by rfl) rfl rfl (by (try simp only [List.map_toArray,List.map_cons,List.map_nil]);first|done|rfl|(simp only [List.length_drop,List.length_take];rfl)) ?_
            with_reducible refine (stroke_Near.calls a0_0 a0_1 a0_2 a0_3 a0_4 a0_5 a1 a2 t351 _ A47.out).mono ?_
            rintro e w103 ⟨rfl,hb⟩
            refine ⟨_,rfl,?_⟩;replace BK339:=am (bw (by exact BK339.out) hb);replace BK340:=am (bw (by exact BK340.out) hb);replace BK349:=am (bw (by exact BK349.out) hb);replace BK350:=am (bw (by exact BK350.out) hb);replace HB:=am (ss (by repeat (first|(with_reducible first|exact HB.out|apply sa|apply sn|apply sd|refine sy ?_ (by assumption))|exact HB.out)) hb);(try clear hb);(try clear hb2);(try clear hk);(try clear hi);refine hK.out _ _ ⟨(bc BK339.out 0).trans rfl,(bc BK339.out 1).trans rfl,(bc BK339.out 2).trans rfl,(bc BK339.out 3).trans rfl,(bc BK339.out 4).trans rfl,(bc BK339.out 5).trans rfl,(bc BK349.out 0).trans rfl,(bc BK349.out 1).trans rfl,(bc BK349.out 2).trans rfl,(bc BK349.out 3).trans rfl,(bc BK349.out 4).trans rfl,(bc BK349.out 5).trans rfl⟩ (fun hHeld => ?_);clear hK K;refine norm_ (a':=?_) ?_ ?_
            rotate_left
            · show Act.put _ (some 79) _ = _
              simp only [Act.put,q1,q2,q3,i64_w,i32_w]
              rfl
            refine one_ (i:=7) (N:=some 83) #[true,true,true,true,true,true,true,true,false,false,false,false,false,false,false,false,false,false,false] rfl rfl (one_of HT_.out (by kernel_rfl)) (by decide) (fun K hK => ?_);refine goes_ Try.func15 (by kernel_rfl) rfl #[.agg #[.int .i64 a0_0,.int .i64 a0_1,.int .i64 (wrap64 (Int.tdiv (wrap64 (a0_0 + a0_2)) 2)),.int .i64 (wrap64 (Int.tdiv (wrap64 (a0_1 + a0_3)) 2)),.int .i64 a0_4,.int .i64 a0_5],.int .i64 a1,.int .i64 a2] (by rfl) rfl rfl (by (try simp only [List.map_toArray,List.map_cons,List.map_nil]);first|done|rfl|(simp only [List.length_drop,List.length_take];rfl)) ?_
            with_reducible refine (stroke_Near.calls a0_0 a0_1 (wrap64 (Int.tdiv (wrap64 (a0_0 + a0_2)) 2)) (wrap64 (Int.tdiv (wrap64 (a0_1 + a0_3)) 2)) a0_4 a0_5 a1 a2 true _ A48.out).mono ?_
            rintro e w104 ⟨rfl,hb⟩
            refine ⟨_,rfl,?_⟩;replace BK339:=am (bw (by exact BK339.out) hb);replace BK340:=am (bw (by exact BK340.out) hb);replace BK349:=am (bw (by exact BK349.out) hb);replace BK350:=am (bw (by exact BK350.out) hb);replace HB:=am (ss (by repeat (first|(with_reducible first|exact HB.out|apply sa|apply sn|apply sd|refine sy ?_ (by assumption))|exact HB.out)) hb);(try clear hb);(try clear hb2);(try clear hk);(try clear hi);refine hK.out _ _ ⟨(bc BK339.out 0).trans rfl,(bc BK339.out 1).trans rfl,(bc BK339.out 2).trans rfl,(bc BK339.out 3).trans rfl,(bc BK339.out 4).trans rfl,(bc BK339.out 5).trans rfl,(bc BK349.out 0).trans rfl,(bc BK349.out 1).trans rfl,(bc BK349.out 2).trans rfl,(bc BK349.out 3).trans rfl,(bc BK349.out 4).trans rfl,(bc BK349.out 5).trans rfl⟩ (fun hHeld => ?_);clear hK K;refine norm_ (a':=?_) ?_ ?_
            rotate_left
            · show Act.put _ (some 83) _ = _
              simp only [Act.put,q1,q2,q3,i64_w,i32_w]
              rfl
            refine pure_ (i:=8) (N:=some 84) (v:=?_) (a':=?_) #[true,true,true,true,true,true,true,true,true,false,false,false,false,false,false,false,false,false,false] rfl rfl (any_of HT_.out (by kernel_rfl)) (fun _ _ _ h => h) (Or.inl ⟨by rfl,?_⟩) ?_ ?_
            rotate_left
            · intro w'
              go_simp
              with_reducible rfl
            rotate_left
            · simp only [Act.put,q1,q2,q3,i64_w,i32_w]
              rfl
            refine pure_ (i:=9) (N:=some 85) (v:=undef) (a':=?_) #[true,true,true,true,true,true,true,true,true,true,false,false,false,false,false,false,false,false,false] rfl rfl (any_of HT_.out (by kernel_rfl)) (fun _ _ _ h => h) (Or.inr ⟨by rfl,rfl⟩) ?_ ?_
            rotate_left
            · simp only [Act.put,q1,q2,q3,i64_w,i32_w]
              rfl
            refine pure_ (i:=10) (N:=some 86) (v:=undef) (a':=?_) #[true,true,true,true,true,true,true,true,true,true,true,false,false,false,false,false,false,false,false] rfl rfl (any_of HT_.out (by kernel_rfl)) (fun _ _ _ h => h) (Or.inr ⟨by rfl,rfl⟩) ?_ ?_
            rotate_left
            · simp only [Act.put,q1,q2,q3,i64_w,i32_w]
              rfl
            refine pure_ (i:=11) (N:=some 87) (v:=undef) (a':=?_) #[true,true,true,true,true,true,true,true,true,true,true,true,false,false,false,false,false,false,false] rfl rfl (any_of HT_.out (by kernel_rfl)) (fun _ _ _ h => h) (Or.inr ⟨by rfl,rfl⟩) ?_ ?_
            rotate_left
            · simp only [Act.put,q1,q2,q3,i64_w,i32_w]
              rfl
            refine pure_ (i:=12) (N:=some 88) (v:=undef) (a':=?_) #[true,true,true,true,true,true,true,true,true,true,true,true,true,false,false,false,false,false,false] rfl rfl (any_of HT_.out (by kernel_rfl)) (fun _ _ _ h => h) (Or.inr ⟨by rfl,rfl⟩) ?_ ?_
            rotate_left
            · simp only [Act.put,q1,q2,q3,i64_w,i32_w]
              rfl
            refine pure_ (i:=13) (N:=some 89) (v:=?_) (a':=?_) #[true,true,true,true,true,true,true,true,true,true,true,true,true,true,false,false,false,false,false] rfl rfl (any_of HT_.out (by kernel_rfl)) (fun _ _ _ h => h) (Or.inl ⟨by rfl,?_⟩) ?_ ?_
            rotate_left
            · intro w'
              go_simp
              with_reducible rfl
            rotate_left
            · simp only [Act.put,q1,q2,q3,i64_w,i32_w]
              rfl
            refine pure_ (i:=14) (N:=some 90) (v:=?_) (a':=?_) #[true,true,true,true,true,true,true,true,true,true,true,true,true,true,true,false,false,false,false] rfl rfl (any_of HT_.out (by kernel_rfl)) (fun _ _ _ h => h) (Or.inl ⟨by rfl,?_⟩) ?_ ?_
            rotate_left
            · intro w'
              go_simp
              with_reducible rfl
            rotate_left
            · simp only [Act.put,q1,q2,q3,i64_w,i32_w]
              rfl
            refine pure_ (i:=15) (N:=some 91) (v:=?_) (a':=?_) #[true,true,true,true,true,true,true,true,true,true,true,true,true,true,true,true,false,false,false] rfl rfl (any_of HT_.out (by kernel_rfl)) (fun _ _ _ h => h) (Or.inl ⟨by rfl,?_⟩) ?_ ?_
            rotate_left
            · intro w'
              go_simp
              with_reducible rfl
            rotate_left
            · simp only [Act.put,q1,q2,q3,i64_w,i32_w]
              rfl
            refine pure_ (i:=16) (N:=some 92) (v:=undef) (a':=?_) #[true,true,true,true,true,true,true,true,true,true,true,true,true,true,true,true,true,false,false] rfl rfl (any_of HT_.out (by kernel_rfl)) (fun _ _ _ h => h) (Or.inr ⟨by rfl,rfl⟩) ?_ ?_
            rotate_left
            · simp only [Act.put,q1,q2,q3,i64_w,i32_w]
              rfl
            refine pure_ (i:=17) (N:=some 93) (v:=?_) (a':=?_) #[true,true,true,true,true,true,true,true,true,true,true,true,true,true,true,true,true,true,false] rfl rfl (any_of HT_.out (by kernel_rfl)) (fun _ _ _ h => h) (Or.inl ⟨by rfl,?_⟩) ?_ ?_
            rotate_left
            · intro w'
              go_simp
              with_reducible rfl
            rotate_left
            · simp only [Act.put,q1,q2,q3,i64_w,i32_w]
              rfl
            refine pure_ (i:=18) (N:=some 6) (v:=?_) (a':=?_) #[true,true,true,true,true,true,true,true,true,true,true,true,true,true,true,true,true,true,true] rfl rfl (any_of HT_.out (by kernel_rfl)) (fun _ _ _ h => h) (Or.inl ⟨by rfl,?_⟩) ?_ ?_
            rotate_left
            · intro w'
              go_simp
              with_reducible rfl
            rotate_left
            · simp only [Act.put,q1,q2,q3,i64_w,i32_w]
              rfl
            refine done_ (done_of HT_.out (by kernel_rfl)) ?_
            try go_wp2
            go_ret
            exact ⟨by first|rfl|(simp [errW_none,errW_some] <;> rfl)|(simp [*,errW_none,errW_some] <;> rfl),by repeat (first|(with_reducible first|exact HB.out|apply sa|apply sn|apply sd|refine sy ?_ (by assumption))|exact HB.out)⟩
        · replace c49:=Bool.eq_false_iff.mpr c49
          subst c49
          have H1 : ((stroke_Near.f (wrap64 (Int.tdiv (wrap64 (a0_0 + a0_2)) 2)) (wrap64 (Int.tdiv (wrap64 (a0_1 + a0_3)) 2)) a0_2 a0_3 a0_4 a0_5 a1 a2).bind fun t354 => (if (t351 == t354) = true then ((celluloidlaw18_awake.f kj3).bind fun t355 => (some t355)) else (some false))) = some r:=by rw [if_neg (show ¬ (false = true) by decide)] at H;exact H
          clear H;have H:=H1;clear H1;replace H:=Option.bind_eq_some_iff.mp H;obtain ⟨t354,A1050,H⟩:=H;replace H : (if (t351 == t354) = true then ((celluloidlaw18_awake.f kj3).bind fun t355 => (some t355)) else (some false)) = some r:=H;have A105:=am A1050;clear A1050
          by_cases c106 : (t351 == t354) = true
          · rw [if_pos c106] at H
            have c106b0 : (t351 == t354) = true:=c106
            (try (have c106b1 : decide (t351 = t354) = true:=by simpa using c106))
            (try (have c106b2 : (t351 == t354) = true:=by simpa using c106))
            clear c106;replace H:=Option.bind_eq_some_iff.mp H;obtain ⟨t355,A1070,H⟩:=H;replace H : (some t355) = some r:=H;have A107:=am A1070;clear A1070;obtain rfl:=Option.some.inj H
            try go_wp2
            replace BK339:=am (bd BK339.out);replace BK340:=am (bd BK340.out);replace HB:=am (sd HB.out);refine start_ (n:=6) (S:=fun w' => w'.cell? ⟨gb339,0,none⟩ = some (.int .i64 a0_0) ∧ w'.cell? ⟨gb339,1,none⟩ = some (.int .i64 a0_1) ∧ w'.cell? ⟨gb339,2,none⟩ = some (.int .i64 a0_2) ∧ w'.cell? ⟨gb339,3,none⟩ = some (.int .i64 a0_3) ∧ w'.cell? ⟨gb339,4,none⟩ = some (.int .i64 a0_4) ∧ w'.cell? ⟨gb339,5,none⟩ = some (.int .i64 a0_5)) (ds:=[]) #[false,false,false,false,false,false] (by kernel_rfl) rfl rfl ⟨(bc BK339.out 0).trans rfl,(bc BK339.out 1).trans rfl,(bc BK339.out 2).trans rfl,(bc BK339.out 3).trans rfl,(bc BK339.out 4).trans rfl,(bc BK339.out 5).trans rfl⟩ (fun hHeld => ?_);generalize wc.drew = w108 at BK339 BK340 HB hHeld ⊢;refine take_ (i:=0) (N:=some 70) (v:=?_) (a':=?_) #[true,false,false,false,false,false] rfl rfl (by kernel_rfl) (fun _ _ _ h => h) (Or.inl ⟨by rfl,?_⟩) hHeld ?_ ?_
            rotate_left
            · rintro w' ⟨s0,s1,s2,s3,s4,s5⟩
              go_simp
              with_reducible rfl
            rotate_left
            · simp only [Act.put,q1,q2,q3,i64_w,i32_w]
              rfl
            refine take_ (i:=1) (N:=some 71) (v:=?_) (a':=?_) #[true,true,false,false,false,false] rfl rfl (by kernel_rfl) (fun _ _ _ h => h) (Or.inl ⟨by rfl,?_⟩) hHeld ?_ ?_
            rotate_left
            · rintro w' ⟨s0,s1,s2,s3,s4,s5⟩
              go_simp
              with_reducible rfl
            rotate_left
            · simp only [Act.put,q1,q2,q3,i64_w,i32_w]
              rfl
            refine join_ (σ:=Nat × Nat) 2 #[true,true,true,true,false,false] (fun s_ => [(8,.pointer (some ⟨s_.1,0,none⟩)),(9,.pointer (some ⟨s_.2,0,none⟩))]) (fun s_ w' => (w'.cell? ⟨gb339,0,none⟩ = some (.int .i64 a0_0) ∧ w'.cell? ⟨gb339,1,none⟩ = some (.int .i64 a0_1) ∧ w'.cell? ⟨gb339,2,none⟩ = some (.int .i64 a0_2) ∧ w'.cell? ⟨gb339,3,none⟩ = some (.int .i64 a0_3) ∧ w'.cell? ⟨gb339,4,none⟩ = some (.int .i64 a0_4) ∧ w'.cell? ⟨gb339,5,none⟩ = some (.int .i64 a0_5)) ∧ (w'.heap[gb339]? = some (.cells #[.int .i64 a0_0,.int .i64 a0_1,.int .i64 a0_2,.int .i64 a0_3,.int .i64 a0_4,.int .i64 a0_5] 25 (0,0))) ∧ (w'.heap[gb340]? = some (.cells #[.int .i64 (wrap64 (Int.tdiv (wrap64 (a0_0 + a0_2)) 2)),.int .i64 (wrap64 (Int.tdiv (wrap64 (a0_1 + a0_3)) 2))] 23 (0,0))) ∧ (w'.heap[s_.1]? = some (.cells #[.int .i64 0,.int .i64 0,.int .i64 0,.int .i64 0,.int .i64 0,.int .i64 0] 25 (0,0))) ∧ (w'.heap[s_.2]? = some (.cells #[.int .i64 0,.int .i64 0,.int .i64 0,.int .i64 0,.int .i64 0,.int .i64 0] 25 (0,0))) ∧ (w.heap.size ≤ s_.1) ∧ (w.heap.size ≤ s_.1) ∧ (gb339 ≠ s_.1) ∧ (s_.1 ≠ gb339) ∧ (gb340 ≠ s_.1) ∧ (s_.1 ≠ gb340) ∧ (s_.2 ≠ s_.1) ∧ (s_.1 ≠ s_.2) ∧ (w.heap.size ≤ s_.2) ∧ (w.heap.size ≤ s_.2) ∧ (gb339 ≠ s_.2) ∧ (s_.2 ≠ gb339) ∧ (gb340 ≠ s_.2) ∧ (s_.2 ≠ gb340) ∧ (Below w.heap.size w w')) ?_ ?_
            rotate_left
            · intro hCont
              refine two_ (i:=2) (j:=3) (Ni:=some 8) (Nj:=some 9) #[true,true,true,false,false,false] #[true,true,false,true,false,false] rfl rfl rfl rfl (by kernel_rfl) (by decide) (by decide) (fun K hK => ?_) (fun K hK => ?_)
              · skip
                refine box_step ?hg (N:=8) ?hd (cs:=#[.int .i64 0,.int .i64 0,.int .i64 0,.int .i64 0,.int .i64 0,.int .i64 0]) (t:=25) ?hr ?_;(case hd => rfl);(case hg => rfl);(case hr => first|(go_simp;done)|(go_simp;rfl))
                intro gb349 hg w109 hbox hb
                have BK349:=am (hbox);have GW349:=am ((by rw [hg];exact (sz (by repeat (first|(with_reducible first|exact HB.out|apply sa|apply sn|apply sd|refine sy ?_ (by assumption))|exact HB.out))) : w.heap.size ≤ gb349));have GE349:=am ((by rw [hg];exact (sz (by repeat (first|(with_reducible first|exact HB.out|apply sa|apply sn|apply sd|refine sy ?_ (by assumption))|exact HB.out))) : w.heap.size ≤ gb349));replace HB:=am (ss (by repeat (first|(with_reducible first|exact HB.out|apply sa|apply sn|apply sd|refine sy ?_ (by assumption))|exact HB.out)) hb);have NB339_349:=nb (by exact BK339.out) hg;have NB349_339:=ng (by exact BK339.out) hg;replace BK339:=am (bw (by exact BK339.out) hb);have NB340_349:=nb (by exact BK340.out) hg;have NB349_340:=ng (by exact BK340.out) hg;replace BK340:=am (bw (by exact BK340.out) hb);clear hb hbox hg;refine hK.out _ _ ⟨(bc BK339.out 0).trans rfl,(bc BK339.out 1).trans rfl,(bc BK339.out 2).trans rfl,(bc BK339.out 3).trans rfl,(bc BK339.out 4).trans rfl,(bc BK339.out 5).trans rfl⟩ (fun hHeld => ?_);clear hK K;refine norm_ (a':=?_) ?_ ?_
                rotate_left
                · show Act.put _ (some 8) _ = _
                  simp only [Act.put,q1,q2,q3,i64_w,i32_w]
                  rfl
                refine one_ (i:=3) (N:=some 9) #[true,true,true,true,false,false] rfl rfl (by kernel_rfl) (by decide) (fun K hK => ?_);refine box_step ?hg (N:=9) ?hd (cs:=#[.int .i64 0,.int .i64 0,.int .i64 0,.int .i64 0,.int .i64 0,.int .i64 0]) (t:=25) ?hr ?_;(case hd => rfl);(case hg => rfl);(case hr => first|(go_simp;done)|(go_simp;rfl))
                intro gb350 hg w110 hbox hb
                have BK350:=am (hbox);have GW350:=am ((by rw [hg];exact (sz (by repeat (first|(with_reducible first|exact HB.out|apply sa|apply sn|apply sd|refine sy ?_ (by assumption))|exact HB.out))) : w.heap.size ≤ gb350));have GE350:=am ((by rw [hg];exact (sz (by repeat (first|(with_reducible first|exact HB.out|apply sa|apply sn|apply sd|refine sy ?_ (by assumption))|exact HB.out))) : w.heap.size ≤ gb350));replace HB:=am (ss (by repeat (first|(with_reducible first|exact HB.out|apply sa|apply sn|apply sd|refine sy ?_ (by assumption))|exact HB.out)) hb);have NB339_350:=nb (by exact BK339.out) hg;have NB350_339:=ng (by exact BK339.out) hg;replace BK339:=am (bw (by exact BK339.out) hb);have NB340_350:=nb (by exact BK340.out) hg;have NB350_340:=ng (by exact BK340.out) hg;replace BK340:=am (bw (by exact BK340.out) hb);have NB349_350:=nb (by exact BK349.out) hg;have NB350_349:=ng (by exact BK349.out) hg;replace BK349:=am (bw (by exact BK349.out) hb);clear hb hbox hg;refine hK.out _ _ ⟨(bc BK339.out 0).trans rfl,(bc BK339.out 1).trans rfl,(bc BK339.out 2).trans rfl,(bc BK339.out 3).trans rfl,(bc BK339.out 4).trans rfl,(bc BK339.out 5).trans rfl⟩ (fun hHeld => ?_);clear hK K;refine norm_ (a':=?_) ?_ ?_
                rotate_left
                · show Act.put _ (some 9) _ = _
                  simp only [Act.put,q1,q2,q3,i64_w,i32_w]
                  rfl
                exact norm_ (by simp only [putAll,Act.put,q1,q2,q3]) (hCont (gb349,gb350) _ ⟨hHeld,(by exact BK339.out),(by exact BK340.out),(by exact BK349.out),(by exact BK350.out),GW349.out,GE349.out,NB339_349.out,NB349_339.out,NB340_349.out,NB349_340.out,NB350_349.out,NB349_350.out,GW350.out,GE350.out,NB339_350.out,NB350_339.out,NB340_350.out,NB350_340.out,(by repeat (first|(with_reducible first|exact HB.out|apply sa|apply sn|apply sd|refine sy ?_ (by assumption))|exact HB.out))⟩)
              · skip
                refine box_step ?hg (N:=9) ?hd (cs:=#[.int .i64 0,.int .i64 0,.int .i64 0,.int .i64 0,.int .i64 0,.int .i64 0]) (t:=25) ?hr ?_;(case hd => rfl);(case hg => rfl);(case hr => first|(go_simp;done)|(go_simp;rfl))
                intro gb350 hg w109 hbox hb
                have BK350:=am (hbox);have GW350:=am ((by rw [hg];exact (sz (by repeat (first|(with_reducible first|exact HB.out|apply sa|apply sn|apply sd|refine sy ?_ (by assumption))|exact HB.out))) : w.heap.size ≤ gb350));have GE350:=am ((by rw [hg];exact (sz (by repeat (first|(with_reducible first|exact HB.out|apply sa|apply sn|apply sd|refine sy ?_ (by assumption))|exact HB.out))) : w.heap.size ≤ gb350));replace HB:=am (ss (by repeat (first|(with_reducible first|exact HB.out|apply sa|apply sn|apply sd|refine sy ?_ (by assumption))|exact HB.out)) hb);have NB339_350:=nb (by exact BK339.out) hg;have NB350_339:=ng (by exact BK339.out) hg;replace BK339:=am (bw (by exact BK339.out) hb);have NB340_350:=nb (by exact BK340.out) hg;have NB350_340:=ng (by exact BK340.out) hg;replace BK340:=am (bw (by exact BK340.out) hb);clear hb hbox hg;refine hK.out _ _ ⟨(bc BK339.out 0).trans rfl,(bc BK339.out 1).trans rfl,(bc BK339.out 2).trans rfl,(bc BK339.out 3).trans rfl,(bc BK339.out 4).trans rfl,(bc BK339.out 5).trans rfl⟩ (fun hHeld => ?_);clear hK K;refine norm_ (a':=?_) ?_ ?_
                rotate_left
                · show Act.put _ (some 9) _ = _
                  simp only [Act.put,q1,q2,q3,i64_w,i32_w]
                  rfl
                refine one_ (i:=2) (N:=some 8) #[true,true,true,true,false,false] rfl rfl (by kernel_rfl) (by decide) (fun K hK => ?_);refine box_step ?hg (N:=8) ?hd (cs:=#[.int .i64 0,.int .i64 0,.int .i64 0,.int .i64 0,.int .i64 0,.int .i64 0]) (t:=25) ?hr ?_;(case hd => rfl);(case hg => rfl);(case hr => first|(go_simp;done)|(go_simp;rfl))
                intro gb349 hg w110 hbox hb
                have BK349:=am (hbox);have GW349:=am ((by rw [hg];exact (sz (by repeat (first|(with_reducible first|exact HB.out|apply sa|apply sn|apply sd|refine sy ?_ (by assumption))|exact HB.out))) : w.heap.size ≤ gb349));have GE349:=am ((by rw [hg];exact (sz (by repeat (first|(with_reducible first|exact HB.out|apply sa|apply sn|apply sd|refine sy ?_ (by assumption))|exact HB.out))) : w.heap.size ≤ gb349));replace HB:=am (ss (by repeat (first|(with_reducible first|exact HB.out|apply sa|apply sn|apply sd|refine sy ?_ (by assumption))|exact HB.out)) hb);have NB339_349:=nb (by exact BK339.out) hg;have NB349_339:=ng (by exact BK339.out) hg;replace BK339:=am (bw (by exact BK339.out) hb);have NB340_349:=nb (by exact BK340.out) hg;have NB349_340:=ng (by exact BK340.out) hg;replace BK340:=am (bw (by exact BK340.out) hb);have NB350_349:=nb (by exact BK350.out) hg;have NB349_350:=ng (by exact BK350.out) hg;replace BK350:=am (bw (by exact BK350.out) hb);clear hb hbox hg;refine hK.out _ _ ⟨(bc BK339.out 0).trans rfl,(bc BK339.out 1).trans rfl,(bc BK339.out 2).trans rfl,(bc BK339.out 3).trans rfl,(bc BK339.out 4).trans rfl,(bc BK339.out 5).trans rfl⟩ (fun hHeld => ?_);clear hK K;refine norm_ (a':=?_) ?_ ?_
                rotate_left
                · show Act.put _ (some 8) _ = _
                  simp only [Act.put,q1,q2,q3,i64_w,i32_w]
                  rfl
                exact norm_ (by simp only [putAll,Act.put,q1,q2,q3]) (hCont (gb349,gb350) _ ⟨hHeld,(by exact BK339.out),(by exact BK340.out),(by exact BK349.out),(by exact BK350.out),GW349.out,GE349.out,NB339_349.out,NB349_339.out,NB340_349.out,NB349_340.out,NB350_349.out,NB349_350.out,GW350.out,GE350.out,NB339_350.out,NB350_339.out,NB340_350.out,NB350_340.out,(by repeat (first|(with_reducible first|exact HB.out|apply sa|apply sn|apply sd|refine sy ?_ (by assumption))|exact HB.out))⟩)
            rintro ⟨gb349,gb350⟩ w111 ⟨hS_,h0_,h1_,h2_,h3_,h4_,h5_,h6_,h7_,h8_,h9_,h10_,h11_,h12_,h13_,h14_,h15_,h16_,h17_,h18_⟩
            have n0_ : Aside0 (w111.heap[gb339]? = some (.cells #[.int .i64 a0_0,.int .i64 a0_1,.int .i64 a0_2,.int .i64 a0_3,.int .i64 a0_4,.int .i64 a0_5] 25 (0,0))):=⟨h0_⟩;have n1_ : Aside0 (w111.heap[gb340]? = some (.cells #[.int .i64 (wrap64 (Int.tdiv (wrap64 (a0_0 + a0_2)) 2)),.int .i64 (wrap64 (Int.tdiv (wrap64 (a0_1 + a0_3)) 2))] 23 (0,0))):=⟨h1_⟩;have n2_ : Aside0 (w111.heap[gb349]? = some (.cells #[.int .i64 0,.int .i64 0,.int .i64 0,.int .i64 0,.int .i64 0,.int .i64 0] 25 (0,0))):=⟨h2_⟩;have n3_ : Aside0 (w111.heap[gb350]? = some (.cells #[.int .i64 0,.int .i64 0,.int .i64 0,.int .i64 0,.int .i64 0,.int .i64 0] 25 (0,0))):=⟨h3_⟩;have n4_ : Aside0 (w.heap.size ≤ gb349):=⟨h4_⟩;have n5_ : Aside0 (w.heap.size ≤ gb349):=⟨h5_⟩;have n6_ : Aside0 (gb339 ≠ gb349):=⟨h6_⟩;have n7_ : Aside0 (gb349 ≠ gb339):=⟨h7_⟩;have n8_ : Aside0 (gb340 ≠ gb349):=⟨h8_⟩;have n9_ : Aside0 (gb349 ≠ gb340):=⟨h9_⟩;have n10_ : Aside0 (gb350 ≠ gb349):=⟨h10_⟩;have n11_ : Aside0 (gb349 ≠ gb350):=⟨h11_⟩;have n12_ : Aside0 (w.heap.size ≤ gb350):=⟨h12_⟩;have n13_ : Aside0 (w.heap.size ≤ gb350):=⟨h13_⟩;have n14_ : Aside0 (gb339 ≠ gb350):=⟨h14_⟩;have n15_ : Aside0 (gb350 ≠ gb339):=⟨h15_⟩;have n16_ : Aside0 (gb340 ≠ gb350):=⟨h16_⟩;have n17_ : Aside0 (gb350 ≠ gb340):=⟨h17_⟩;have n18_ : Aside0 (Below w.heap.size w w111):=⟨h18_⟩;clear BK339;clear BK340;clear HB;clear h0_ h1_ h2_ h3_ h4_ h5_ h6_ h7_ h8_ h9_ h10_ h11_ h12_ h13_ h14_ h15_ h16_ h17_ h18_;have BK339:=n0_;have BK340:=n1_;have BK349:=n2_;have BK350:=n3_;have GW349:=n4_;have GE349:=n5_;have NB339_349:=n6_;have NB349_339:=n7_;have NB340_349:=n8_;have NB349_340:=n9_;have NB350_349:=n10_;have NB349_350:=n11_;have GW350:=n12_;have GE350:=n13_;have NB339_350:=n14_;have NB350_339:=n15_;have NB340_350:=n16_;have NB350_340:=n17_;have HB:=n18_;clear n0_ n1_ n2_ n3_ n4_ n5_ n6_ n7_ n8_ n9_ n10_ n11_ n12_ n13_ n14_ n15_ n16_ n17_ n18_;have hHeld : w111.cell? ⟨gb339,0,none⟩ = some (.int .i64 a0_0) ∧ w111.cell? ⟨gb339,1,none⟩ = some (.int .i64 a0_1) ∧ w111.cell? ⟨gb339,2,none⟩ = some (.int .i64 a0_2) ∧ w111.cell? ⟨gb339,3,none⟩ = some (.int .i64 a0_3) ∧ w111.cell? ⟨gb339,4,none⟩ = some (.int .i64 a0_4) ∧ w111.cell? ⟨gb339,5,none⟩ = some (.int .i64 a0_5):=hS_;refine norm_ (a':=?_) ?_ ?_
            rotate_left
            · simp only [putAll,Act.put,q1,q2,q3]
              rfl
            refine one_ (i:=4) (N:=none) #[true,true,true,true,true,false] rfl rfl (by kernel_rfl) (by decide) (fun K hK => ?_);have hs112 : w111.cell? ⟨gb349,0,none⟩ = some (.int .i64 0):=(bc BK349.out 0).trans rfl;have hfs112:=bz BK349.out 0;have hns112_0:=NB339_349.out;have hns112_1:=NB340_349.out;have hns112_3:=NB350_349.out;have hms112_0:=NB349_339.out;have hms112_1:=NB349_340.out;have hms112_3:=NB349_350.out;have hs113 : w111.cell? ⟨gb349,1,none⟩ = some (.int .i64 0):=(bc BK349.out 1).trans rfl;have hfs113:=bz BK349.out 1;have hns113_0:=NB339_349.out;have hns113_1:=NB340_349.out;have hns113_3:=NB350_349.out;have hms113_0:=NB349_339.out;have hms113_1:=NB349_340.out;have hms113_3:=NB349_350.out;have hs114 : w111.cell? ⟨gb349,2,none⟩ = some (.int .i64 0):=(bc BK349.out 2).trans rfl;have hfs114:=bz BK349.out 2;have hns114_0:=NB339_349.out;have hns114_1:=NB340_349.out;have hns114_3:=NB350_349.out;have hms114_0:=NB349_339.out;have hms114_1:=NB349_340.out;have hms114_3:=NB349_350.out;have hs115 : w111.cell? ⟨gb349,3,none⟩ = some (.int .i64 0):=(bc BK349.out 3).trans rfl;have hfs115:=bz BK349.out 3;have hns115_0:=NB339_349.out;have hns115_1:=NB340_349.out;have hns115_3:=NB350_349.out;have hms115_0:=NB349_339.out;have hms115_1:=NB349_340.out;have hms115_3:=NB349_350.out;have hs116 : w111.cell? ⟨gb349,4,none⟩ = some (.int .i64 0):=(bc BK349.out 4).trans rfl;have hfs116:=bz BK349.out 4;have hns116_0:=NB339_349.out;have hns116_1:=NB340_349.out;have hns116_3:=NB350_349.out;have hms116_0:=NB349_339.out;have hms116_1:=NB349_340.out;have hms116_3:=NB349_350.out;have hs117 : w111.cell? ⟨gb349,5,none⟩ = some (.int .i64 0):=(bc BK349.out 5).trans rfl;have hfs117:=bz BK349.out 5;have hns117_0:=NB339_349.out;have hns117_1:=NB340_349.out;have hns117_3:=NB350_349.out;have hms117_0:=NB349_339.out;have hms117_1:=NB349_340.out;have hms117_3:=NB349_350.out;refine skip_ (w1:=?_) (by rfl) rfl ?_ ?_
            rotate_left
            · go_simp
              rfl
            refine hK.out _ _ ⟨((cell_far (p:=⟨gb349,_,none⟩) NB339_349.out _).trans (((cell_far (p:=⟨gb349,_,none⟩) NB339_349.out _).trans (((cell_far (p:=⟨gb349,_,none⟩) NB339_349.out _).trans (((cell_far (p:=⟨gb349,_,none⟩) NB339_349.out _).trans (((cell_far (p:=⟨gb349,_,none⟩) NB339_349.out _).trans (((cell_far (p:=⟨gb349,_,none⟩) NB339_349.out _).trans (hHeld.1)))))))))))),((cell_far (p:=⟨gb349,_,none⟩) NB339_349.out _).trans (((cell_far (p:=⟨gb349,_,none⟩) NB339_349.out _).trans (((cell_far (p:=⟨gb349,_,none⟩) NB339_349.out _).trans (((cell_far (p:=⟨gb349,_,none⟩) NB339_349.out _).trans (((cell_far (p:=⟨gb349,_,none⟩) NB339_349.out _).trans (((cell_far (p:=⟨gb349,_,none⟩) NB339_349.out _).trans (hHeld.2.1)))))))))))),((cell_far (p:=⟨gb349,_,none⟩) NB339_349.out _).trans (((cell_far (p:=⟨gb349,_,none⟩) NB339_349.out _).trans (((cell_far (p:=⟨gb349,_,none⟩) NB339_349.out _).trans (((cell_far (p:=⟨gb349,_,none⟩) NB339_349.out _).trans (((cell_far (p:=⟨gb349,_,none⟩) NB339_349.out _).trans (((cell_far (p:=⟨gb349,_,none⟩) NB339_349.out _).trans (hHeld.2.2.1)))))))))))),((cell_far (p:=⟨gb349,_,none⟩) NB339_349.out _).trans (((cell_far (p:=⟨gb349,_,none⟩) NB339_349.out _).trans (((cell_far (p:=⟨gb349,_,none⟩) NB339_349.out _).trans (((cell_far (p:=⟨gb349,_,none⟩) NB339_349.out _).trans (((cell_far (p:=⟨gb349,_,none⟩) NB339_349.out _).trans (((cell_far (p:=⟨gb349,_,none⟩) NB339_349.out _).trans (hHeld.2.2.2.1)))))))))))),((cell_far (p:=⟨gb349,_,none⟩) NB339_349.out _).trans (((cell_far (p:=⟨gb349,_,none⟩) NB339_349.out _).trans (((cell_far (p:=⟨gb349,_,none⟩) NB339_349.out _).trans (((cell_far (p:=⟨gb349,_,none⟩) NB339_349.out _).trans (((cell_far (p:=⟨gb349,_,none⟩) NB339_349.out _).trans (((cell_far (p:=⟨gb349,_,none⟩) NB339_349.out _).trans (hHeld.2.2.2.2.1)))))))))))),((cell_far (p:=⟨gb349,_,none⟩) NB339_349.out _).trans (((cell_far (p:=⟨gb349,_,none⟩) NB339_349.out _).trans (((cell_far (p:=⟨gb349,_,none⟩) NB339_349.out _).trans (((cell_far (p:=⟨gb349,_,none⟩) NB339_349.out _).trans (((cell_far (p:=⟨gb349,_,none⟩) NB339_349.out _).trans (((cell_far (p:=⟨gb349,_,none⟩) NB339_349.out _).trans (hHeld.2.2.2.2.2))))))))))))⟩ (fun hHeld => ?_);clear hK K;refine one_ (i:=5) (N:=none) #[true,true,true,true,true,true] rfl rfl (by kernel_rfl) (by decide) (fun K hK => ?_);have hs118 : w111.cell? ⟨gb350,0,none⟩ = some (.int .i64 0):=(bc BK350.out 0).trans rfl;have hfs118:=bz BK350.out 0;have hns118_0:=NB339_350.out;have hns118_1:=NB340_350.out;have hns118_2:=NB349_350.out;have hms118_0:=NB350_339.out;have hms118_1:=NB350_340.out;have hms118_2:=NB350_349.out;have hs119 : w111.cell? ⟨gb350,1,none⟩ = some (.int .i64 0):=(bc BK350.out 1).trans rfl;have hfs119:=bz BK350.out 1;have hns119_0:=NB339_350.out;have hns119_1:=NB340_350.out;have hns119_2:=NB349_350.out;have hms119_0:=NB350_339.out;have hms119_1:=NB350_340.out;have hms119_2:=NB350_349.out;have hs120 : w111.cell? ⟨gb350,2,none⟩ = some (.int .i64 0):=(bc BK350.out 2).trans rfl;have hfs120:=bz BK350.out 2;have hns120_0:=NB339_350.out;have hns120_1:=NB340_350.out;have hns120_2:=NB349_350.out;have hms120_0:=NB350_339.out;have hms120_1:=NB350_340.out;have hms120_2:=NB350_349.out;have hs121 : w111.cell? ⟨gb350,3,none⟩ = some (.int .i64 0):=(bc BK350.out 3).trans rfl;have hfs121:=bz BK350.out 3;have hns121_0:=NB339_350.out;have hns121_1:=NB340_350.out;have hns121_2:=NB349_350.out;have hms121_0:=NB350_339.out;have hms121_1:=NB350_340.out;have hms121_2:=NB350_349.out;have hs122 : w111.cell? ⟨gb350,4,none⟩ = some (.int .i64 0):=(bc BK350.out 4).trans rfl;have hfs122:=bz BK350.out 4;have hns122_0:=NB339_350.out;have hns122_1:=NB340_350.out;have hns122_2:=NB349_350.out;have hms122_0:=NB350_339.out;have hms122_1:=NB350_340.out;have hms122_2:=NB350_349.out;have hs123 : w111.cell? ⟨gb350,5,none⟩ = some (.int .i64 0):=(bc BK350.out 5).trans rfl;have hfs123:=bz BK350.out 5;have hns123_0:=NB339_350.out;have hns123_1:=NB340_350.out;have hns123_2:=NB349_350.out;have hms123_0:=NB350_339.out;have hms123_1:=NB350_340.out;have hms123_2:=NB350_349.out;refine skip_ (w1:=?_) (by rfl) rfl ?_ ?_
            rotate_left
            · go_simp
              rfl
            refine hK.out _ _ ⟨((cell_far (p:=⟨gb350,_,none⟩) NB339_350.out _).trans (((cell_far (p:=⟨gb350,_,none⟩) NB339_350.out _).trans (((cell_far (p:=⟨gb350,_,none⟩) NB339_350.out _).trans (((cell_far (p:=⟨gb350,_,none⟩) NB339_350.out _).trans (((cell_far (p:=⟨gb350,_,none⟩) NB339_350.out _).trans (((cell_far (p:=⟨gb350,_,none⟩) NB339_350.out _).trans (hHeld.1)))))))))))),((cell_far (p:=⟨gb350,_,none⟩) NB339_350.out _).trans (((cell_far (p:=⟨gb350,_,none⟩) NB339_350.out _).trans (((cell_far (p:=⟨gb350,_,none⟩) NB339_350.out _).trans (((cell_far (p:=⟨gb350,_,none⟩) NB339_350.out _).trans (((cell_far (p:=⟨gb350,_,none⟩) NB339_350.out _).trans (((cell_far (p:=⟨gb350,_,none⟩) NB339_350.out _).trans (hHeld.2.1)))))))))))),((cell_far (p:=⟨gb350,_,none⟩) NB339_350.out _).trans (((cell_far (p:=⟨gb350,_,none⟩) NB339_350.out _).trans (((cell_far (p:=⟨gb350,_,none⟩) NB339_350.out _).trans (((cell_far (p:=⟨gb350,_,none⟩) NB339_350.out _).trans (((cell_far (p:=⟨gb350,_,none⟩) NB339_350.out _).trans (((cell_far (p:=⟨gb350,_,none⟩) NB339_350.out _).trans (hHeld.2.2.1)))))))))))),((cell_far (p:=⟨gb350,_,none⟩) NB339_350.out _).trans (((cell_far (p:=⟨gb350,_,none⟩) NB339_350.out _).trans (((cell_far (p:=⟨gb350,_,none⟩) NB339_350.out _).trans (((cell_far (p:=⟨gb350,_,none⟩) NB339_350.out _).trans (((cell_far (p:=⟨gb350,_,none⟩) NB339_350.out _).trans (((cell_far (p:=⟨gb350,_,none⟩) NB339_350.out _).trans (hHeld.2.2.2.1)))))))))))),((cell_far (p:=⟨gb350,_,none⟩) NB339_350.out _).trans (((cell_far (p:=⟨gb350,_,none⟩) NB339_350.out _).trans (((cell_far (p:=⟨gb350,_,none⟩) NB339_350.out _).trans (((cell_far (p:=⟨gb350,_,none⟩) NB339_350.out _).trans (((cell_far (p:=⟨gb350,_,none⟩) NB339_350.out _).trans (((cell_far (p:=⟨gb350,_,none⟩) NB339_350.out _).trans (hHeld.2.2.2.2.1)))))))))))),((cell_far (p:=⟨gb350,_,none⟩) NB339_350.out _).trans (((cell_far (p:=⟨gb350,_,none⟩) NB339_350.out _).trans (((cell_far (p:=⟨gb350,_,none⟩) NB339_350.out _).trans (((cell_far (p:=⟨gb350,_,none⟩) NB339_350.out _).trans (((cell_far (p:=⟨gb350,_,none⟩) NB339_350.out _).trans (((cell_far (p:=⟨gb350,_,none⟩) NB339_350.out _).trans (hHeld.2.2.2.2.2))))))))))))⟩ (fun hHeld => ?_);clear hK K;refine done_ (by kernel_rfl) ?_
            try go_wp2
            have n0_ : Aside0 (((((((((((((w111.setCell ⟨gb349,0,none⟩ (.int .i64 a0_0)).setCell ⟨gb349,1,none⟩ (.int .i64 a0_1)).setCell ⟨gb349,2,none⟩ (.int .i64 a0_2)).setCell ⟨gb349,3,none⟩ (.int .i64 a0_3)).setCell ⟨gb349,4,none⟩ (.int .i64 a0_4)).setCell ⟨gb349,5,none⟩ (.int .i64 a0_5)).setCell ⟨gb350,0,none⟩ (.int .i64 a0_0)).setCell ⟨gb350,1,none⟩ (.int .i64 a0_1)).setCell ⟨gb350,2,none⟩ (.int .i64 a0_2)).setCell ⟨gb350,3,none⟩ (.int .i64 a0_3)).setCell ⟨gb350,4,none⟩ (.int .i64 a0_4)).setCell ⟨gb350,5,none⟩ (.int .i64 a0_5)).heap[gb339]? = some (.cells #[.int .i64 a0_0,.int .i64 a0_1,.int .i64 a0_2,.int .i64 a0_3,.int .i64 a0_4,.int .i64 a0_5] 25 (0,0))):=⟨by (with_reducible repeat (first|refine bn ?_ _|refine bd ?_|refine ba ?_ _|refine bf ?_ NB339_350.out _|refine bf ?_ NB339_349.out _));exact BK339.out⟩;have n1_ : Aside0 (((((((((((((w111.setCell ⟨gb349,0,none⟩ (.int .i64 a0_0)).setCell ⟨gb349,1,none⟩ (.int .i64 a0_1)).setCell ⟨gb349,2,none⟩ (.int .i64 a0_2)).setCell ⟨gb349,3,none⟩ (.int .i64 a0_3)).setCell ⟨gb349,4,none⟩ (.int .i64 a0_4)).setCell ⟨gb349,5,none⟩ (.int .i64 a0_5)).setCell ⟨gb350,0,none⟩ (.int .i64 a0_0)).setCell ⟨gb350,1,none⟩ (.int .i64 a0_1)).setCell ⟨gb350,2,none⟩ (.int .i64 a0_2)).setCell ⟨gb350,3,none⟩ (.int .i64 a0_3)).setCell ⟨gb350,4,none⟩ (.int .i64 a0_4)).setCell ⟨gb350,5,none⟩ (.int .i64 a0_5)).heap[gb340]? = some (.cells #[.int .i64 (wrap64 (Int.tdiv (wrap64 (a0_0 + a0_2)) 2)),.int .i64 (wrap64 (Int.tdiv (wrap64 (a0_1 + a0_3)) 2))] 23 (0,0))):=⟨by (with_reducible repeat (first|refine bn ?_ _|refine bd ?_|refine ba ?_ _|refine bf ?_ NB340_350.out _|refine bf ?_ NB340_349.out _));exact BK340.out⟩;have n2_ : Aside0 (((((((((((((w111.setCell ⟨gb349,0,none⟩ (.int .i64 a0_0)).setCell ⟨gb349,1,none⟩ (.int .i64 a0_1)).setCell ⟨gb349,2,none⟩ (.int .i64 a0_2)).setCell ⟨gb349,3,none⟩ (.int .i64 a0_3)).setCell ⟨gb349,4,none⟩ (.int .i64 a0_4)).setCell ⟨gb349,5,none⟩ (.int .i64 a0_5)).setCell ⟨gb350,0,none⟩ (.int .i64 a0_0)).setCell ⟨gb350,1,none⟩ (.int .i64 a0_1)).setCell ⟨gb350,2,none⟩ (.int .i64 a0_2)).setCell ⟨gb350,3,none⟩ (.int .i64 a0_3)).setCell ⟨gb350,4,none⟩ (.int .i64 a0_4)).setCell ⟨gb350,5,none⟩ (.int .i64 a0_5)).heap[gb349]? = some (.cells #[.int .i64 a0_0,.int .i64 a0_1,.int .i64 a0_2,.int .i64 a0_3,.int .i64 a0_4,.int .i64 a0_5] 25 (0,0))):=⟨by (with_reducible repeat (first|refine bn ?_ _|refine bd ?_|refine ba ?_ _));refine bf ?_ NB349_350.out _;(with_reducible repeat (first|refine bn ?_ _|refine bd ?_|refine ba ?_ _));refine bf ?_ NB349_350.out _;(with_reducible repeat (first|refine bn ?_ _|refine bd ?_|refine ba ?_ _));refine bf ?_ NB349_350.out _;(with_reducible repeat (first|refine bn ?_ _|refine bd ?_|refine ba ?_ _));refine bf ?_ NB349_350.out _;(with_reducible repeat (first|refine bn ?_ _|refine bd ?_|refine ba ?_ _));refine bf ?_ NB349_350.out _;(with_reducible repeat (first|refine bn ?_ _|refine bd ?_|refine ba ?_ _));refine bf ?_ NB349_350.out _;(with_reducible repeat (first|refine bn ?_ _|refine bd ?_|refine ba ?_ _));refine bp (cs:=#[.int .i64 a0_0,.int .i64 a0_1,.int .i64 a0_2,.int .i64 a0_3,.int .i64 a0_4,.int .i64 0]) ?_ 5 _ rfl;(with_reducible repeat (first|refine bn ?_ _|refine bd ?_|refine ba ?_ _));refine bp (cs:=#[.int .i64 a0_0,.int .i64 a0_1,.int .i64 a0_2,.int .i64 a0_3,.int .i64 0,.int .i64 0]) ?_ 4 _ rfl;(with_reducible repeat (first|refine bn ?_ _|refine bd ?_|refine ba ?_ _));refine bp (cs:=#[.int .i64 a0_0,.int .i64 a0_1,.int .i64 a0_2,.int .i64 0,.int .i64 0,.int .i64 0]) ?_ 3 _ rfl;(with_reducible repeat (first|refine bn ?_ _|refine bd ?_|refine ba ?_ _));refine bp (cs:=#[.int .i64 a0_0,.int .i64 a0_1,.int .i64 0,.int .i64 0,.int .i64 0,.int .i64 0]) ?_ 2 _ rfl;(with_reducible repeat (first|refine bn ?_ _|refine bd ?_|refine ba ?_ _));refine bp (cs:=#[.int .i64 a0_0,.int .i64 0,.int .i64 0,.int .i64 0,.int .i64 0,.int .i64 0]) ?_ 1 _ rfl;(with_reducible repeat (first|refine bn ?_ _|refine bd ?_|refine ba ?_ _));refine bp (cs:=#[.int .i64 0,.int .i64 0,.int .i64 0,.int .i64 0,.int .i64 0,.int .i64 0]) ?_ 0 _ rfl;(with_reducible repeat (first|refine bn ?_ _|refine bd ?_|refine ba ?_ _));exact BK349.out⟩;have n3_ : Aside0 (((((((((((((w111.setCell ⟨gb349,0,none⟩ (.int .i64 a0_0)).setCell ⟨gb349,1,none⟩ (.int .i64 a0_1)).setCell ⟨gb349,2,none⟩ (.int .i64 a0_2)).setCell ⟨gb349,3,none⟩ (.int .i64 a0_3)).setCell ⟨gb349,4,none⟩ (.int .i64 a0_4)).setCell ⟨gb349,5,none⟩ (.int .i64 a0_5)).setCell ⟨gb350,0,none⟩ (.int .i64 a0_0)).setCell ⟨gb350,1,none⟩ (.int .i64 a0_1)).setCell ⟨gb350,2,none⟩ (.int .i64 a0_2)).setCell ⟨gb350,3,none⟩ (.int .i64 a0_3)).setCell ⟨gb350,4,none⟩ (.int .i64 a0_4)).setCell ⟨gb350,5,none⟩ (.int .i64 a0_5)).heap[gb350]? = some (.cells #[.int .i64 a0_0,.int .i64 a0_1,.int .i64 a0_2,.int .i64 a0_3,.int .i64 a0_4,.int .i64 a0_5] 25 (0,0))):=⟨by (with_reducible repeat (first|refine bn ?_ _|refine bd ?_|refine ba ?_ _));refine bp (cs:=#[.int .i64 a0_0,.int .i64 a0_1,.int .i64 a0_2,.int .i64 a0_3,.int .i64 a0_4,.int .i64 0]) ?_ 5 _ rfl;(with_reducible repeat (first|refine bn ?_ _|refine bd ?_|refine ba ?_ _));refine bp (cs:=#[.int .i64 a0_0,.int .i64 a0_1,.int .i64 a0_2,.int .i64 a0_3,.int .i64 0,.int .i64 0]) ?_ 4 _ rfl;(with_reducible repeat (first|refine bn ?_ _|refine bd ?_|refine ba ?_ _));refine bp (cs:=#[.int .i64 a0_0,.int .i64 a0_1,.int .i64 a0_2,.int .i64 0,.int .i64 0,.int .i64 0]) ?_ 3 _ rfl;(with_reducible repeat (first|refine bn ?_ _|refine bd ?_|refine ba ?_ _));refine bp (cs:=#[.int .i64 a0_0,.int .i64 a0_1,.int .i64 0,.int .i64 0,.int .i64 0,.int .i64 0]) ?_ 2 _ rfl;(with_reducible repeat (first|refine bn ?_ _|refine bd ?_|refine ba ?_ _));refine bp (cs:=#[.int .i64 a0_0,.int .i64 0,.int .i64 0,.int .i64 0,.int .i64 0,.int .i64 0]) ?_ 1 _ rfl;(with_reducible repeat (first|refine bn ?_ _|refine bd ?_|refine ba ?_ _));refine bp (cs:=#[.int .i64 0,.int .i64 0,.int .i64 0,.int .i64 0,.int .i64 0,.int .i64 0]) ?_ 0 _ rfl;(with_reducible repeat (first|refine bn ?_ _|refine bd ?_|refine ba ?_ _));refine bf ?_ NB350_349.out _;(with_reducible repeat (first|refine bn ?_ _|refine bd ?_|refine ba ?_ _));refine bf ?_ NB350_349.out _;(with_reducible repeat (first|refine bn ?_ _|refine bd ?_|refine ba ?_ _));refine bf ?_ NB350_349.out _;(with_reducible repeat (first|refine bn ?_ _|refine bd ?_|refine ba ?_ _));refine bf ?_ NB350_349.out _;(with_reducible repeat (first|refine bn ?_ _|refine bd ?_|refine ba ?_ _));refine bf ?_ NB350_349.out _;(with_reducible repeat (first|refine bn ?_ _|refine bd ?_|refine ba ?_ _));refine bf ?_ NB350_349.out _;(with_reducible repeat (first|refine bn ?_ _|refine bd ?_|refine ba ?_ _));exact BK350.out⟩;have n4_ : Aside0 (Below w.heap.size w ((((((((((((w111.setCell ⟨gb349,0,none⟩ (.int .i64 a0_0)).setCell ⟨gb349,1,none⟩ (.int .i64 a0_1)).setCell ⟨gb349,2,none⟩ (.int .i64 a0_2)).setCell ⟨gb349,3,none⟩ (.int .i64 a0_3)).setCell ⟨gb349,4,none⟩ (.int .i64 a0_4)).setCell ⟨gb349,5,none⟩ (.int .i64 a0_5)).setCell ⟨gb350,0,none⟩ (.int .i64 a0_0)).setCell ⟨gb350,1,none⟩ (.int .i64 a0_1)).setCell ⟨gb350,2,none⟩ (.int .i64 a0_2)).setCell ⟨gb350,3,none⟩ (.int .i64 a0_3)).setCell ⟨gb350,4,none⟩ (.int .i64 a0_4)).setCell ⟨gb350,5,none⟩ (.int .i64 a0_5))):=⟨by repeat (first|(with_reducible first|exact HB.out|apply sa|apply sn|apply sd|refine sy ?_ (by assumption))|exact HB.out)⟩;(try clear BK339);(try clear BK340);(try clear BK349);(try clear BK350);(try clear HB);generalize ((((((((((((w111.setCell ⟨gb349,0,none⟩ (.int .i64 a0_0)).setCell ⟨gb349,1,none⟩ (.int .i64 a0_1)).setCell ⟨gb349,2,none⟩ (.int .i64 a0_2)).setCell ⟨gb349,3,none⟩ (.int .i64 a0_3)).setCell ⟨gb349,4,none⟩ (.int .i64 a0_4)).setCell ⟨gb349,5,none⟩ (.int .i64 a0_5)).setCell ⟨gb350,0,none⟩ (.int .i64 a0_0)).setCell ⟨gb350,1,none⟩ (.int .i64 a0_1)).setCell ⟨gb350,2,none⟩ (.int .i64 a0_2)).setCell ⟨gb350,3,none⟩ (.int .i64 a0_3)).setCell ⟨gb350,4,none⟩ (.int .i64 a0_4)).setCell ⟨gb350,5,none⟩ (.int .i64 a0_5)) = w124 at n0_ n1_ n2_ n3_ n4_ ⊢;have BK339:=n0_;have BK340:=n1_;have BK349:=n2_;have BK350:=n3_;have HB:=n4_;clear n0_ n1_ n2_ n3_ n4_;replace BK339:=am (bd BK339.out);replace BK340:=am (bd BK340.out);replace BK349:=am (bd BK349.out);replace BK350:=am (bd BK350.out);replace HB:=am (sd HB.out);refine start_ (n:=6) (S:=fun w' => w'.cell? ⟨gb340,0,none⟩ = some (.int .i64 (wrap64 (Int.tdiv (wrap64 (a0_0 + a0_2)) 2))) ∧ w'.cell? ⟨gb340,1,none⟩ = some (.int .i64 (wrap64 (Int.tdiv (wrap64 (a0_1 + a0_3)) 2)))) (ds:=[]) #[false,false,false,false,false,false] (by kernel_rfl) rfl rfl ⟨(bc BK340.out 0).trans rfl,(bc BK340.out 1).trans rfl⟩ (fun hHeld => ?_);generalize w124.drew = w125 at BK339 BK340 BK349 BK350 HB hHeld ⊢;refine take_ (i:=0) (N:=some 72) (v:=?_) (a':=?_) #[true,false,false,false,false,false] rfl rfl (by kernel_rfl) (fun _ _ _ h => h) (Or.inl ⟨by rfl,?_⟩) hHeld ?_ ?_
            rotate_left
            · rintro w' ⟨s0,s1⟩
              go_simp
              with_reducible rfl
            rotate_left
            · simp only [Act.put,q1,q2,q3,i64_w,i32_w]
              rfl
            refine pure_ (i:=2) (N:=some 74) (v:=?_) (a':=?_) #[true,false,true,false,false,false] rfl rfl (by kernel_rfl) (fun _ _ _ h => h) (Or.inl ⟨by rfl,?_⟩) ?_ ?_
            rotate_left
            · intro w'
              go_simp
              with_reducible rfl
            rotate_left
            · simp only [Act.put,q1,q2,q3,i64_w,i32_w]
              rfl
            refine take_ (i:=1) (N:=some 73) (v:=?_) (a':=?_) #[true,true,true,false,false,false] rfl rfl (by kernel_rfl) (fun _ _ _ h => h) (Or.inl ⟨by rfl,?_⟩) hHeld ?_ ?_
            rotate_left
            · rintro w' ⟨s0,s1⟩
              go_simp
              with_reducible rfl
            rotate_left
            · simp only [Act.put,q1,q2,q3,i64_w,i32_w]
              rfl
            refine one_ (i:=3) (N:=none) #[true,true,true,true,false,false] rfl rfl (by kernel_rfl) (by decide) (fun K hK => ?_);have hs126 : w125.cell? ⟨gb349,2,none⟩ = some (.int .i64 a0_2):=(bc BK349.out 2).trans rfl;have hfs126:=bz BK349.out 2;have hns126_0:=NB339_349.out;have hns126_1:=NB340_349.out;have hns126_3:=NB350_349.out;have hms126_0:=NB349_339.out;have hms126_1:=NB349_340.out;have hms126_3:=NB349_350.out;have hs127 : w125.cell? ⟨gb349,3,none⟩ = some (.int .i64 a0_3):=(bc BK349.out 3).trans rfl;have hfs127:=bz BK349.out 3;have hns127_0:=NB339_349.out;have hns127_1:=NB340_349.out;have hns127_3:=NB350_349.out;have hms127_0:=NB349_339.out;have hms127_1:=NB349_340.out;have hms127_3:=NB349_350.out;refine skip_ (w1:=?_) (by rfl) rfl ?_ ?_
            rotate_left
            · go_simp
              rfl
            refine hK.out _ _ ⟨((cell_far (p:=⟨gb349,_,none⟩) NB340_349.out _).trans (((cell_far (p:=⟨gb349,_,none⟩) NB340_349.out _).trans (hHeld.1)))),((cell_far (p:=⟨gb349,_,none⟩) NB340_349.out _).trans (((cell_far (p:=⟨gb349,_,none⟩) NB340_349.out _).trans (hHeld.2))))⟩ (fun hHeld => ?_);clear hK K;refine pure_ (i:=4) (N:=some 75) (v:=?_) (a':=?_) #[true,true,true,true,true,false] rfl rfl (by kernel_rfl) (fun _ _ _ h => h) (Or.inl ⟨by rfl,?_⟩) ?_ ?_
            rotate_left
            · intro w'
              go_simp
              with_reducible rfl
            rotate_left
            · simp only [Act.put,q1,q2,q3,i64_w,i32_w]
              rfl
            refine one_ (i:=5) (N:=none) #[true,true,true,true,true,true] rfl rfl (by kernel_rfl) (by decide) (fun K hK => ?_);have hs128 : w125.cell? ⟨gb350,0,none⟩ = some (.int .i64 a0_0):=(bc BK350.out 0).trans rfl;have hfs128:=bz BK350.out 0;have hns128_0:=NB339_350.out;have hns128_1:=NB340_350.out;have hns128_2:=NB349_350.out;have hms128_0:=NB350_339.out;have hms128_1:=NB350_340.out;have hms128_2:=NB350_349.out;have hs129 : w125.cell? ⟨gb350,1,none⟩ = some (.int .i64 a0_1):=(bc BK350.out 1).trans rfl;have hfs129:=bz BK350.out 1;have hns129_0:=NB339_350.out;have hns129_1:=NB340_350.out;have hns129_2:=NB349_350.out;have hms129_0:=NB350_339.out;have hms129_1:=NB350_340.out;have hms129_2:=NB350_349.out;refine skip_ (w1:=?_) (by rfl) rfl ?_ ?_
            rotate_left
            · go_simp
              rfl
            refine hK.out _ _ ⟨((cell_far (p:=⟨gb350,_,none⟩) NB340_350.out _).trans (((cell_far (p:=⟨gb350,_,none⟩) NB340_350.out _).trans (hHeld.1)))),((cell_far (p:=⟨gb350,_,none⟩) NB340_350.out _).trans (((cell_far (p:=⟨gb350,_,none⟩) NB340_350.out _).trans (hHeld.2))))⟩ (fun hHeld => ?_);clear hK K;refine done_ (by kernel_rfl) ?_
            try go_wp2
            have n0_ : Aside0 (((((w125.setCell ⟨gb349,2,none⟩ (.int .i64 (wrap64 (Int.tdiv (wrap64 (a0_0 + a0_2)) 2)))).setCell ⟨gb349,3,none⟩ (.int .i64 (wrap64 (Int.tdiv (wrap64 (a0_1 + a0_3)) 2)))).setCell ⟨gb350,0,none⟩ (.int .i64 (wrap64 (Int.tdiv (wrap64 (a0_0 + a0_2)) 2)))).setCell ⟨gb350,1,none⟩ (.int .i64 (wrap64 (Int.tdiv (wrap64 (a0_1 + a0_3)) 2)))).heap[gb339]? = some (.cells #[.int .i64 a0_0,.int .i64 a0_1,.int .i64 a0_2,.int .i64 a0_3,.int .i64 a0_4,.int .i64 a0_5] 25 (0,0))):=⟨by (with_reducible repeat (first|refine bn ?_ _|refine bd ?_|refine ba ?_ _|refine bf ?_ NB339_350.out _|refine bf ?_ NB339_349.out _));exact BK339.out⟩;have n1_ : Aside0 (((((w125.setCell ⟨gb349,2,none⟩ (.int .i64 (wrap64 (Int.tdiv (wrap64 (a0_0 + a0_2)) 2)))).setCell ⟨gb349,3,none⟩ (.int .i64 (wrap64 (Int.tdiv (wrap64 (a0_1 + a0_3)) 2)))).setCell ⟨gb350,0,none⟩ (.int .i64 (wrap64 (Int.tdiv (wrap64 (a0_0 + a0_2)) 2)))).setCell ⟨gb350,1,none⟩ (.int .i64 (wrap64 (Int.tdiv (wrap64 (a0_1 + a0_3)) 2)))).heap[gb340]? = some (.cells #[.int .i64 (wrap64 (Int.tdiv (wrap64 (a0_0 + a0_2)) 2)),.int .i64 (wrap64 (Int.tdiv (wrap64 (a0_1 + a0_3)) 2))] 23 (0,0))):=⟨by (with_reducible repeat (first|refine bn ?_ _|refine bd ?_|refine ba ?_ _|refine bf ?_ NB340_350.out _|refine bf ?_ NB340_349.out _));exact BK340.out⟩;have n2_ : Aside0 (((((w125.setCell ⟨gb349,2,none⟩ (.int .i64 (wrap64 (Int.tdiv (wrap64 (a0_0 + a0_2)) 2)))).setCell ⟨gb349,3,none⟩ (.int .i64 (wrap64 (Int.tdiv (wrap64 (a0_1 + a0_3)) 2)))).setCell ⟨gb350,0,none⟩ (.int .i64 (wrap64 (Int.tdiv (wrap64 (a0_0 + a0_2)) 2)))).setCell ⟨gb350,1,none⟩ (.int .i64 (wrap64 (Int.tdiv (wrap64 (a0_1 + a0_3)) 2)))).heap[gb349]? = some (.cells #[.int .i64 a0_0,.int .i64 a0_1,.int .i64 (wrap64 (Int.tdiv (wrap64 (a0_0 + a0_2)) 2)),.int .i64 (wrap64 (Int.tdiv (wrap64 (a0_1 + a0_3)) 2)),.int .i64 a0_4,.int .i64 a0_5] 25 (0,0))):=⟨by (with_reducible repeat (first|refine bn ?_ _|refine bd ?_|refine ba ?_ _));refine bf ?_ NB349_350.out _;(with_reducible repeat (first|refine bn ?_ _|refine bd ?_|refine ba ?_ _));refine bf ?_ NB349_350.out _;(with_reducible repeat (first|refine bn ?_ _|refine bd ?_|refine ba ?_ _));refine bp (cs:=#[.int .i64 a0_0,.int .i64 a0_1,.int .i64 (wrap64 (Int.tdiv (wrap64 (a0_0 + a0_2)) 2)),.int .i64 a0_3,.int .i64 a0_4,.int .i64 a0_5]) ?_ 3 _ rfl;(with_reducible repeat (first|refine bn ?_ _|refine bd ?_|refine ba ?_ _));refine bp (cs:=#[.int .i64 a0_0,.int .i64 a0_1,.int .i64 a0_2,.int .i64 a0_3,.int .i64 a0_4,.int .i64 a0_5]) ?_ 2 _ rfl;(with_reducible repeat (first|refine bn ?_ _|refine bd ?_|refine ba ?_ _));exact BK349.out⟩;have n3_ : Aside0 (((((w125.setCell ⟨gb349,2,none⟩ (.int .i64 (wrap64 (Int.tdiv (wrap64 (a0_0 + a0_2)) 2)))).setCell ⟨gb349,3,none⟩ (.int .i64 (wrap64 (Int.tdiv (wrap64 (a0_1 + a0_3)) 2)))).setCell ⟨gb350,0,none⟩ (.int .i64 (wrap64 (Int.tdiv (wrap64 (a0_0 + a0_2)) 2)))).setCell ⟨gb350,1,none⟩ (.int .i64 (wrap64 (Int.tdiv (wrap64 (a0_1 + a0_3)) 2)))).heap[gb350]? = some (.cells #[.int .i64 (wrap64 (Int.tdiv (wrap64 (a0_0 + a0_2)) 2)),.int .i64 (wrap64 (Int.tdiv (wrap64 (a0_1 + a0_3)) 2)),.int .i64 a0_2,.int .i64 a0_3,.int .i64 a0_4,.int .i64 a0_5] 25 (0,0))):=⟨by (with_reducible repeat (first|refine bn ?_ _|refine bd ?_|refine ba ?_ _));refine bp (cs:=#[.int .i64 (wrap64 (Int.tdiv (wrap64 (a0_0 + a0_2)) 2)),.int .i64 a0_1,.int .i64 a0_2,.int .i64 a0_3,.int .i64 a0_4,.int .i64 a0_5]) ?_ 1 _ rfl;(with_reducible repeat (first|refine bn ?_ _|refine bd ?_|refine ba ?_ _));refine bp (cs:=#[.int .i64 a0_0,.int .i64 a0_1,.int .i64 a0_2,.int .i64 a0_3,.int .i64 a0_4,.int .i64 a0_5]) ?_ 0 _ rfl;(with_reducible repeat (first|refine bn ?_ _|refine bd ?_|refine ba ?_ _));refine bf ?_ NB350_349.out _;(with_reducible repeat (first|refine bn ?_ _|refine bd ?_|refine ba ?_ _));refine bf ?_ NB350_349.out _;(with_reducible repeat (first|refine bn ?_ _|refine bd ?_|refine ba ?_ _));exact BK350.out⟩;have n4_ : Aside0 (Below w.heap.size w ((((w125.setCell ⟨gb349,2,none⟩ (.int .i64 (wrap64 (Int.tdiv (wrap64 (a0_0 + a0_2)) 2)))).setCell ⟨gb349,3,none⟩ (.int .i64 (wrap64 (Int.tdiv (wrap64 (a0_1 + a0_3)) 2)))).setCell ⟨gb350,0,none⟩ (.int .i64 (wrap64 (Int.tdiv (wrap64 (a0_0 + a0_2)) 2)))).setCell ⟨gb350,1,none⟩ (.int .i64 (wrap64 (Int.tdiv (wrap64 (a0_1 + a0_3)) 2))))):=⟨by repeat (first|(with_reducible first|exact HB.out|apply sa|apply sn|apply sd|refine sy ?_ (by assumption))|exact HB.out)⟩;(try clear BK339);(try clear BK340);(try clear BK349);(try clear BK350);(try clear HB);generalize ((((w125.setCell ⟨gb349,2,none⟩ (.int .i64 (wrap64 (Int.tdiv (wrap64 (a0_0 + a0_2)) 2)))).setCell ⟨gb349,3,none⟩ (.int .i64 (wrap64 (Int.tdiv (wrap64 (a0_1 + a0_3)) 2)))).setCell ⟨gb350,0,none⟩ (.int .i64 (wrap64 (Int.tdiv (wrap64 (a0_0 + a0_2)) 2)))).setCell ⟨gb350,1,none⟩ (.int .i64 (wrap64 (Int.tdiv (wrap64 (a0_1 + a0_3)) 2)))) = w130 at n0_ n1_ n2_ n3_ n4_ ⊢;have BK339:=n0_;have BK340:=n1_;have BK349:=n2_;have BK350:=n3_;have HB:=n4_;clear n0_ n1_ n2_ n3_ n4_;replace BK339:=am (bd BK339.out);replace BK340:=am (bd BK340.out);replace BK349:=am (bd BK349.out);replace BK350:=am (bd BK350.out);replace HB:=am (sd HB.out);refine start_ (n:=19) (S:=fun w' => w'.cell? ⟨gb339,0,none⟩ = some (.int .i64 a0_0) ∧ w'.cell? ⟨gb339,1,none⟩ = some (.int .i64 a0_1) ∧ w'.cell? ⟨gb339,2,none⟩ = some (.int .i64 a0_2) ∧ w'.cell? ⟨gb339,3,none⟩ = some (.int .i64 a0_3) ∧ w'.cell? ⟨gb339,4,none⟩ = some (.int .i64 a0_4) ∧ w'.cell? ⟨gb339,5,none⟩ = some (.int .i64 a0_5) ∧ w'.cell? ⟨gb349,0,none⟩ = some (.int .i64 a0_0) ∧ w'.cell? ⟨gb349,1,none⟩ = some (.int .i64 a0_1) ∧ w'.cell? ⟨gb349,2,none⟩ = some (.int .i64 (wrap64 (Int.tdiv (wrap64 (a0_0 + a0_2)) 2))) ∧ w'.cell? ⟨gb349,3,none⟩ = some (.int .i64 (wrap64 (Int.tdiv (wrap64 (a0_1 + a0_3)) 2))) ∧ w'.cell? ⟨gb349,4,none⟩ = some (.int .i64 a0_4) ∧ w'.cell? ⟨gb349,5,none⟩ = some (.int .i64 a0_5) ∧ w'.cell? ⟨gb350,0,none⟩ = some (.int .i64 (wrap64 (Int.tdiv (wrap64 (a0_0 + a0_2)) 2))) ∧ w'.cell? ⟨gb350,1,none⟩ = some (.int .i64 (wrap64 (Int.tdiv (wrap64 (a0_1 + a0_3)) 2))) ∧ w'.cell? ⟨gb350,2,none⟩ = some (.int .i64 a0_2) ∧ w'.cell? ⟨gb350,3,none⟩ = some (.int .i64 a0_3) ∧ w'.cell? ⟨gb350,4,none⟩ = some (.int .i64 a0_4) ∧ w'.cell? ⟨gb350,5,none⟩ = some (.int .i64 a0_5)) (ds:=[]) #[false,false,false,false,false,false,false,false,false,false,false,false,false,false,false,false,false,false,false] (by kernel_rfl) rfl rfl ⟨(bc BK339.out 0).trans rfl,(bc BK339.out 1).trans rfl,(bc BK339.out 2).trans rfl,(bc BK339.out 3).trans rfl,(bc BK339.out 4).trans rfl,(bc BK339.out 5).trans rfl,(bc BK349.out 0).trans rfl,(bc BK349.out 1).trans rfl,(bc BK349.out 2).trans rfl,(bc BK349.out 3).trans rfl,(bc BK349.out 4).trans rfl,(bc BK349.out 5).trans rfl,(bc BK350.out 0).trans rfl,(bc BK350.out 1).trans rfl,(bc BK350.out 2).trans rfl,(bc BK350.out 3).trans rfl,(bc BK350.out 4).trans rfl,(bc BK350.out 5).trans rfl⟩ (fun hHeld => ?_);refine with_tabW celluloidlaw18_StrokeParts.tab6 celluloidlaw18_StrokeParts.bits6 (fun HT_ HW_ => ?_);generalize w130.drew = w131 at BK339 BK340 BK349 BK350 HB hHeld ⊢;refine pure_ (i:=1) (N:=some 77) (v:=?_) (a':=?_) #[false,true,false,false,false,false,false,false,false,false,false,false,false,false,false,false,false,false,false] rfl rfl (any_of HT_.out (by kernel_rfl)) (fun _ _ _ h => h) (Or.inl ⟨by rfl,?_⟩) ?_ ?_
            rotate_left
            · intro w'
              go_simp
              with_reducible rfl
            rotate_left
            · simp only [Act.put,q1,q2,q3,i64_w,i32_w]
              rfl
            refine pure_ (i:=2) (N:=some 78) (v:=?_) (a':=?_) #[false,true,true,false,false,false,false,false,false,false,false,false,false,false,false,false,false,false,false] rfl rfl (any_of HT_.out (by kernel_rfl)) (fun _ _ _ h => h) (Or.inl ⟨by rfl,?_⟩) ?_ ?_
            rotate_left
            · intro w'
              go_simp
              with_reducible rfl
            rotate_left
            · simp only [Act.put,q1,q2,q3,i64_w,i32_w]
              rfl
            refine pure_ (i:=5) (N:=some 81) (v:=?_) (a':=?_) #[false,true,true,false,false,true,false,false,false,false,false,false,false,false,false,false,false,false,false] rfl rfl (any_of HT_.out (by kernel_rfl)) (fun _ _ _ h => h) (Or.inl ⟨by rfl,?_⟩) ?_ ?_
            rotate_left
            · intro w'
              go_simp
              with_reducible rfl
            rotate_left
            · simp only [Act.put,q1,q2,q3,i64_w,i32_w]
              rfl
            refine pure_ (i:=6) (N:=some 82) (v:=?_) (a':=?_) #[false,true,true,false,false,true,true,false,false,false,false,false,false,false,false,false,false,false,false] rfl rfl (any_of HT_.out (by kernel_rfl)) (fun _ _ _ h => h) (Or.inl ⟨by rfl,?_⟩) ?_ ?_
            rotate_left
            · intro w'
              go_simp
              with_reducible rfl
            rotate_left
            · simp only [Act.put,q1,q2,q3,i64_w,i32_w]
              rfl
            refine take_ (i:=0) (N:=some 76) (v:=?_) (a':=?_) #[true,true,true,false,false,true,true,false,false,false,false,false,false,false,false,false,false,false,false] rfl rfl (take_ofW HT_.out HW_.out (by kernel_rfl)) (fun _ _ _ h => h) (Or.inl ⟨by rfl,?_⟩) hHeld ?_ ?_
            rotate_left
            · rintro w' ⟨s0,s1,s2,s3,s4,s5,s6,s7,s8,s9,s10,s11,s12,s13,s14,s15,s16,s17⟩
              go_simp
              with_reducible rfl
            rotate_left
            · simp only [Act.put,q1,q2,q3,i64_w,i32_w]
              rfl
            refine take_ (i:=4) (N:=some 80) (v:=?_) (a':=?_) #[true,true,true,false,true,true,true,false,false,false,false,false,false,false,false,false,false,false,false] rfl rfl (take_ofW HT_.out HW_.out (by kernel_rfl)) (fun _ _ _ h => h) (Or.inl ⟨by rfl,?_⟩) hHeld ?_ ?_
            rotate_left
            · rintro w' ⟨s0,s1,s2,s3,s4,s5,s6,s7,s8,s9,s10,s11,s12,s13,s14,s15,s16,s17⟩
              go_simp
              with_reducible rfl
            rotate_left
            · simp only [Act.put,q1,q2,q3,i64_w,i32_w]
              rfl
            refine one_ (i:=3) (N:=some 79) #[true,true,true,true,true,true,true,false,false,false,false,false,false,false,false,false,false,false,false] rfl rfl (one_of HT_.out (by kernel_rfl)) (by decide) (fun K hK => ?_);refine goes_ Try.func15 (by kernel_rfl) rfl #[.agg #[.int .i64 a0_0,.int .i64 a0_1,.int .i64 a0_2,.int .i64 a0_3,.int .i64 a0_4,.int .i64 a0_5],.int .i64 a1,.int .i64 a2] (by rfl) rfl rfl (by (try simp only [List.map_toArray,List.map_cons,List.map_nil]);first|done|rfl|(simp only [List.length_drop,List.length_take];rfl)) ?_
            with_reducible refine (stroke_Near.calls a0_0 a0_1 a0_2 a0_3 a0_4 a0_5 a1 a2 t351 _ A47.out).mono ?_
            rintro e w132 ⟨rfl,hb⟩
            refine ⟨_,rfl,?_⟩;replace BK339:=am (bw (by exact BK339.out) hb);replace BK340:=am (bw (by exact BK340.out) hb);replace BK349:=am (bw (by exact BK349.out) hb);replace BK350:=am (bw (by exact BK350.out) hb);replace HB:=am (ss (by repeat (first|(with_reducible first|exact HB.out|apply sa|apply sn|apply sd|refine sy ?_ (by assumption))|exact HB.out)) hb);(try clear hb);(try clear hb2);(try clear hk);(try clear hi);refine hK.out _ _ ⟨(bc BK339.out 0).trans rfl,(bc BK339.out 1).trans rfl,(bc BK339.out 2).trans rfl,(bc BK339.out 3).trans rfl,(bc BK339.out 4).trans rfl,(bc BK339.out 5).trans rfl,(bc BK349.out 0).trans rfl,(bc BK349.out 1).trans rfl,(bc BK349.out 2).trans rfl,(bc BK349.out 3).trans rfl,(bc BK349.out 4).trans rfl,(bc BK349.out 5).trans rfl,(bc BK350.out 0).trans rfl,(bc BK350.out 1).trans rfl,(bc BK350.out 2).trans rfl,(bc BK350.out 3).trans rfl,(bc BK350.out 4).trans rfl,(bc BK350.out 5).trans rfl⟩ (fun hHeld => ?_);clear hK K;refine norm_ (a':=?_) ?_ ?_
            rotate_left
            · show Act.put _ (some 79) _ = _
              simp only [Act.put,q1,q2,q3,i64_w,i32_w]
              rfl
            refine one_ (i:=7) (N:=some 83) #[true,true,true,true,true,true,true,true,false,false,false,false,false,false,false,false,false,false,false] rfl rfl (one_of HT_.out (by kernel_rfl)) (by decide) (fun K hK => ?_);refine goes_ Try.func15 (by kernel_rfl) rfl #[.agg #[.int .i64 a0_0,.int .i64 a0_1,.int .i64 (wrap64 (Int.tdiv (wrap64 (a0_0 + a0_2)) 2)),.int .i64 (wrap64 (Int.tdiv (wrap64 (a0_1 + a0_3)) 2)),.int .i64 a0_4,.int .i64 a0_5],.int .i64 a1,.int .i64 a2] (by rfl) rfl rfl (by (try simp only [List.map_toArray,List.map_cons,List.map_nil]);first|done|rfl|(simp only [List.length_drop,List.length_take];rfl)) ?_
            with_reducible refine (stroke_Near.calls a0_0 a0_1 (wrap64 (Int.tdiv (wrap64 (a0_0 + a0_2)) 2)) (wrap64 (Int.tdiv (wrap64 (a0_1 + a0_3)) 2)) a0_4 a0_5 a1 a2 false _ A48.out).mono ?_
            rintro e w133 ⟨rfl,hb⟩
            refine ⟨_,rfl,?_⟩;replace BK339:=am (bw (by exact BK339.out) hb);replace BK340:=am (bw (by exact BK340.out) hb);replace BK349:=am (bw (by exact BK349.out) hb);replace BK350:=am (bw (by exact BK350.out) hb);replace HB:=am (ss (by repeat (first|(with_reducible first|exact HB.out|apply sa|apply sn|apply sd|refine sy ?_ (by assumption))|exact HB.out)) hb);(try clear hb);(try clear hb2);(try clear hk);(try clear hi);refine hK.out _ _ ⟨(bc BK339.out 0).trans rfl,(bc BK339.out 1).trans rfl,(bc BK339.out 2).trans rfl,(bc BK339.out 3).trans rfl,(bc BK339.out 4).trans rfl,(bc BK339.out 5).trans rfl,(bc BK349.out 0).trans rfl,(bc BK349.out 1).trans rfl,(bc BK349.out 2).trans rfl,(bc BK349.out 3).trans rfl,(bc BK349.out 4).trans rfl,(bc BK349.out 5).trans rfl,(bc BK350.out 0).trans rfl,(bc BK350.out 1).trans rfl,(bc BK350.out 2).trans rfl,(bc BK350.out 3).trans rfl,(bc BK350.out 4).trans rfl,(bc BK350.out 5).trans rfl⟩ (fun hHeld => ?_);clear hK K;refine norm_ (a':=?_) ?_ ?_
            rotate_left
            · show Act.put _ (some 83) _ = _
              simp only [Act.put,q1,q2,q3,i64_w,i32_w]
              rfl
            refine pure_ (i:=8) (N:=some 84) (v:=?_) (a':=?_) #[true,true,true,true,true,true,true,true,true,false,false,false,false,false,false,false,false,false,false] rfl rfl (any_of HT_.out (by kernel_rfl)) (fun _ _ _ h => h) (Or.inl ⟨by rfl,?_⟩) ?_ ?_
            rotate_left
            · intro w'
              go_simp
              with_reducible rfl
            rotate_left
            · simp only [Act.put,q1,q2,q3,i64_w,i32_w]
              rfl
            refine pure_ (i:=10) (N:=some 86) (v:=?_) (a':=?_) #[true,true,true,true,true,true,true,true,true,false,true,false,false,false,false,false,false,false,false] rfl rfl (any_of HT_.out (by kernel_rfl)) (fun _ _ _ h => h) (Or.inl ⟨by rfl,?_⟩) ?_ ?_
            rotate_left
            · intro w'
              go_simp
              with_reducible rfl
            rotate_left
            · simp only [Act.put,q1,q2,q3,i64_w,i32_w]
              rfl
            refine pure_ (i:=11) (N:=some 87) (v:=?_) (a':=?_) #[true,true,true,true,true,true,true,true,true,false,true,true,false,false,false,false,false,false,false] rfl rfl (any_of HT_.out (by kernel_rfl)) (fun _ _ _ h => h) (Or.inl ⟨by rfl,?_⟩) ?_ ?_
            rotate_left
            · intro w'
              go_simp
              with_reducible rfl
            rotate_left
            · simp only [Act.put,q1,q2,q3,i64_w,i32_w]
              rfl
            refine take_ (i:=9) (N:=some 85) (v:=?_) (a':=?_) #[true,true,true,true,true,true,true,true,true,true,true,true,false,false,false,false,false,false,false] rfl rfl (take_ofW HT_.out HW_.out (by kernel_rfl)) (fun _ _ _ h => h) (Or.inl ⟨by rfl,?_⟩) hHeld ?_ ?_
            rotate_left
            · rintro w' ⟨s0,s1,s2,s3,s4,s5,s6,s7,s8,s9,s10,s11,s12,s13,s14,s15,s16,s17⟩
              go_simp
              with_reducible rfl
            rotate_left
            · simp only [Act.put,q1,q2,q3,i64_w,i32_w]
              rfl
            refine one_ (i:=12) (N:=some 88) #[true,true,true,true,true,true,true,true,true,true,true,true,true,false,false,false,false,false,false] rfl rfl (one_of HT_.out (by kernel_rfl)) (by decide) (fun K hK => ?_);refine goes_ Try.func15 (by kernel_rfl) rfl #[.agg #[.int .i64 (wrap64 (Int.tdiv (wrap64 (a0_0 + a0_2)) 2)),.int .i64 (wrap64 (Int.tdiv (wrap64 (a0_1 + a0_3)) 2)),.int .i64 a0_2,.int .i64 a0_3,.int .i64 a0_4,.int .i64 a0_5],.int .i64 a1,.int .i64 a2] (by rfl) rfl rfl (by (try simp only [List.map_toArray,List.map_cons,List.map_nil]);first|done|rfl|(simp only [List.length_drop,List.length_take];rfl)) ?_
            with_reducible refine (stroke_Near.calls (wrap64 (Int.tdiv (wrap64 (a0_0 + a0_2)) 2)) (wrap64 (Int.tdiv (wrap64 (a0_1 + a0_3)) 2)) a0_2 a0_3 a0_4 a0_5 a1 a2 t354 _ A105.out).mono ?_
            rintro e w134 ⟨rfl,hb⟩
            refine ⟨_,rfl,?_⟩;replace BK339:=am (bw (by exact BK339.out) hb);replace BK340:=am (bw (by exact BK340.out) hb);replace BK349:=am (bw (by exact BK349.out) hb);replace BK350:=am (bw (by exact BK350.out) hb);replace HB:=am (ss (by repeat (first|(with_reducible first|exact HB.out|apply sa|apply sn|apply sd|refine sy ?_ (by assumption))|exact HB.out)) hb);(try clear hb);(try clear hb2);(try clear hk);(try clear hi);refine hK.out _ _ ⟨(bc BK339.out 0).trans rfl,(bc BK339.out 1).trans rfl,(bc BK339.out 2).trans rfl,(bc BK339.out 3).trans rfl,(bc BK339.out 4).trans rfl,(bc BK339.out 5).trans rfl,(bc BK349.out 0).trans rfl,(bc BK349.out 1).trans rfl,(bc BK349.out 2).trans rfl,(bc BK349.out 3).trans rfl,(bc BK349.out 4).trans rfl,(bc BK349.out 5).trans rfl,(bc BK350.out 0).trans rfl,(bc BK350.out 1).trans rfl,(bc BK350.out 2).trans rfl,(bc BK350.out 3).trans rfl,(bc BK350.out 4).trans rfl,(bc BK350.out 5).trans rfl⟩ (fun hHeld => ?_);clear hK K;refine norm_ (a':=?_) ?_ ?_
            rotate_left
            · show Act.put _ (some 88) _ = _
              simp only [Act.put,q1,q2,q3,i64_w,i32_w]
              rfl
            refine pure_ (i:=13) (N:=some 89) (v:=?_) (a':=?_) #[true,true,true,true,true,true,true,true,true,true,true,true,true,true,false,false,false,false,false] rfl rfl (any_of HT_.out (by kernel_rfl)) (fun _ _ _ h => h) (Or.inl ⟨by rfl,?_⟩) ?_ ?_
            rotate_left
            · intro w'
              go_simp
              with_reducible rfl
            rotate_left
            · simp only [Act.put,q1,q2,q3,i64_w,i32_w]
              rfl
            refine pure_ (i:=14) (N:=some 90) (v:=?_) (a':=?_) #[true,true,true,true,true,true,true,true,true,true,true,true,true,true,true,false,false,false,false] rfl rfl (any_of HT_.out (by kernel_rfl)) (fun _ _ _ h => h) (Or.inl ⟨by rfl,?_⟩) ?_ ?_
            rotate_left
            · intro w'
              go_simp
              with_reducible rfl
            rotate_left
            · simp only [Act.put,q1,q2,q3,i64_w,i32_w]
              rfl
            refine pure_ (i:=15) (N:=some 91) (v:=?_) (a':=?_) #[true,true,true,true,true,true,true,true,true,true,true,true,true,true,true,true,false,false,false] rfl rfl (any_of HT_.out (by kernel_rfl)) (fun _ _ _ h => h) (Or.inl ⟨by rfl,?_⟩) ?_ ?_
            rotate_left
            · intro w'
              go_simp
              with_reducible rfl
            rotate_left
            · simp only [Act.put,q1,q2,q3,i64_w,i32_w]
              rfl
            refine one_ (i:=16) (N:=some 92) #[true,true,true,true,true,true,true,true,true,true,true,true,true,true,true,true,true,false,false] rfl rfl (one_of HT_.out (by kernel_rfl)) (by decide) (fun K hK => ?_);refine goes_ Try.func16 (by kernel_rfl) rfl #[] (by rfl) rfl rfl (by (try simp only [List.map_toArray,List.map_cons,List.map_nil]);first|done|rfl|(simp only [List.length_drop,List.length_take];rfl)) ?_
            with_reducible refine (celluloidlaw18_awake.calls kj3  t355 _ A107.out).mono ?_
            rintro e w135 ⟨rfl,hb⟩
            refine ⟨_,rfl,?_⟩;replace BK339:=am (bw (by exact BK339.out) hb);replace BK340:=am (bw (by exact BK340.out) hb);replace BK349:=am (bw (by exact BK349.out) hb);replace BK350:=am (bw (by exact BK350.out) hb);replace HB:=am (ss (by repeat (first|(with_reducible first|exact HB.out|apply sa|apply sn|apply sd|refine sy ?_ (by assumption))|exact HB.out)) hb);(try clear hb);(try clear hb2);(try clear hk);(try clear hi);refine hK.out _ _ ⟨(bc BK339.out 0).trans rfl,(bc BK339.out 1).trans rfl,(bc BK339.out 2).trans rfl,(bc BK339.out 3).trans rfl,(bc BK339.out 4).trans rfl,(bc BK339.out 5).trans rfl,(bc BK349.out 0).trans rfl,(bc BK349.out 1).trans rfl,(bc BK349.out 2).trans rfl,(bc BK349.out 3).trans rfl,(bc BK349.out 4).trans rfl,(bc BK349.out 5).trans rfl,(bc BK350.out 0).trans rfl,(bc BK350.out 1).trans rfl,(bc BK350.out 2).trans rfl,(bc BK350.out 3).trans rfl,(bc BK350.out 4).trans rfl,(bc BK350.out 5).trans rfl⟩ (fun hHeld => ?_);clear hK K;refine norm_ (a':=?_) ?_ ?_
            rotate_left
            · show Act.put _ (some 92) _ = _
              simp only [Act.put,q1,q2,q3,i64_w,i32_w]
              rfl
            refine pure_ (i:=17) (N:=some 93) (v:=?_) (a':=?_) #[true,true,true,true,true,true,true,true,true,true,true,true,true,true,true,true,true,true,false] rfl rfl (any_of HT_.out (by kernel_rfl)) (fun _ _ _ h => h) (Or.inl ⟨by rfl,?_⟩) ?_ ?_
            rotate_left
            · intro w'
              go_simp
              with_reducible rfl
            rotate_left
            · simp only [Act.put,q1,q2,q3,i64_w,i32_w]
              rfl
            refine pure_ (i:=18) (N:=some 6) (v:=?_) (a':=?_) #[true,true,true,true,true,true,true,true,true,true,true,true,true,true,true,true,true,true,true] rfl rfl (any_of HT_.out (by kernel_rfl)) (fun _ _ _ h => h) (Or.inl ⟨by rfl,?_⟩) ?_ ?_
            rotate_left
            · intro w'
              go_simp
              with_reducible rfl
            rotate_left
            · simp only [Act.put,q1,q2,q3,i64_w,i32_w]
              rfl
            refine done_ (done_of HT_.out (by kernel_rfl)) ?_
            try go_wp2
            go_ret
            exact ⟨by first|rfl|(simp [errW_none,errW_some] <;> rfl)|(simp [*,errW_none,errW_some] <;> rfl),by repeat (first|(with_reducible first|exact HB.out|apply sa|apply sn|apply sd|refine sy ?_ (by assumption))|exact HB.out)⟩
          · rw [if_neg c106] at H
            have c106b0 : (t351 == t354) = false:=by simpa using c106
            (try (have c106b1 : decide (t351 = t354) = false:=by simpa using c106))
            (try (have c106b2 : (t351 == t354) = false:=by simpa using c106))
            (try (have c106b3 : ¬ (t351 = t354):=by simpa using c106))
            clear c106;obtain rfl:=Option.some.inj H
            try go_wp2
            replace BK339:=am (bd BK339.out);replace BK340:=am (bd BK340.out);replace HB:=am (sd HB.out);refine start_ (n:=6) (S:=fun w' => w'.cell? ⟨gb339,0,none⟩ = some (.int .i64 a0_0) ∧ w'.cell? ⟨gb339,1,none⟩ = some (.int .i64 a0_1) ∧ w'.cell? ⟨gb339,2,none⟩ = some (.int .i64 a0_2) ∧ w'.cell? ⟨gb339,3,none⟩ = some (.int .i64 a0_3) ∧ w'.cell? ⟨gb339,4,none⟩ = some (.int .i64 a0_4) ∧ w'.cell? ⟨gb339,5,none⟩ = some (.int .i64 a0_5)) (ds:=[]) #[false,false,false,false,false,false] (by kernel_rfl) rfl rfl ⟨(bc BK339.out 0).trans rfl,(bc BK339.out 1).trans rfl,(bc BK339.out 2).trans rfl,(bc BK339.out 3).trans rfl,(bc BK339.out 4).trans rfl,(bc BK339.out 5).trans rfl⟩ (fun hHeld => ?_);generalize wc.drew = w136 at BK339 BK340 HB hHeld ⊢;refine take_ (i:=0) (N:=some 70) (v:=?_) (a':=?_) #[true,false,false,false,false,false] rfl rfl (by kernel_rfl) (fun _ _ _ h => h) (Or.inl ⟨by rfl,?_⟩) hHeld ?_ ?_
            rotate_left
            · rintro w' ⟨s0,s1,s2,s3,s4,s5⟩
              go_simp
              with_reducible rfl
            rotate_left
            · simp only [Act.put,q1,q2,q3,i64_w,i32_w]
              rfl
            refine take_ (i:=1) (N:=some 71) (v:=?_) (a':=?_) #[true,true,false,false,false,false] rfl rfl (by kernel_rfl) (fun _ _ _ h => h) (Or.inl ⟨by rfl,?_⟩) hHeld ?_ ?_
            rotate_left
            · rintro w' ⟨s0,s1,s2,s3,s4,s5⟩
              go_simp
              with_reducible rfl
            rotate_left
            · simp only [Act.put,q1,q2,q3,i64_w,i32_w]
              rfl
            refine join_ (σ:=Nat × Nat) 2 #[true,true,true,true,false,false] (fun s_ => [(8,.pointer (some ⟨s_.1,0,none⟩)),(9,.pointer (some ⟨s_.2,0,none⟩))]) (fun s_ w' => (w'.cell? ⟨gb339,0,none⟩ = some (.int .i64 a0_0) ∧ w'.cell? ⟨gb339,1,none⟩ = some (.int .i64 a0_1) ∧ w'.cell? ⟨gb339,2,none⟩ = some (.int .i64 a0_2) ∧ w'.cell? ⟨gb339,3,none⟩ = some (.int .i64 a0_3) ∧ w'.cell? ⟨gb339,4,none⟩ = some (.int .i64 a0_4) ∧ w'.cell? ⟨gb339,5,none⟩ = some (.int .i64 a0_5)) ∧ (w'.heap[gb339]? = some (.cells #[.int .i64 a0_0,.int .i64 a0_1,.int .i64 a0_2,.int .i64 a0_3,.int .i64 a0_4,.int .i64 a0_5] 25 (0,0))) ∧ (w'.heap[gb340]? = some (.cells #[.int .i64 (wrap64 (Int.tdiv (wrap64 (a0_0 + a0_2)) 2)),.int .i64 (wrap64 (Int.tdiv (wrap64 (a0_1 + a0_3)) 2))] 23 (0,0))) ∧ (w'.heap[s_.1]? = some (.cells #[.int .i64 0,.int .i64 0,.int .i64 0,.int .i64 0,.int .i64 0,.int .i64 0] 25 (0,0))) ∧ (w'.heap[s_.2]? = some (.cells #[.int .i64 0,.int .i64 0,.int .i64 0,.int .i64 0,.int .i64 0,.int .i64 0] 25 (0,0))) ∧ (w.heap.size ≤ s_.1) ∧ (w.heap.size ≤ s_.1) ∧ (gb339 ≠ s_.1) ∧ (s_.1 ≠ gb339) ∧ (gb340 ≠ s_.1) ∧ (s_.1 ≠ gb340) ∧ (s_.2 ≠ s_.1) ∧ (s_.1 ≠ s_.2) ∧ (w.heap.size ≤ s_.2) ∧ (w.heap.size ≤ s_.2) ∧ (gb339 ≠ s_.2) ∧ (s_.2 ≠ gb339) ∧ (gb340 ≠ s_.2) ∧ (s_.2 ≠ gb340) ∧ (Below w.heap.size w w')) ?_ ?_
            rotate_left
            · intro hCont
              refine two_ (i:=2) (j:=3) (Ni:=some 8) (Nj:=some 9) #[true,true,true,false,false,false] #[true,true,false,true,false,false] rfl rfl rfl rfl (by kernel_rfl) (by decide) (by decide) (fun K hK => ?_) (fun K hK => ?_)
              · skip
                refine box_step ?hg (N:=8) ?hd (cs:=#[.int .i64 0,.int .i64 0,.int .i64 0,.int .i64 0,.int .i64 0,.int .i64 0]) (t:=25) ?hr ?_;(case hd => rfl);(case hg => rfl);(case hr => first|(go_simp;done)|(go_simp;rfl))
                intro gb349 hg w137 hbox hb
                have BK349:=am (hbox);have GW349:=am ((by rw [hg];exact (sz (by repeat (first|(with_reducible first|exact HB.out|apply sa|apply sn|apply sd|refine sy ?_ (by assumption))|exact HB.out))) : w.heap.size ≤ gb349));have GE349:=am ((by rw [hg];exact (sz (by repeat (first|(with_reducible first|exact HB.out|apply sa|apply sn|apply sd|refine sy ?_ (by assumption))|exact HB.out))) : w.heap.size ≤ gb349));replace HB:=am (ss (by repeat (first|(with_reducible first|exact HB.out|apply sa|apply sn|apply sd|refine sy ?_ (by assumption))|exact HB.out)) hb);have NB339_349:=nb (by exact BK339.out) hg;have NB349_339:=ng (by exact BK339.out) hg;replace BK339:=am (bw (by exact BK339.out) hb);have NB340_349:=nb (by exact BK340.out) hg;have NB349_340:=ng (by exact BK340.out) hg;replace BK340:=am (bw (by exact BK340.out) hb);clear hb hbox hg;refine hK.out _ _ ⟨(bc BK339.out 0).trans rfl,(bc BK339.out 1).trans rfl,(bc BK339.out 2).trans rfl,(bc BK339.out 3).trans rfl,(bc BK339.out 4).trans rfl,(bc BK339.out 5).trans rfl⟩ (fun hHeld => ?_);clear hK K;refine norm_ (a':=?_) ?_ ?_
                rotate_left
                · show Act.put _ (some 8) _ = _
                  simp only [Act.put,q1,q2,q3,i64_w,i32_w]
                  rfl
                refine one_ (i:=3) (N:=some 9) #[true,true,true,true,false,false] rfl rfl (by kernel_rfl) (by decide) (fun K hK => ?_);refine box_step ?hg (N:=9) ?hd (cs:=#[.int .i64 0,.int .i64 0,.int .i64 0,.int .i64 0,.int .i64 0,.int .i64 0]) (t:=25) ?hr ?_;(case hd => rfl);(case hg => rfl);(case hr => first|(go_simp;done)|(go_simp;rfl))
                intro gb350 hg w138 hbox hb
                have BK350:=am (hbox);have GW350:=am ((by rw [hg];exact (sz (by repeat (first|(with_reducible first|exact HB.out|apply sa|apply sn|apply sd|refine sy ?_ (by assumption))|exact HB.out))) : w.heap.size ≤ gb350));have GE350:=am ((by rw [hg];exact (sz (by repeat (first|(with_reducible first|exact HB.out|apply sa|apply sn|apply sd|refine sy ?_ (by assumption))|exact HB.out))) : w.heap.size ≤ gb350));replace HB:=am (ss (by repeat (first|(with_reducible first|exact HB.out|apply sa|apply sn|apply sd|refine sy ?_ (by assumption))|exact HB.out)) hb);have NB339_350:=nb (by exact BK339.out) hg;have NB350_339:=ng (by exact BK339.out) hg;replace BK339:=am (bw (by exact BK339.out) hb);have NB340_350:=nb (by exact BK340.out) hg;have NB350_340:=ng (by exact BK340.out) hg;replace BK340:=am (bw (by exact BK340.out) hb);have NB349_350:=nb (by exact BK349.out) hg;have NB350_349:=ng (by exact BK349.out) hg;replace BK349:=am (bw (by exact BK349.out) hb);clear hb hbox hg;refine hK.out _ _ ⟨(bc BK339.out 0).trans rfl,(bc BK339.out 1).trans rfl,(bc BK339.out 2).trans rfl,(bc BK339.out 3).trans rfl,(bc BK339.out 4).trans rfl,(bc BK339.out 5).trans rfl⟩ (fun hHeld => ?_);clear hK K;refine norm_ (a':=?_) ?_ ?_
                rotate_left
                · show Act.put _ (some 9) _ = _
                  simp only [Act.put,q1,q2,q3,i64_w,i32_w]
                  rfl
                exact norm_ (by simp only [putAll,Act.put,q1,q2,q3]) (hCont (gb349,gb350) _ ⟨hHeld,(by exact BK339.out),(by exact BK340.out),(by exact BK349.out),(by exact BK350.out),GW349.out,GE349.out,NB339_349.out,NB349_339.out,NB340_349.out,NB349_340.out,NB350_349.out,NB349_350.out,GW350.out,GE350.out,NB339_350.out,NB350_339.out,NB340_350.out,NB350_340.out,(by repeat (first|(with_reducible first|exact HB.out|apply sa|apply sn|apply sd|refine sy ?_ (by assumption))|exact HB.out))⟩)
              · skip
                refine box_step ?hg (N:=9) ?hd (cs:=#[.int .i64 0,.int .i64 0,.int .i64 0,.int .i64 0,.int .i64 0,.int .i64 0]) (t:=25) ?hr ?_;(case hd => rfl);(case hg => rfl);(case hr => first|(go_simp;done)|(go_simp;rfl))
                intro gb350 hg w137 hbox hb
                have BK350:=am (hbox);have GW350:=am ((by rw [hg];exact (sz (by repeat (first|(with_reducible first|exact HB.out|apply sa|apply sn|apply sd|refine sy ?_ (by assumption))|exact HB.out))) : w.heap.size ≤ gb350));have GE350:=am ((by rw [hg];exact (sz (by repeat (first|(with_reducible first|exact HB.out|apply sa|apply sn|apply sd|refine sy ?_ (by assumption))|exact HB.out))) : w.heap.size ≤ gb350));replace HB:=am (ss (by repeat (first|(with_reducible first|exact HB.out|apply sa|apply sn|apply sd|refine sy ?_ (by assumption))|exact HB.out)) hb);have NB339_350:=nb (by exact BK339.out) hg;have NB350_339:=ng (by exact BK339.out) hg;replace BK339:=am (bw (by exact BK339.out) hb);have NB340_350:=nb (by exact BK340.out) hg;have NB350_340:=ng (by exact BK340.out) hg;replace BK340:=am (bw (by exact BK340.out) hb);clear hb hbox hg;refine hK.out _ _ ⟨(bc BK339.out 0).trans rfl,(bc BK339.out 1).trans rfl,(bc BK339.out 2).trans rfl,(bc BK339.out 3).trans rfl,(bc BK339.out 4).trans rfl,(bc BK339.out 5).trans rfl⟩ (fun hHeld => ?_);clear hK K;refine norm_ (a':=?_) ?_ ?_
                rotate_left
                · show Act.put _ (some 9) _ = _
                  simp only [Act.put,q1,q2,q3,i64_w,i32_w]
                  rfl
                refine one_ (i:=2) (N:=some 8) #[true,true,true,true,false,false] rfl rfl (by kernel_rfl) (by decide) (fun K hK => ?_);refine box_step ?hg (N:=8) ?hd (cs:=#[.int .i64 0,.int .i64 0,.int .i64 0,.int .i64 0,.int .i64 0,.int .i64 0]) (t:=25) ?hr ?_;(case hd => rfl);(case hg => rfl);(case hr => first|(go_simp;done)|(go_simp;rfl))
                intro gb349 hg w138 hbox hb
                have BK349:=am (hbox);have GW349:=am ((by rw [hg];exact (sz (by repeat (first|(with_reducible first|exact HB.out|apply sa|apply sn|apply sd|refine sy ?_ (by assumption))|exact HB.out))) : w.heap.size ≤ gb349));have GE349:=am ((by rw [hg];exact (sz (by repeat (first|(with_reducible first|exact HB.out|apply sa|apply sn|apply sd|refine sy ?_ (by assumption))|exact HB.out))) : w.heap.size ≤ gb349));replace HB:=am (ss (by repeat (first|(with_reducible first|exact HB.out|apply sa|apply sn|apply sd|refine sy ?_ (by assumption))|exact HB.out)) hb);have NB339_349:=nb (by exact BK339.out) hg;have NB349_339:=ng (by exact BK339.out) hg;replace BK339:=am (bw (by exact BK339.out) hb);have NB340_349:=nb (by exact BK340.out) hg;have NB349_340:=ng (by exact BK340.out) hg;replace BK340:=am (bw (by exact BK340.out) hb);have NB350_349:=nb (by exact BK350.out) hg;have NB349_350:=ng (by exact BK350.out) hg;replace BK350:=am (bw (by exact BK350.out) hb);clear hb hbox hg;refine hK.out _ _ ⟨(bc BK339.out 0).trans rfl,(bc BK339.out 1).trans rfl,(bc BK339.out 2).trans rfl,(bc BK339.out 3).trans rfl,(bc BK339.out 4).trans rfl,(bc BK339.out 5).trans rfl⟩ (fun hHeld => ?_);clear hK K;refine norm_ (a':=?_) ?_ ?_
                rotate_left
                · show Act.put _ (some 8) _ = _
                  simp only [Act.put,q1,q2,q3,i64_w,i32_w]
                  rfl
                exact norm_ (by simp only [putAll,Act.put,q1,q2,q3]) (hCont (gb349,gb350) _ ⟨hHeld,(by exact BK339.out),(by exact BK340.out),(by exact BK349.out),(by exact BK350.out),GW349.out,GE349.out,NB339_349.out,NB349_339.out,NB340_349.out,NB349_340.out,NB350_349.out,NB349_350.out,GW350.out,GE350.out,NB339_350.out,NB350_339.out,NB340_350.out,NB350_340.out,(by repeat (first|(with_reducible first|exact HB.out|apply sa|apply sn|apply sd|refine sy ?_ (by assumption))|exact HB.out))⟩)
            rintro ⟨gb349,gb350⟩ w139 ⟨hS_,h0_,h1_,h2_,h3_,h4_,h5_,h6_,h7_,h8_,h9_,h10_,h11_,h12_,h13_,h14_,h15_,h16_,h17_,h18_⟩
            have n0_ : Aside0 (w139.heap[gb339]? = some (.cells #[.int .i64 a0_0,.int .i64 a0_1,.int .i64 a0_2,.int .i64 a0_3,.int .i64 a0_4,.int .i64 a0_5] 25 (0,0))):=⟨h0_⟩;have n1_ : Aside0 (w139.heap[gb340]? = some (.cells #[.int .i64 (wrap64 (Int.tdiv (wrap64 (a0_0 + a0_2)) 2)),.int .i64 (wrap64 (Int.tdiv (wrap64 (a0_1 + a0_3)) 2))] 23 (0,0))):=⟨h1_⟩;have n2_ : Aside0 (w139.heap[gb349]? = some (.cells #[.int .i64 0,.int .i64 0,.int .i64 0,.int .i64 0,.int .i64 0,.int .i64 0] 25 (0,0))):=⟨h2_⟩;have n3_ : Aside0 (w139.heap[gb350]? = some (.cells #[.int .i64 0,.int .i64 0,.int .i64 0,.int .i64 0,.int .i64 0,.int .i64 0] 25 (0,0))):=⟨h3_⟩;have n4_ : Aside0 (w.heap.size ≤ gb349):=⟨h4_⟩;have n5_ : Aside0 (w.heap.size ≤ gb349):=⟨h5_⟩;have n6_ : Aside0 (gb339 ≠ gb349):=⟨h6_⟩;have n7_ : Aside0 (gb349 ≠ gb339):=⟨h7_⟩;have n8_ : Aside0 (gb340 ≠ gb349):=⟨h8_⟩;have n9_ : Aside0 (gb349 ≠ gb340):=⟨h9_⟩;have n10_ : Aside0 (gb350 ≠ gb349):=⟨h10_⟩;have n11_ : Aside0 (gb349 ≠ gb350):=⟨h11_⟩;have n12_ : Aside0 (w.heap.size ≤ gb350):=⟨h12_⟩;have n13_ : Aside0 (w.heap.size ≤ gb350):=⟨h13_⟩;have n14_ : Aside0 (gb339 ≠ gb350):=⟨h14_⟩;have n15_ : Aside0 (gb350 ≠ gb339):=⟨h15_⟩;have n16_ : Aside0 (gb340 ≠ gb350):=⟨h16_⟩;have n17_ : Aside0 (gb350 ≠ gb340):=⟨h17_⟩;have n18_ : Aside0 (Below w.heap.size w w139):=⟨h18_⟩;clear BK339;clear BK340;clear HB;clear h0_ h1_ h2_ h3_ h4_ h5_ h6_ h7_ h8_ h9_ h10_ h11_ h12_ h13_ h14_ h15_ h16_ h17_ h18_;have BK339:=n0_;have BK340:=n1_;have BK349:=n2_;have BK350:=n3_;have GW349:=n4_;have GE349:=n5_;have NB339_349:=n6_;have NB349_339:=n7_;have NB340_349:=n8_;have NB349_340:=n9_;have NB350_349:=n10_;have NB349_350:=n11_;have GW350:=n12_;have GE350:=n13_;have NB339_350:=n14_;have NB350_339:=n15_;have NB340_350:=n16_;have NB350_340:=n17_;have HB:=n18_;clear n0_ n1_ n2_ n3_ n4_ n5_ n6_ n7_ n8_ n9_ n10_ n11_ n12_ n13_ n14_ n15_ n16_ n17_ n18_;have hHeld : w139.cell? ⟨gb339,0,none⟩ = some (.int .i64 a0_0) ∧ w139.cell? ⟨gb339,1,none⟩ = some (.int .i64 a0_1) ∧ w139.cell? ⟨gb339,2,none⟩ = some (.int .i64 a0_2) ∧ w139.cell? ⟨gb339,3,none⟩ = some (.int .i64 a0_3) ∧ w139.cell? ⟨gb339,4,none⟩ = some (.int .i64 a0_4) ∧ w139.cell? ⟨gb339,5,none⟩ = some (.int .i64 a0_5):=hS_;refine norm_ (a':=?_) ?_ ?_
            rotate_left
            · simp only [putAll,Act.put,q1,q2,q3]
              rfl
            refine one_ (i:=4) (N:=none) #[true,true,true,true,true,false] rfl rfl (by kernel_rfl) (by decide) (fun K hK => ?_);have hs140 : w139.cell? ⟨gb349,0,none⟩ = some (.int .i64 0):=(bc BK349.out 0).trans rfl;have hfs140:=bz BK349.out 0;have hns140_0:=NB339_349.out;have hns140_1:=NB340_349.out;have hns140_3:=NB350_349.out;have hms140_0:=NB349_339.out;have hms140_1:=NB349_340.out;have hms140_3:=NB349_350.out;have hs141 : w139.cell? ⟨gb349,1,none⟩ = some (.int .i64 0):=(bc BK349.out 1).trans rfl;have hfs141:=bz BK349.out 1;have hns141_0:=NB339_349.out;have hns141_1:=NB340_349.out;have hns141_3:=NB350_349.out;have hms141_0:=NB349_339.out;have hms141_1:=NB349_340.out;have hms141_3:=NB349_350.out;have hs142 : w139.cell? ⟨gb349,2,none⟩ = some (.int .i64 0):=(bc BK349.out 2).trans rfl;have hfs142:=bz BK349.out 2;have hns142_0:=NB339_349.out;have hns142_1:=NB340_349.out;have hns142_3:=NB350_349.out;have hms142_0:=NB349_339.out;have hms142_1:=NB349_340.out;have hms142_3:=NB349_350.out;have hs143 : w139.cell? ⟨gb349,3,none⟩ = some (.int .i64 0):=(bc BK349.out 3).trans rfl;have hfs143:=bz BK349.out 3;have hns143_0:=NB339_349.out;have hns143_1:=NB340_349.out;have hns143_3:=NB350_349.out;have hms143_0:=NB349_339.out;have hms143_1:=NB349_340.out;have hms143_3:=NB349_350.out;have hs144 : w139.cell? ⟨gb349,4,none⟩ = some (.int .i64 0):=(bc BK349.out 4).trans rfl;have hfs144:=bz BK349.out 4;have hns144_0:=NB339_349.out;have hns144_1:=NB340_349.out;have hns144_3:=NB350_349.out;have hms144_0:=NB349_339.out;have hms144_1:=NB349_340.out;have hms144_3:=NB349_350.out;have hs145 : w139.cell? ⟨gb349,5,none⟩ = some (.int .i64 0):=(bc BK349.out 5).trans rfl;have hfs145:=bz BK349.out 5;have hns145_0:=NB339_349.out;have hns145_1:=NB340_349.out;have hns145_3:=NB350_349.out;have hms145_0:=NB349_339.out;have hms145_1:=NB349_340.out;have hms145_3:=NB349_350.out;refine skip_ (w1:=?_) (by rfl) rfl ?_ ?_
            rotate_left
            · go_simp
              rfl
            refine hK.out _ _ ⟨((cell_far (p:=⟨gb349,_,none⟩) NB339_349.out _).trans (((cell_far (p:=⟨gb349,_,none⟩) NB339_349.out _).trans (((cell_far (p:=⟨gb349,_,none⟩) NB339_349.out _).trans (((cell_far (p:=⟨gb349,_,none⟩) NB339_349.out _).trans (((cell_far (p:=⟨gb349,_,none⟩) NB339_349.out _).trans (((cell_far (p:=⟨gb349,_,none⟩) NB339_349.out _).trans (hHeld.1)))))))))))),((cell_far (p:=⟨gb349,_,none⟩) NB339_349.out _).trans (((cell_far (p:=⟨gb349,_,none⟩) NB339_349.out _).trans (((cell_far (p:=⟨gb349,_,none⟩) NB339_349.out _).trans (((cell_far (p:=⟨gb349,_,none⟩) NB339_349.out _).trans (((cell_far (p:=⟨gb349,_,none⟩) NB339_349.out _).trans (((cell_far (p:=⟨gb349,_,none⟩) NB339_349.out _).trans (hHeld.2.1)))))))))))),((cell_far (p:=⟨gb349,_,none⟩) NB339_349.out _).trans (((cell_far (p:=⟨gb349,_,none⟩) NB339_349.out _).trans (((cell_far (p:=⟨gb349,_,none⟩) NB339_349.out _).trans (((cell_far (p:=⟨gb349,_,none⟩) NB339_349.out _).trans (((cell_far (p:=⟨gb349,_,none⟩) NB339_349.out _).trans (((cell_far (p:=⟨gb349,_,none⟩) NB339_349.out _).trans (hHeld.2.2.1)))))))))))),((cell_far (p:=⟨gb349,_,none⟩) NB339_349.out _).trans (((cell_far (p:=⟨gb349,_,none⟩) NB339_349.out _).trans (((cell_far (p:=⟨gb349,_,none⟩) NB339_349.out _).trans (((cell_far (p:=⟨gb349,_,none⟩) NB339_349.out _).trans (((cell_far (p:=⟨gb349,_,none⟩) NB339_349.out _).trans (((cell_far (p:=⟨gb349,_,none⟩) NB339_349.out _).trans (hHeld.2.2.2.1)))))))))))),((cell_far (p:=⟨gb349,_,none⟩) NB339_349.out _).trans (((cell_far (p:=⟨gb349,_,none⟩) NB339_349.out _).trans (((cell_far (p:=⟨gb349,_,none⟩) NB339_349.out _).trans (((cell_far (p:=⟨gb349,_,none⟩) NB339_349.out _).trans (((cell_far (p:=⟨gb349,_,none⟩) NB339_349.out _).trans (((cell_far (p:=⟨gb349,_,none⟩) NB339_349.out _).trans (hHeld.2.2.2.2.1)))))))))))),((cell_far (p:=⟨gb349,_,none⟩) NB339_349.out _).trans (((cell_far (p:=⟨gb349,_,none⟩) NB339_349.out _).trans (((cell_far (p:=⟨gb349,_,none⟩) NB339_349.out _).trans (((cell_far (p:=⟨gb349,_,none⟩) NB339_349.out _).trans (((cell_far (p:=⟨gb349,_,none⟩) NB339_349.out _).trans (((cell_far (p:=⟨gb349,_,none⟩) NB339_349.out _).trans (hHeld.2.2.2.2.2))))))))))))⟩ (fun hHeld => ?_);clear hK K;refine one_ (i:=5) (N:=none) #[true,true,true,true,true,true] rfl rfl (by kernel_rfl) (by decide) (fun K hK => ?_);have hs146 : w139.cell? ⟨gb350,0,none⟩ = some (.int .i64 0):=(bc BK350.out 0).trans rfl;have hfs146:=bz BK350.out 0;have hns146_0:=NB339_350.out;have hns146_1:=NB340_350.out;have hns146_2:=NB349_350.out;have hms146_0:=NB350_339.out;have hms146_1:=NB350_340.out;have hms146_2:=NB350_349.out;have hs147 : w139.cell? ⟨gb350,1,none⟩ = some (.int .i64 0):=(bc BK350.out 1).trans rfl;have hfs147:=bz BK350.out 1;have hns147_0:=NB339_350.out;have hns147_1:=NB340_350.out;have hns147_2:=NB349_350.out;have hms147_0:=NB350_339.out;have hms147_1:=NB350_340.out;have hms147_2:=NB350_349.out;have hs148 : w139.cell? ⟨gb350,2,none⟩ = some (.int .i64 0):=(bc BK350.out 2).trans rfl;have hfs148:=bz BK350.out 2;have hns148_0:=NB339_350.out;have hns148_1:=NB340_350.out;have hns148_2:=NB349_350.out;have hms148_0:=NB350_339.out;have hms148_1:=NB350_340.out;have hms148_2:=NB350_349.out;have hs149 : w139.cell? ⟨gb350,3,none⟩ = some (.int .i64 0):=(bc BK350.out 3).trans rfl;have hfs149:=bz BK350.out 3;have hns149_0:=NB339_350.out;have hns149_1:=NB340_350.out;have hns149_2:=NB349_350.out;have hms149_0:=NB350_339.out;have hms149_1:=NB350_340.out;have hms149_2:=NB350_349.out;have hs150 : w139.cell? ⟨gb350,4,none⟩ = some (.int .i64 0):=(bc BK350.out 4).trans rfl;have hfs150:=bz BK350.out 4;have hns150_0:=NB339_350.out;have hns150_1:=NB340_350.out;have hns150_2:=NB349_350.out;have hms150_0:=NB350_339.out;have hms150_1:=NB350_340.out;have hms150_2:=NB350_349.out;have hs151 : w139.cell? ⟨gb350,5,none⟩ = some (.int .i64 0):=(bc BK350.out 5).trans rfl;have hfs151:=bz BK350.out 5;have hns151_0:=NB339_350.out;have hns151_1:=NB340_350.out;have hns151_2:=NB349_350.out;have hms151_0:=NB350_339.out;have hms151_1:=NB350_340.out;have hms151_2:=NB350_349.out;refine skip_ (w1:=?_) (by rfl) rfl ?_ ?_
            rotate_left
            · go_simp
              rfl
            refine hK.out _ _ ⟨((cell_far (p:=⟨gb350,_,none⟩) NB339_350.out _).trans (((cell_far (p:=⟨gb350,_,none⟩) NB339_350.out _).trans (((cell_far (p:=⟨gb350,_,none⟩) NB339_350.out _).trans (((cell_far (p:=⟨gb350,_,none⟩) NB339_350.out _).trans (((cell_far (p:=⟨gb350,_,none⟩) NB339_350.out _).trans (((cell_far (p:=⟨gb350,_,none⟩) NB339_350.out _).trans (hHeld.1)))))))))))),((cell_far (p:=⟨gb350,_,none⟩) NB339_350.out _).trans (((cell_far (p:=⟨gb350,_,none⟩) NB339_350.out _).trans (((cell_far (p:=⟨gb350,_,none⟩) NB339_350.out _).trans (((cell_far (p:=⟨gb350,_,none⟩) NB339_350.out _).trans (((cell_far (p:=⟨gb350,_,none⟩) NB339_350.out _).trans (((cell_far (p:=⟨gb350,_,none⟩) NB339_350.out _).trans (hHeld.2.1)))))))))))),((cell_far (p:=⟨gb350,_,none⟩) NB339_350.out _).trans (((cell_far (p:=⟨gb350,_,none⟩) NB339_350.out _).trans (((cell_far (p:=⟨gb350,_,none⟩) NB339_350.out _).trans (((cell_far (p:=⟨gb350,_,none⟩) NB339_350.out _).trans (((cell_far (p:=⟨gb350,_,none⟩) NB339_350.out _).trans (((cell_far (p:=⟨gb350,_,none⟩) NB339_350.out _).trans (hHeld.2.2.1)))))))))))),((cell_far (p:=⟨gb350,_,none⟩) NB339_350.out _).trans (((cell_far (p:=⟨gb350,_,none⟩) NB339_350.out _).trans (((cell_far (p:=⟨gb350,_,none⟩) NB339_350.out _).trans (((cell_far (p:=⟨gb350,_,none⟩) NB339_350.out _).trans (((cell_far (p:=⟨gb350,_,none⟩) NB339_350.out _).trans (((cell_far (p:=⟨gb350,_,none⟩) NB339_350.out _).trans (hHeld.2.2.2.1)))))))))))),((cell_far (p:=⟨gb350,_,none⟩) NB339_350.out _).trans (((cell_far (p:=⟨gb350,_,none⟩) NB339_350.out _).trans (((cell_far (p:=⟨gb350,_,none⟩) NB339_350.out _).trans (((cell_far (p:=⟨gb350,_,none⟩) NB339_350.out _).trans (((cell_far (p:=⟨gb350,_,none⟩) NB339_350.out _).trans (((cell_far (p:=⟨gb350,_,none⟩) NB339_350.out _).trans (hHeld.2.2.2.2.1)))))))))))),((cell_far (p:=⟨gb350,_,none⟩) NB339_350.out _).trans (((cell_far (p:=⟨gb350,_,none⟩) NB339_350.out _).trans (((cell_far (p:=⟨gb350,_,none⟩) NB339_350.out _).trans (((cell_far (p:=⟨gb350,_,none⟩) NB339_350.out _).trans (((cell_far (p:=⟨gb350,_,none⟩) NB339_350.out _).trans (((cell_far (p:=⟨gb350,_,none⟩) NB339_350.out _).trans (hHeld.2.2.2.2.2))))))))))))⟩ (fun hHeld => ?_);clear hK K;refine done_ (by kernel_rfl) ?_
            try go_wp2
            have n0_ : Aside0 (((((((((((((w139.setCell ⟨gb349,0,none⟩ (.int .i64 a0_0)).setCell ⟨gb349,1,none⟩ (.int .i64 a0_1)).setCell ⟨gb349,2,none⟩ (.int .i64 a0_2)).setCell ⟨gb349,3,none⟩ (.int .i64 a0_3)).setCell ⟨gb349,4,none⟩ (.int .i64 a0_4)).setCell ⟨gb349,5,none⟩ (.int .i64 a0_5)).setCell ⟨gb350,0,none⟩ (.int .i64 a0_0)).setCell ⟨gb350,1,none⟩ (.int .i64 a0_1)).setCell ⟨gb350,2,none⟩ (.int .i64 a0_2)).setCell ⟨gb350,3,none⟩ (.int .i64 a0_3)).setCell ⟨gb350,4,none⟩ (.int .i64 a0_4)).setCell ⟨gb350,5,none⟩ (.int .i64 a0_5)).heap[gb339]? = some (.cells #[.int .i64 a0_0,.int .i64 a0_1,.int .i64 a0_2,.int .i64 a0_3,.int .i64 a0_4,.int .i64 a0_5] 25 (0,0))):=⟨by (with_reducible repeat (first|refine bn ?_ _|refine bd ?_|refine ba ?_ _|refine bf ?_ NB339_350.out _|refine bf ?_ NB339_349.out _));exact BK339.out⟩;have n1_ : Aside0 (((((((((((((w139.setCell ⟨gb349,0,none⟩ (.int .i64 a0_0)).setCell ⟨gb349,1,none⟩ (.int .i64 a0_1)).setCell ⟨gb349,2,none⟩ (.int .i64 a0_2)).setCell ⟨gb349,3,none⟩ (.int .i64 a0_3)).setCell ⟨gb349,4,none⟩ (.int .i64 a0_4)).setCell ⟨gb349,5,none⟩ (.int .i64 a0_5)).setCell ⟨gb350,0,none⟩ (.int .i64 a0_0)).setCell ⟨gb350,1,none⟩ (.int .i64 a0_1)).setCell ⟨gb350,2,none⟩ (.int .i64 a0_2)).setCell ⟨gb350,3,none⟩ (.int .i64 a0_3)).setCell ⟨gb350,4,none⟩ (.int .i64 a0_4)).setCell ⟨gb350,5,none⟩ (.int .i64 a0_5)).heap[gb340]? = some (.cells #[.int .i64 (wrap64 (Int.tdiv (wrap64 (a0_0 + a0_2)) 2)),.int .i64 (wrap64 (Int.tdiv (wrap64 (a0_1 + a0_3)) 2))] 23 (0,0))):=⟨by (with_reducible repeat (first|refine bn ?_ _|refine bd ?_|refine ba ?_ _|refine bf ?_ NB340_350.out _|refine bf ?_ NB340_349.out _));exact BK340.out⟩;have n2_ : Aside0 (((((((((((((w139.setCell ⟨gb349,0,none⟩ (.int .i64 a0_0)).setCell ⟨gb349,1,none⟩ (.int .i64 a0_1)).setCell ⟨gb349,2,none⟩ (.int .i64 a0_2)).setCell ⟨gb349,3,none⟩ (.int .i64 a0_3)).setCell ⟨gb349,4,none⟩ (.int .i64 a0_4)).setCell ⟨gb349,5,none⟩ (.int .i64 a0_5)).setCell ⟨gb350,0,none⟩ (.int .i64 a0_0)).setCell ⟨gb350,1,none⟩ (.int .i64 a0_1)).setCell ⟨gb350,2,none⟩ (.int .i64 a0_2)).setCell ⟨gb350,3,none⟩ (.int .i64 a0_3)).setCell ⟨gb350,4,none⟩ (.int .i64 a0_4)).setCell ⟨gb350,5,none⟩ (.int .i64 a0_5)).heap[gb349]? = some (.cells #[.int .i64 a0_0,.int .i64 a0_1,.int .i64 a0_2,.int .i64 a0_3,.int .i64 a0_4,.int .i64 a0_5] 25 (0,0))):=⟨by (with_reducible repeat (first|refine bn ?_ _|refine bd ?_|refine ba ?_ _));refine bf ?_ NB349_350.out _;(with_reducible repeat (first|refine bn ?_ _|refine bd ?_|refine ba ?_ _));refine bf ?_ NB349_350.out _;(with_reducible repeat (first|refine bn ?_ _|refine bd ?_|refine ba ?_ _));refine bf ?_ NB349_350.out _;(with_reducible repeat (first|refine bn ?_ _|refine bd ?_|refine ba ?_ _));refine bf ?_ NB349_350.out _;(with_reducible repeat (first|refine bn ?_ _|refine bd ?_|refine ba ?_ _));refine bf ?_ NB349_350.out _;(with_reducible repeat (first|refine bn ?_ _|refine bd ?_|refine ba ?_ _));refine bf ?_ NB349_350.out _;(with_reducible repeat (first|refine bn ?_ _|refine bd ?_|refine ba ?_ _));refine bp (cs:=#[.int .i64 a0_0,.int .i64 a0_1,.int .i64 a0_2,.int .i64 a0_3,.int .i64 a0_4,.int .i64 0]) ?_ 5 _ rfl;(with_reducible repeat (first|refine bn ?_ _|refine bd ?_|refine ba ?_ _));refine bp (cs:=#[.int .i64 a0_0,.int .i64 a0_1,.int .i64 a0_2,.int .i64 a0_3,.int .i64 0,.int .i64 0]) ?_ 4 _ rfl;(with_reducible repeat (first|refine bn ?_ _|refine bd ?_|refine ba ?_ _));refine bp (cs:=#[.int .i64 a0_0,.int .i64 a0_1,.int .i64 a0_2,.int .i64 0,.int .i64 0,.int .i64 0]) ?_ 3 _ rfl;(with_reducible repeat (first|refine bn ?_ _|refine bd ?_|refine ba ?_ _));refine bp (cs:=#[.int .i64 a0_0,.int .i64 a0_1,.int .i64 0,.int .i64 0,.int .i64 0,.int .i64 0]) ?_ 2 _ rfl;(with_reducible repeat (first|refine bn ?_ _|refine bd ?_|refine ba ?_ _));refine bp (cs:=#[.int .i64 a0_0,.int .i64 0,.int .i64 0,.int .i64 0,.int .i64 0,.int .i64 0]) ?_ 1 _ rfl;(with_reducible repeat (first|refine bn ?_ _|refine bd ?_|refine ba ?_ _));refine bp (cs:=#[.int .i64 0,.int .i64 0,.int .i64 0,.int .i64 0,.int .i64 0,.int .i64 0]) ?_ 0 _ rfl;(with_reducible repeat (first|refine bn ?_ _|refine bd ?_|refine ba ?_ _));exact BK349.out⟩;have n3_ : Aside0 (((((((((((((w139.setCell ⟨gb349,0,none⟩ (.int .i64 a0_0)).setCell ⟨gb349,1,none⟩ (.int .i64 a0_1)).setCell ⟨gb349,2,none⟩ (.int .i64 a0_2)).setCell ⟨gb349,3,none⟩ (.int .i64 a0_3)).setCell ⟨gb349,4,none⟩ (.int .i64 a0_4)).setCell ⟨gb349,5,none⟩ (.int .i64 a0_5)).setCell ⟨gb350,0,none⟩ (.int .i64 a0_0)).setCell ⟨gb350,1,none⟩ (.int .i64 a0_1)).setCell ⟨gb350,2,none⟩ (.int .i64 a0_2)).setCell ⟨gb350,3,none⟩ (.int .i64 a0_3)).setCell ⟨gb350,4,none⟩ (.int .i64 a0_4)).setCell ⟨gb350,5,none⟩ (.int .i64 a0_5)).heap[gb350]? = some (.cells #[.int .i64 a0_0,.int .i64 a0_1,.int .i64 a0_2,.int .i64 a0_3,.int .i64 a0_4,.int .i64 a0_5] 25 (0,0))):=⟨by (with_reducible repeat (first|refine bn ?_ _|refine bd ?_|refine ba ?_ _));refine bp (cs:=#[.int .i64 a0_0,.int .i64 a0_1,.int .i64 a0_2,.int .i64 a0_3,.int .i64 a0_4,.int .i64 0]) ?_ 5 _ rfl;(with_reducible repeat (first|refine bn ?_ _|refine bd ?_|refine ba ?_ _));refine bp (cs:=#[.int .i64 a0_0,.int .i64 a0_1,.int .i64 a0_2,.int .i64 a0_3,.int .i64 0,.int .i64 0]) ?_ 4 _ rfl;(with_reducible repeat (first|refine bn ?_ _|refine bd ?_|refine ba ?_ _));refine bp (cs:=#[.int .i64 a0_0,.int .i64 a0_1,.int .i64 a0_2,.int .i64 0,.int .i64 0,.int .i64 0]) ?_ 3 _ rfl;(with_reducible repeat (first|refine bn ?_ _|refine bd ?_|refine ba ?_ _));refine bp (cs:=#[.int .i64 a0_0,.int .i64 a0_1,.int .i64 0,.int .i64 0,.int .i64 0,.int .i64 0]) ?_ 2 _ rfl;(with_reducible repeat (first|refine bn ?_ _|refine bd ?_|refine ba ?_ _));refine bp (cs:=#[.int .i64 a0_0,.int .i64 0,.int .i64 0,.int .i64 0,.int .i64 0,.int .i64 0]) ?_ 1 _ rfl;(with_reducible repeat (first|refine bn ?_ _|refine bd ?_|refine ba ?_ _));refine bp (cs:=#[.int .i64 0,.int .i64 0,.int .i64 0,.int .i64 0,.int .i64 0,.int .i64 0]) ?_ 0 _ rfl;(with_reducible repeat (first|refine bn ?_ _|refine bd ?_|refine ba ?_ _));refine bf ?_ NB350_349.out _;(with_reducible repeat (first|refine bn ?_ _|refine bd ?_|refine ba ?_ _));refine bf ?_ NB350_349.out _;(with_reducible repeat (first|refine bn ?_ _|refine bd ?_|refine ba ?_ _));refine bf ?_ NB350_349.out _;(with_reducible repeat (first|refine bn ?_ _|refine bd ?_|refine ba ?_ _));refine bf ?_ NB350_349.out _;(with_reducible repeat (first|refine bn ?_ _|refine bd ?_|refine ba ?_ _));refine bf ?_ NB350_349.out _;(with_reducible repeat (first|refine bn ?_ _|refine bd ?_|refine ba ?_ _));refine bf ?_ NB350_349.out _;(with_reducible repeat (first|refine bn ?_ _|refine bd ?_|refine ba ?_ _));exact BK350.out⟩;have n4_ : Aside0 (Below w.heap.size w ((((((((((((w139.setCell ⟨gb349,0,none⟩ (.int .i64 a0_0)).setCell ⟨gb349,1,none⟩ (.int .i64 a0_1)).setCell ⟨gb349,2,none⟩ (.int .i64 a0_2)).setCell ⟨gb349,3,none⟩ (.int .i64 a0_3)).setCell ⟨gb349,4,none⟩ (.int .i64 a0_4)).setCell ⟨gb349,5,none⟩ (.int .i64 a0_5)).setCell ⟨gb350,0,none⟩ (.int .i64 a0_0)).setCell ⟨gb350,1,none⟩ (.int .i64 a0_1)).setCell ⟨gb350,2,none⟩ (.int .i64 a0_2)).setCell ⟨gb350,3,none⟩ (.int .i64 a0_3)).setCell ⟨gb350,4,none⟩ (.int .i64 a0_4)).setCell ⟨gb350,5,none⟩ (.int .i64 a0_5))):=⟨by repeat (first|(with_reducible first|exact HB.out|apply sa|apply sn|apply sd|refine sy ?_ (by assumption))|exact HB.out)⟩;(try clear BK339);(try clear BK340);(try clear BK349);(try clear BK350);(try clear HB);generalize ((((((((((((w139.setCell ⟨gb349,0,none⟩ (.int .i64 a0_0)).setCell ⟨gb349,1,none⟩ (.int .i64 a0_1)).setCell ⟨gb349,2,none⟩ (.int .i64 a0_2)).setCell ⟨gb349,3,none⟩ (.int .i64 a0_3)).setCell ⟨gb349,4,none⟩ (.int .i64 a0_4)).setCell ⟨gb349,5,none⟩ (.int .i64 a0_5)).setCell ⟨gb350,0,none⟩ (.int .i64 a0_0)).setCell ⟨gb350,1,none⟩ (.int .i64 a0_1)).setCell ⟨gb350,2,none⟩ (.int .i64 a0_2)).setCell ⟨gb350,3,none⟩ (.int .i64 a0_3)).setCell ⟨gb350,4,none⟩ (.int .i64 a0_4)).setCell ⟨gb350,5,none⟩ (.int .i64 a0_5)) = w152 at n0_ n1_ n2_ n3_ n4_ ⊢;have BK339:=n0_;have BK340:=n1_;have BK349:=n2_;have BK350:=n3_;have HB:=n4_;clear n0_ n1_ n2_ n3_ n4_;replace BK339:=am (bd BK339.out);replace BK340:=am (bd BK340.out);replace BK349:=am (bd BK349.out);replace BK350:=am (bd BK350.out);replace HB:=am (sd HB.out);refine start_ (n:=6) (S:=fun w' => w'.cell? ⟨gb340,0,none⟩ = some (.int .i64 (wrap64 (Int.tdiv (wrap64 (a0_0 + a0_2)) 2))) ∧ w'.cell? ⟨gb340,1,none⟩ = some (.int .i64 (wrap64 (Int.tdiv (wrap64 (a0_1 + a0_3)) 2)))) (ds:=[]) #[false,false,false,false,false,false] (by kernel_rfl) rfl rfl ⟨(bc BK340.out 0).trans rfl,(bc BK340.out 1).trans rfl⟩ (fun hHeld => ?_);generalize w152.drew = w153 at BK339 BK340 BK349 BK350 HB hHeld ⊢;refine take_ (i:=0) (N:=some 72) (v:=?_) (a':=?_) #[true,false,false,false,false,false] rfl rfl (by kernel_rfl) (fun _ _ _ h => h) (Or.inl ⟨by rfl,?_⟩) hHeld ?_ ?_
            rotate_left
            · rintro w' ⟨s0,s1⟩
              go_simp
              with_reducible rfl
            rotate_left
            · simp only [Act.put,q1,q2,q3,i64_w,i32_w]
              rfl
            refine pure_ (i:=2) (N:=some 74) (v:=?_) (a':=?_) #[true,false,true,false,false,false] rfl rfl (by kernel_rfl) (fun _ _ _ h => h) (Or.inl ⟨by rfl,?_⟩) ?_ ?_
            rotate_left
            · intro w'
              go_simp
              with_reducible rfl
            rotate_left
            · simp only [Act.put,q1,q2,q3,i64_w,i32_w]
              rfl
            refine take_ (i:=1) (N:=some 73) (v:=?_) (a':=?_) #[true,true,true,false,false,false] rfl rfl (by kernel_rfl) (fun _ _ _ h => h) (Or.inl ⟨by rfl,?_⟩) hHeld ?_ ?_
            rotate_left
            · rintro w' ⟨s0,s1⟩
              go_simp
              with_reducible rfl
            rotate_left
            · simp only [Act.put,q1,q2,q3,i64_w,i32_w]
              rfl
            refine one_ (i:=3) (N:=none) #[true,true,true,true,false,false] rfl rfl (by kernel_rfl) (by decide) (fun K hK => ?_);have hs154 : w153.cell? ⟨gb349,2,none⟩ = some (.int .i64 a0_2):=(bc BK349.out 2).trans rfl;have hfs154:=bz BK349.out 2;have hns154_0:=NB339_349.out;have hns154_1:=NB340_349.out;have hns154_3:=NB350_349.out;have hms154_0:=NB349_339.out;have hms154_1:=NB349_340.out;have hms154_3:=NB349_350.out;have hs155 : w153.cell? ⟨gb349,3,none⟩ = some (.int .i64 a0_3):=(bc BK349.out 3).trans rfl;have hfs155:=bz BK349.out 3;have hns155_0:=NB339_349.out;have hns155_1:=NB340_349.out;have hns155_3:=NB350_349.out;have hms155_0:=NB349_339.out;have hms155_1:=NB349_340.out;have hms155_3:=NB349_350.out;refine skip_ (w1:=?_) (by rfl) rfl ?_ ?_
            rotate_left
            · go_simp
              rfl
            refine hK.out _ _ ⟨((cell_far (p:=⟨gb349,_,none⟩) NB340_349.out _).trans (((cell_far (p:=⟨gb349,_,none⟩) NB340_349.out _).trans (hHeld.1)))),((cell_far (p:=⟨gb349,_,none⟩) NB340_349.out _).trans (((cell_far (p:=⟨gb349,_,none⟩) NB340_349.out _).trans (hHeld.2))))⟩ (fun hHeld => ?_);clear hK K;refine pure_ (i:=4) (N:=some 75) (v:=?_) (a':=?_) #[true,true,true,true,true,false] rfl rfl (by kernel_rfl) (fun _ _ _ h => h) (Or.inl ⟨by rfl,?_⟩) ?_ ?_
            rotate_left
            · intro w'
              go_simp
              with_reducible rfl
            rotate_left
            · simp only [Act.put,q1,q2,q3,i64_w,i32_w]
              rfl
            refine one_ (i:=5) (N:=none) #[true,true,true,true,true,true] rfl rfl (by kernel_rfl) (by decide) (fun K hK => ?_);have hs156 : w153.cell? ⟨gb350,0,none⟩ = some (.int .i64 a0_0):=(bc BK350.out 0).trans rfl;have hfs156:=bz BK350.out 0;have hns156_0:=NB339_350.out;have hns156_1:=NB340_350.out;have hns156_2:=NB349_350.out;have hms156_0:=NB350_339.out;have hms156_1:=NB350_340.out;have hms156_2:=NB350_349.out;have hs157 : w153.cell? ⟨gb350,1,none⟩ = some (.int .i64 a0_1):=(bc BK350.out 1).trans rfl;have hfs157:=bz BK350.out 1;have hns157_0:=NB339_350.out;have hns157_1:=NB340_350.out;have hns157_2:=NB349_350.out;have hms157_0:=NB350_339.out;have hms157_1:=NB350_340.out;have hms157_2:=NB350_349.out;refine skip_ (w1:=?_) (by rfl) rfl ?_ ?_
            rotate_left
            · go_simp
              rfl
            refine hK.out _ _ ⟨((cell_far (p:=⟨gb350,_,none⟩) NB340_350.out _).trans (((cell_far (p:=⟨gb350,_,none⟩) NB340_350.out _).trans (hHeld.1)))),((cell_far (p:=⟨gb350,_,none⟩) NB340_350.out _).trans (((cell_far (p:=⟨gb350,_,none⟩) NB340_350.out _).trans (hHeld.2))))⟩ (fun hHeld => ?_);clear hK K;refine done_ (by kernel_rfl) ?_
            try go_wp2
            have n0_ : Aside0 (((((w153.setCell ⟨gb349,2,none⟩ (.int .i64 (wrap64 (Int.tdiv (wrap64 (a0_0 + a0_2)) 2)))).setCell ⟨gb349,3,none⟩ (.int .i64 (wrap64 (Int.tdiv (wrap64 (a0_1 + a0_3)) 2)))).setCell ⟨gb350,0,none⟩ (.int .i64 (wrap64 (Int.tdiv (wrap64 (a0_0 + a0_2)) 2)))).setCell ⟨gb350,1,none⟩ (.int .i64 (wrap64 (Int.tdiv (wrap64 (a0_1 + a0_3)) 2)))).heap[gb339]? = some (.cells #[.int .i64 a0_0,.int .i64 a0_1,.int .i64 a0_2,.int .i64 a0_3,.int .i64 a0_4,.int .i64 a0_5] 25 (0,0))):=⟨by (with_reducible repeat (first|refine bn ?_ _|refine bd ?_|refine ba ?_ _|refine bf ?_ NB339_350.out _|refine bf ?_ NB339_349.out _));exact BK339.out⟩;have n1_ : Aside0 (((((w153.setCell ⟨gb349,2,none⟩ (.int .i64 (wrap64 (Int.tdiv (wrap64 (a0_0 + a0_2)) 2)))).setCell ⟨gb349,3,none⟩ (.int .i64 (wrap64 (Int.tdiv (wrap64 (a0_1 + a0_3)) 2)))).setCell ⟨gb350,0,none⟩ (.int .i64 (wrap64 (Int.tdiv (wrap64 (a0_0 + a0_2)) 2)))).setCell ⟨gb350,1,none⟩ (.int .i64 (wrap64 (Int.tdiv (wrap64 (a0_1 + a0_3)) 2)))).heap[gb340]? = some (.cells #[.int .i64 (wrap64 (Int.tdiv (wrap64 (a0_0 + a0_2)) 2)),.int .i64 (wrap64 (Int.tdiv (wrap64 (a0_1 + a0_3)) 2))] 23 (0,0))):=⟨by (with_reducible repeat (first|refine bn ?_ _|refine bd ?_|refine ba ?_ _|refine bf ?_ NB340_350.out _|refine bf ?_ NB340_349.out _));exact BK340.out⟩;have n2_ : Aside0 (((((w153.setCell ⟨gb349,2,none⟩ (.int .i64 (wrap64 (Int.tdiv (wrap64 (a0_0 + a0_2)) 2)))).setCell ⟨gb349,3,none⟩ (.int .i64 (wrap64 (Int.tdiv (wrap64 (a0_1 + a0_3)) 2)))).setCell ⟨gb350,0,none⟩ (.int .i64 (wrap64 (Int.tdiv (wrap64 (a0_0 + a0_2)) 2)))).setCell ⟨gb350,1,none⟩ (.int .i64 (wrap64 (Int.tdiv (wrap64 (a0_1 + a0_3)) 2)))).heap[gb349]? = some (.cells #[.int .i64 a0_0,.int .i64 a0_1,.int .i64 (wrap64 (Int.tdiv (wrap64 (a0_0 + a0_2)) 2)),.int .i64 (wrap64 (Int.tdiv (wrap64 (a0_1 + a0_3)) 2)),.int .i64 a0_4,.int .i64 a0_5] 25 (0,0))):=⟨by (with_reducible repeat (first|refine bn ?_ _|refine bd ?_|refine ba ?_ _));refine bf ?_ NB349_350.out _;(with_reducible repeat (first|refine bn ?_ _|refine bd ?_|refine ba ?_ _));refine bf ?_ NB349_350.out _;(with_reducible repeat (first|refine bn ?_ _|refine bd ?_|refine ba ?_ _));refine bp (cs:=#[.int .i64 a0_0,.int .i64 a0_1,.int .i64 (wrap64 (Int.tdiv (wrap64 (a0_0 + a0_2)) 2)),.int .i64 a0_3,.int .i64 a0_4,.int .i64 a0_5]) ?_ 3 _ rfl;(with_reducible repeat (first|refine bn ?_ _|refine bd ?_|refine ba ?_ _));refine bp (cs:=#[.int .i64 a0_0,.int .i64 a0_1,.int .i64 a0_2,.int .i64 a0_3,.int .i64 a0_4,.int .i64 a0_5]) ?_ 2 _ rfl;(with_reducible repeat (first|refine bn ?_ _|refine bd ?_|refine ba ?_ _));exact BK349.out⟩;have n3_ : Aside0 (((((w153.setCell ⟨gb349,2,none⟩ (.int .i64 (wrap64 (Int.tdiv (wrap64 (a0_0 + a0_2)) 2)))).setCell ⟨gb349,3,none⟩ (.int .i64 (wrap64 (Int.tdiv (wrap64 (a0_1 + a0_3)) 2)))).setCell ⟨gb350,0,none⟩ (.int .i64 (wrap64 (Int.tdiv (wrap64 (a0_0 + a0_2)) 2)))).setCell ⟨gb350,1,none⟩ (.int .i64 (wrap64 (Int.tdiv (wrap64 (a0_1 + a0_3)) 2)))).heap[gb350]? = some (.cells #[.int .i64 (wrap64 (Int.tdiv (wrap64 (a0_0 + a0_2)) 2)),.int .i64 (wrap64 (Int.tdiv (wrap64 (a0_1 + a0_3)) 2)),.int .i64 a0_2,.int .i64 a0_3,.int .i64 a0_4,.int .i64 a0_5] 25 (0,0))):=⟨by (with_reducible repeat (first|refine bn ?_ _|refine bd ?_|refine ba ?_ _));refine bp (cs:=#[.int .i64 (wrap64 (Int.tdiv (wrap64 (a0_0 + a0_2)) 2)),.int .i64 a0_1,.int .i64 a0_2,.int .i64 a0_3,.int .i64 a0_4,.int .i64 a0_5]) ?_ 1 _ rfl;(with_reducible repeat (first|refine bn ?_ _|refine bd ?_|refine ba ?_ _));refine bp (cs:=#[.int .i64 a0_0,.int .i64 a0_1,.int .i64 a0_2,.int .i64 a0_3,.int .i64 a0_4,.int .i64 a0_5]) ?_ 0 _ rfl;(with_reducible repeat (first|refine bn ?_ _|refine bd ?_|refine ba ?_ _));refine bf ?_ NB350_349.out _;(with_reducible repeat (first|refine bn ?_ _|refine bd ?_|refine ba ?_ _));refine bf ?_ NB350_349.out _;(with_reducible repeat (first|refine bn ?_ _|refine bd ?_|refine ba ?_ _));exact BK350.out⟩;have n4_ : Aside0 (Below w.heap.size w ((((w153.setCell ⟨gb349,2,none⟩ (.int .i64 (wrap64 (Int.tdiv (wrap64 (a0_0 + a0_2)) 2)))).setCell ⟨gb349,3,none⟩ (.int .i64 (wrap64 (Int.tdiv (wrap64 (a0_1 + a0_3)) 2)))).setCell ⟨gb350,0,none⟩ (.int .i64 (wrap64 (Int.tdiv (wrap64 (a0_0 + a0_2)) 2)))).setCell ⟨gb350,1,none⟩ (.int .i64 (wrap64 (Int.tdiv (wrap64 (a0_1 + a0_3)) 2))))):=⟨by repeat (first|(with_reducible first|exact HB.out|apply sa|apply sn|apply sd|refine sy ?_ (by assumption))|exact HB.out)⟩;(try clear BK339);(try clear BK340);(try clear BK349);(try clear BK350);(try clear HB);generalize ((((w153.setCell ⟨gb349,2,none⟩ (.int .i64 (wrap64 (Int.tdiv (wrap64 (a0_0 + a0_2)) 2)))).setCell ⟨gb349,3,none⟩ (.int .i64 (wrap64 (Int.tdiv (wrap64 (a0_1 + a0_3)) 2)))).setCell ⟨gb350,0,none⟩ (.int .i64 (wrap64 (Int.tdiv (wrap64 (a0_0 + a0_2)) 2)))).setCell ⟨gb350,1,none⟩ (.int .i64 (wrap64 (Int.tdiv (wrap64 (a0_1 + a0_3)) 2)))) = w158 at n0_ n1_ n2_ n3_ n4_ ⊢;have BK339:=n0_;have BK340:=n1_;have BK349:=n2_;have BK350:=n3_;have HB:=n4_;clear n0_ n1_ n2_ n3_ n4_;replace BK339:=am (bd BK339.out);replace BK340:=am (bd BK340.out);replace BK349:=am (bd BK349.out);replace BK350:=am (bd BK350.out);replace HB:=am (sd HB.out);refine start_ (n:=19) (S:=fun w' => w'.cell? ⟨gb339,0,none⟩ = some (.int .i64 a0_0) ∧ w'.cell? ⟨gb339,1,none⟩ = some (.int .i64 a0_1) ∧ w'.cell? ⟨gb339,2,none⟩ = some (.int .i64 a0_2) ∧ w'.cell? ⟨gb339,3,none⟩ = some (.int .i64 a0_3) ∧ w'.cell? ⟨gb339,4,none⟩ = some (.int .i64 a0_4) ∧ w'.cell? ⟨gb339,5,none⟩ = some (.int .i64 a0_5) ∧ w'.cell? ⟨gb349,0,none⟩ = some (.int .i64 a0_0) ∧ w'.cell? ⟨gb349,1,none⟩ = some (.int .i64 a0_1) ∧ w'.cell? ⟨gb349,2,none⟩ = some (.int .i64 (wrap64 (Int.tdiv (wrap64 (a0_0 + a0_2)) 2))) ∧ w'.cell? ⟨gb349,3,none⟩ = some (.int .i64 (wrap64 (Int.tdiv (wrap64 (a0_1 + a0_3)) 2))) ∧ w'.cell? ⟨gb349,4,none⟩ = some (.int .i64 a0_4) ∧ w'.cell? ⟨gb349,5,none⟩ = some (.int .i64 a0_5) ∧ w'.cell? ⟨gb350,0,none⟩ = some (.int .i64 (wrap64 (Int.tdiv (wrap64 (a0_0 + a0_2)) 2))) ∧ w'.cell? ⟨gb350,1,none⟩ = some (.int .i64 (wrap64 (Int.tdiv (wrap64 (a0_1 + a0_3)) 2))) ∧ w'.cell? ⟨gb350,2,none⟩ = some (.int .i64 a0_2) ∧ w'.cell? ⟨gb350,3,none⟩ = some (.int .i64 a0_3) ∧ w'.cell? ⟨gb350,4,none⟩ = some (.int .i64 a0_4) ∧ w'.cell? ⟨gb350,5,none⟩ = some (.int .i64 a0_5)) (ds:=[]) #[false,false,false,false,false,false,false,false,false,false,false,false,false,false,false,false,false,false,false] (by kernel_rfl) rfl rfl ⟨(bc BK339.out 0).trans rfl,(bc BK339.out 1).trans rfl,(bc BK339.out 2).trans rfl,(bc BK339.out 3).trans rfl,(bc BK339.out 4).trans rfl,(bc BK339.out 5).trans rfl,(bc BK349.out 0).trans rfl,(bc BK349.out 1).trans rfl,(bc BK349.out 2).trans rfl,(bc BK349.out 3).trans rfl,(bc BK349.out 4).trans rfl,(bc BK349.out 5).trans rfl,(bc BK350.out 0).trans rfl,(bc BK350.out 1).trans rfl,(bc BK350.out 2).trans rfl,(bc BK350.out 3).trans rfl,(bc BK350.out 4).trans rfl,(bc BK350.out 5).trans rfl⟩ (fun hHeld => ?_);refine with_tabW celluloidlaw18_StrokeParts.tab6 celluloidlaw18_StrokeParts.bits6 (fun HT_ HW_ => ?_);generalize w158.drew = w159 at BK339 BK340 BK349 BK350 HB hHeld ⊢;refine pure_ (i:=1) (N:=some 77) (v:=?_) (a':=?_) #[false,true,false,false,false,false,false,false,false,false,false,false,false,false,false,false,false,false,false] rfl rfl (any_of HT_.out (by kernel_rfl)) (fun _ _ _ h => h) (Or.inl ⟨by rfl,?_⟩) ?_ ?_
            rotate_left
            · intro w'
              go_simp
              with_reducible rfl
            rotate_left
            · simp only [Act.put,q1,q2,q3,i64_w,i32_w]
              rfl
            refine pure_ (i:=2) (N:=some 78) (v:=?_) (a':=?_) #[false,true,true,false,false,false,false,false,false,false,false,false,false,false,false,false,false,false,false] rfl rfl (any_of HT_.out (by kernel_rfl)) (fun _ _ _ h => h) (Or.inl ⟨by rfl,?_⟩) ?_ ?_
            rotate_left
            · intro w'
              go_simp
              with_reducible rfl
            rotate_left
            · simp only [Act.put,q1,q2,q3,i64_w,i32_w]
              rfl
            refine pure_ (i:=5) (N:=some 81) (v:=?_) (a':=?_) #[false,true,true,false,false,true,false,false,false,false,false,false,false,false,false,false,false,false,false] rfl rfl (any_of HT_.out (by kernel_rfl)) (fun _ _ _ h => h) (Or.inl ⟨by rfl,?_⟩) ?_ ?_
            rotate_left
            · intro w'
              go_simp
              with_reducible rfl
            rotate_left
            · simp only [Act.put,q1,q2,q3,i64_w,i32_w]
              rfl
            refine pure_ (i:=6) (N:=some 82) (v:=?_) (a':=?_) #[false,true,true,false,false,true,true,false,false,false,false,false,false,false,false,false,false,false,false] rfl rfl (any_of HT_.out (by kernel_rfl)) (fun _ _ _ h => h) (Or.inl ⟨by rfl,?_⟩) ?_ ?_
            rotate_left
            · intro w'
              go_simp
              with_reducible rfl
            rotate_left
            · simp only [Act.put,q1,q2,q3,i64_w,i32_w]
              rfl
            refine take_ (i:=0) (N:=some 76) (v:=?_) (a':=?_) #[true,true,true,false,false,true,true,false,false,false,false,false,false,false,false,false,false,false,false] rfl rfl (take_ofW HT_.out HW_.out (by kernel_rfl)) (fun _ _ _ h => h) (Or.inl ⟨by rfl,?_⟩) hHeld ?_ ?_
            rotate_left
            · rintro w' ⟨s0,s1,s2,s3,s4,s5,s6,s7,s8,s9,s10,s11,s12,s13,s14,s15,s16,s17⟩
              go_simp
              with_reducible rfl
            rotate_left
            · simp only [Act.put,q1,q2,q3,i64_w,i32_w]
              rfl
            refine take_ (i:=4) (N:=some 80) (v:=?_) (a':=?_) #[true,true,true,false,true,true,true,false,false,false,false,false,false,false,false,false,false,false,false] rfl rfl (take_ofW HT_.out HW_.out (by kernel_rfl)) (fun _ _ _ h => h) (Or.inl ⟨by rfl,?_⟩) hHeld ?_ ?_
            rotate_left
            · rintro w' ⟨s0,s1,s2,s3,s4,s5,s6,s7,s8,s9,s10,s11,s12,s13,s14,s15,s16,s17⟩
              go_simp
              with_reducible rfl
            rotate_left
            · simp only [Act.put,q1,q2,q3,i64_w,i32_w]
              rfl
            refine one_ (i:=3) (N:=some 79) #[true,true,true,true,true,true,true,false,false,false,false,false,false,false,false,false,false,false,false] rfl rfl (one_of HT_.out (by kernel_rfl)) (by decide) (fun K hK => ?_);refine goes_ Try.func15 (by kernel_rfl) rfl #[.agg #[.int .i64 a0_0,.int .i64 a0_1,.int .i64 a0_2,.int .i64 a0_3,.int .i64 a0_4,.int .i64 a0_5],.int .i64 a1,.int .i64 a2] (by rfl) rfl rfl (by (try simp only [List.map_toArray,List.map_cons,List.map_nil]);first|done|rfl|(simp only [List.length_drop,List.length_take];rfl)) ?_
            with_reducible refine (stroke_Near.calls a0_0 a0_1 a0_2 a0_3 a0_4 a0_5 a1 a2 t351 _ A47.out).mono ?_
            rintro e w160 ⟨rfl,hb⟩
            refine ⟨_,rfl,?_⟩;replace BK339:=am (bw (by exact BK339.out) hb);replace BK340:=am (bw (by exact BK340.out) hb);replace BK349:=am (bw (by exact BK349.out) hb);replace BK350:=am (bw (by exact BK350.out) hb);replace HB:=am (ss (by repeat (first|(with_reducible first|exact HB.out|apply sa|apply sn|apply sd|refine sy ?_ (by assumption))|exact HB.out)) hb);(try clear hb);(try clear hb2);(try clear hk);(try clear hi);refine hK.out _ _ ⟨(bc BK339.out 0).trans rfl,(bc BK339.out 1).trans rfl,(bc BK339.out 2).trans rfl,(bc BK339.out 3).trans rfl,(bc BK339.out 4).trans rfl,(bc BK339.out 5).trans rfl,(bc BK349.out 0).trans rfl,(bc BK349.out 1).trans rfl,(bc BK349.out 2).trans rfl,(bc BK349.out 3).trans rfl,(bc BK349.out 4).trans rfl,(bc BK349.out 5).trans rfl,(bc BK350.out 0).trans rfl,(bc BK350.out 1).trans rfl,(bc BK350.out 2).trans rfl,(bc BK350.out 3).trans rfl,(bc BK350.out 4).trans rfl,(bc BK350.out 5).trans rfl⟩ (fun hHeld => ?_);clear hK K;refine norm_ (a':=?_) ?_ ?_
            rotate_left
            · show Act.put _ (some 79) _ = _
              simp only [Act.put,q1,q2,q3,i64_w,i32_w]
              rfl
            refine one_ (i:=7) (N:=some 83) #[true,true,true,true,true,true,true,true,false,false,false,false,false,false,false,false,false,false,false] rfl rfl (one_of HT_.out (by kernel_rfl)) (by decide) (fun K hK => ?_);refine goes_ Try.func15 (by kernel_rfl) rfl #[.agg #[.int .i64 a0_0,.int .i64 a0_1,.int .i64 (wrap64 (Int.tdiv (wrap64 (a0_0 + a0_2)) 2)),.int .i64 (wrap64 (Int.tdiv (wrap64 (a0_1 + a0_3)) 2)),.int .i64 a0_4,.int .i64 a0_5],.int .i64 a1,.int .i64 a2] (by rfl) rfl rfl (by (try simp only [List.map_toArray,List.map_cons,List.map_nil]);first|done|rfl|(simp only [List.length_drop,List.length_take];rfl)) ?_
            with_reducible refine (stroke_Near.calls a0_0 a0_1 (wrap64 (Int.tdiv (wrap64 (a0_0 + a0_2)) 2)) (wrap64 (Int.tdiv (wrap64 (a0_1 + a0_3)) 2)) a0_4 a0_5 a1 a2 false _ A48.out).mono ?_
            rintro e w161 ⟨rfl,hb⟩
            refine ⟨_,rfl,?_⟩;replace BK339:=am (bw (by exact BK339.out) hb);replace BK340:=am (bw (by exact BK340.out) hb);replace BK349:=am (bw (by exact BK349.out) hb);replace BK350:=am (bw (by exact BK350.out) hb);replace HB:=am (ss (by repeat (first|(with_reducible first|exact HB.out|apply sa|apply sn|apply sd|refine sy ?_ (by assumption))|exact HB.out)) hb);(try clear hb);(try clear hb2);(try clear hk);(try clear hi);refine hK.out _ _ ⟨(bc BK339.out 0).trans rfl,(bc BK339.out 1).trans rfl,(bc BK339.out 2).trans rfl,(bc BK339.out 3).trans rfl,(bc BK339.out 4).trans rfl,(bc BK339.out 5).trans rfl,(bc BK349.out 0).trans rfl,(bc BK349.out 1).trans rfl,(bc BK349.out 2).trans rfl,(bc BK349.out 3).trans rfl,(bc BK349.out 4).trans rfl,(bc BK349.out 5).trans rfl,(bc BK350.out 0).trans rfl,(bc BK350.out 1).trans rfl,(bc BK350.out 2).trans rfl,(bc BK350.out 3).trans rfl,(bc BK350.out 4).trans rfl,(bc BK350.out 5).trans rfl⟩ (fun hHeld => ?_);clear hK K;refine norm_ (a':=?_) ?_ ?_
            rotate_left
            · show Act.put _ (some 83) _ = _
              simp only [Act.put,q1,q2,q3,i64_w,i32_w]
              rfl
            refine pure_ (i:=8) (N:=some 84) (v:=?_) (a':=?_) #[true,true,true,true,true,true,true,true,true,false,false,false,false,false,false,false,false,false,false] rfl rfl (any_of HT_.out (by kernel_rfl)) (fun _ _ _ h => h) (Or.inl ⟨by rfl,?_⟩) ?_ ?_
            rotate_left
            · intro w'
              go_simp
              with_reducible rfl
            rotate_left
            · simp only [Act.put,q1,q2,q3,i64_w,i32_w]
              rfl
            refine pure_ (i:=10) (N:=some 86) (v:=?_) (a':=?_) #[true,true,true,true,true,true,true,true,true,false,true,false,false,false,false,false,false,false,false] rfl rfl (any_of HT_.out (by kernel_rfl)) (fun _ _ _ h => h) (Or.inl ⟨by rfl,?_⟩) ?_ ?_
            rotate_left
            · intro w'
              go_simp
              with_reducible rfl
            rotate_left
            · simp only [Act.put,q1,q2,q3,i64_w,i32_w]
              rfl
            refine pure_ (i:=11) (N:=some 87) (v:=?_) (a':=?_) #[true,true,true,true,true,true,true,true,true,false,true,true,false,false,false,false,false,false,false] rfl rfl (any_of HT_.out (by kernel_rfl)) (fun _ _ _ h => h) (Or.inl ⟨by rfl,?_⟩) ?_ ?_
            rotate_left
            · intro w'
              go_simp
              with_reducible rfl
            rotate_left
            · simp only [Act.put,q1,q2,q3,i64_w,i32_w]
              rfl
            refine take_ (i:=9) (N:=some 85) (v:=?_) (a':=?_) #[true,true,true,true,true,true,true,true,true,true,true,true,false,false,false,false,false,false,false] rfl rfl (take_ofW HT_.out HW_.out (by kernel_rfl)) (fun _ _ _ h => h) (Or.inl ⟨by rfl,?_⟩) hHeld ?_ ?_
            rotate_left
            · rintro w' ⟨s0,s1,s2,s3,s4,s5,s6,s7,s8,s9,s10,s11,s12,s13,s14,s15,s16,s17⟩
              go_simp
              with_reducible rfl
            rotate_left
            · simp only [Act.put,q1,q2,q3,i64_w,i32_w]
              rfl
            refine one_ (i:=12) (N:=some 88) #[true,true,true,true,true,true,true,true,true,true,true,true,true,false,false,false,false,false,false] rfl rfl (one_of HT_.out (by kernel_rfl)) (by decide) (fun K hK => ?_);refine goes_ Try.func15 (by kernel_rfl) rfl #[.agg #[.int .i64 (wrap64 (Int.tdiv (wrap64 (a0_0 + a0_2)) 2)),.int .i64 (wrap64 (Int.tdiv (wrap64 (a0_1 + a0_3)) 2)),.int .i64 a0_2,.int .i64 a0_3,.int .i64 a0_4,.int .i64 a0_5],.int .i64 a1,.int .i64 a2] (by rfl) rfl rfl (by (try simp only [List.map_toArray,List.map_cons,List.map_nil]);first|done|rfl|(simp only [List.length_drop,List.length_take];rfl)) ?_
            with_reducible refine (stroke_Near.calls (wrap64 (Int.tdiv (wrap64 (a0_0 + a0_2)) 2)) (wrap64 (Int.tdiv (wrap64 (a0_1 + a0_3)) 2)) a0_2 a0_3 a0_4 a0_5 a1 a2 t354 _ A105.out).mono ?_
            rintro e w162 ⟨rfl,hb⟩
            refine ⟨_,rfl,?_⟩;replace BK339:=am (bw (by exact BK339.out) hb);replace BK340:=am (bw (by exact BK340.out) hb);replace BK349:=am (bw (by exact BK349.out) hb);replace BK350:=am (bw (by exact BK350.out) hb);replace HB:=am (ss (by repeat (first|(with_reducible first|exact HB.out|apply sa|apply sn|apply sd|refine sy ?_ (by assumption))|exact HB.out)) hb);(try clear hb);(try clear hb2);(try clear hk);(try clear hi);refine hK.out _ _ ⟨(bc BK339.out 0).trans rfl,(bc BK339.out 1).trans rfl,(bc BK339.out 2).trans rfl,(bc BK339.out 3).trans rfl,(bc BK339.out 4).trans rfl,(bc BK339.out 5).trans rfl,(bc BK349.out 0).trans rfl,(bc BK349.out 1).trans rfl,(bc BK349.out 2).trans rfl,(bc BK349.out 3).trans rfl,(bc BK349.out 4).trans rfl,(bc BK349.out 5).trans rfl,(bc BK350.out 0).trans rfl,(bc BK350.out 1).trans rfl,(bc BK350.out 2).trans rfl,(bc BK350.out 3).trans rfl,(bc BK350.out 4).trans rfl,(bc BK350.out 5).trans rfl⟩ (fun hHeld => ?_);clear hK K;refine norm_ (a':=?_) ?_ ?_
            rotate_left
            · show Act.put _ (some 88) _ = _
              simp only [Act.put,q1,q2,q3,i64_w,i32_w]
              rfl
            refine pure_ (i:=13) (N:=some 89) (v:=?_) (a':=?_) #[true,true,true,true,true,true,true,true,true,true,true,true,true,true,false,false,false,false,false] rfl rfl (any_of HT_.out (by kernel_rfl)) (fun _ _ _ h => h) (Or.inl ⟨by rfl,?_⟩) ?_ ?_
            rotate_left
            · intro w'
              go_simp
              with_reducible rfl
            rotate_left
            · simp only [Act.put,q1,q2,q3,i64_w,i32_w]
              rfl
            refine pure_ (i:=14) (N:=some 90) (v:=?_) (a':=?_) #[true,true,true,true,true,true,true,true,true,true,true,true,true,true,true,false,false,false,false] rfl rfl (any_of HT_.out (by kernel_rfl)) (fun _ _ _ h => h) (Or.inl ⟨by rfl,?_⟩) ?_ ?_
            rotate_left
            · intro w'
              go_simp
              with_reducible rfl
            rotate_left
            · simp only [Act.put,q1,q2,q3,i64_w,i32_w]
              rfl
            refine pure_ (i:=15) (N:=some 91) (v:=?_) (a':=?_) #[true,true,true,true,true,true,true,true,true,true,true,true,true,true,true,true,false,false,false] rfl rfl (any_of HT_.out (by kernel_rfl)) (fun _ _ _ h => h) (Or.inl ⟨by rfl,?_⟩) ?_ ?_
            rotate_left
            · intro w'
              go_simp
              with_reducible rfl
            rotate_left
            · simp only [Act.put,q1,q2,q3,i64_w,i32_w]
              rfl
            refine pure_ (i:=16) (N:=some 92) (v:=undef) (a':=?_) #[true,true,true,true,true,true,true,true,true,true,true,true,true,true,true,true,true,false,false] rfl rfl (any_of HT_.out (by kernel_rfl)) (fun _ _ _ h => h) (Or.inr ⟨by rfl,rfl⟩) ?_ ?_
            rotate_left
            · simp only [Act.put,q1,q2,q3,i64_w,i32_w]
              rfl
            refine pure_ (i:=17) (N:=some 93) (v:=?_) (a':=?_) #[true,true,true,true,true,true,true,true,true,true,true,true,true,true,true,true,true,true,false] rfl rfl (any_of HT_.out (by kernel_rfl)) (fun _ _ _ h => h) (Or.inl ⟨by rfl,?_⟩) ?_ ?_
            rotate_left
            · intro w'
              go_simp
              with_reducible rfl
            rotate_left
            · simp only [Act.put,q1,q2,q3,i64_w,i32_w]
              rfl
            refine pure_ (i:=18) (N:=some 6) (v:=?_) (a':=?_) #[true,true,true,true,true,true,true,true,true,true,true,true,true,true,true,true,true,true,true] rfl rfl (any_of HT_.out (by kernel_rfl)) (fun _ _ _ h => h) (Or.inl ⟨by rfl,?_⟩) ?_ ?_
            rotate_left
            · intro w'
              go_simp
              with_reducible rfl
            rotate_left
            · simp only [Act.put,q1,q2,q3,i64_w,i32_w]
              rfl
            refine done_ (done_of HT_.out (by kernel_rfl)) ?_
            try go_wp2
            go_ret
            exact ⟨by first|rfl|(simp [errW_none,errW_some] <;> rfl)|(simp [*,errW_none,errW_some] <;> rfl),by repeat (first|(with_reducible first|exact HB.out|apply sa|apply sn|apply sd|refine sy ?_ (by assumption))|exact HB.out)⟩

end Go.Proofs.Ytnofihkmgedbfaa.P
