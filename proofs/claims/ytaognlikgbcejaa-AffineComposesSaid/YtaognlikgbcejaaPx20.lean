/- Printed by printx.py (wip/tool) out of the translation: plain functions that tell what the program answers,and the proofs that the program comes to these answers,for all arguments of their kinds. Lean checks it. -/
import Derived.Test.YtaognlikgbcejaaShort
import Derived.Test.YtaognlikgbcejaaPx0
import Derived.Test.YtaognlikgbcejaaPx8
import Derived.Test.YtaognlikgbcejaaPx11
namespace Go.Proofs.Ytaognlikgbcejaa.P
open Go.RowKit Go.Proofs.YtaognlikgbcejaaW.PrintWords Go.Proofs.YtaognlikgbcejaaW.PrintLast Go.Proofs.YtaognlikgbcejaaW.PrintMore
attribute [local go_sem] max2_int min2_int max_two min_two max_three min_three max_four min_four max_five min_five max_six min_six   -- for this text's walks alone
set_option linter.unusedVariables false
set_option linter.unusedSimpArgs false

/-! ### celluloidref14_ComposeCx: function 29 -/
def celluloidref14_ComposeCx.l0 : Nat → Int → Int → Int → Int → Int → Int → Int → Int → Int → Int → Int → Int → Int → Int → Int → Int → Int → Int → Int → Int → Int → Int → Int → Int → Int → Option (Int × Int × Int × Int × Int × Int × Int × Int)
  | 0,_,_,_,_,_,_,_,_,_,_,_,_,_,_,_,_,_,_,_,_,_,_,_,_,_ => none
  | k + 1,x6,x441000,x441001,x441002,x441003,x441004,x441005,x441006,x441007,x442000,x442001,x442002,x442003,x442004,x442005,x442006,x442007,x444000,x444001,x444002,x444003,x444004,x444005,x444006,x444007 => if x6 < 4 then (if x6 = 0 then ((celluloidref14_floor.f (wrap64 (x441000 * x442000)) 256).bind fun t444 => ((celluloidref14_end.f t444 (-512) 512).bind fun t445 => ((celluloidref14_floor.f (wrap64 (x442004 * x441000)) 256).bind fun t446 => ((celluloidref14_end.f (wrap64 (t446 + x441004)) (-255) 255).bind fun t447 => (celluloidref14_ComposeCx.l0 k (0 + 1) x441000 x441001 x441002 x441003 x441004 x441005 x441006 x441007 x442000 x442001 x442002 x442003 x442004 x442005 x442006 x442007 t445 x444001 x444002 x444003 t447 x444005 x444006 x444007))))) else (if x6 = 1 then ((celluloidref14_floor.f (wrap64 (x441001 * x442001)) 256).bind fun t448 => ((celluloidref14_end.f t448 (-512) 512).bind fun t449 => ((celluloidref14_floor.f (wrap64 (x442005 * x441001)) 256).bind fun t450 => ((celluloidref14_end.f (wrap64 (t450 + x441005)) (-255) 255).bind fun t451 => (celluloidref14_ComposeCx.l0 k (1 + 1) x441000 x441001 x441002 x441003 x441004 x441005 x441006 x441007 x442000 x442001 x442002 x442003 x442004 x442005 x442006 x442007 x444000 t449 x444002 x444003 x444004 t451 x444006 x444007))))) else (if x6 = 2 then ((celluloidref14_floor.f (wrap64 (x441002 * x442002)) 256).bind fun t452 => ((celluloidref14_end.f t452 (-512) 512).bind fun t453 => ((celluloidref14_floor.f (wrap64 (x442006 * x441002)) 256).bind fun t454 => ((celluloidref14_end.f (wrap64 (t454 + x441006)) (-255) 255).bind fun t455 => (celluloidref14_ComposeCx.l0 k (2 + 1) x441000 x441001 x441002 x441003 x441004 x441005 x441006 x441007 x442000 x442001 x442002 x442003 x442004 x442005 x442006 x442007 x444000 x444001 t453 x444003 x444004 x444005 t455 x444007))))) else (if x6 = 3 then ((celluloidref14_floor.f (wrap64 (x441003 * x442003)) 256).bind fun t456 => ((celluloidref14_end.f t456 (-512) 512).bind fun t457 => ((celluloidref14_floor.f (wrap64 (x442007 * x441003)) 256).bind fun t458 => ((celluloidref14_end.f (wrap64 (t458 + x441007)) (-255) 255).bind fun t459 => (celluloidref14_ComposeCx.l0 k (3 + 1) x441000 x441001 x441002 x441003 x441004 x441005 x441006 x441007 x442000 x442001 x442002 x442003 x442004 x442005 x442006 x442007 x444000 x444001 x444002 t457 x444004 x444005 x444006 t459))))) else (none))))) else (some (x444000,x444001,x444002,x444003,x444004,x444005,x444006,x444007))
def celluloidref14_ComposeCx.f (k : Nat) (a0_0 : Int) (a0_1 : Int) (a0_2 : Int) (a0_3 : Int) (a0_4 : Int) (a0_5 : Int) (a0_6 : Int) (a0_7 : Int) (a1_0 : Int) (a1_1 : Int) (a1_2 : Int) (a1_3 : Int) (a1_4 : Int) (a1_5 : Int) (a1_6 : Int) (a1_7 : Int) : Option (Int × Int × Int × Int × Int × Int × Int × Int):=celluloidref14_ComposeCx.l0 k 0 a0_0 a0_1 a0_2 a0_3 a0_4 a0_5 a0_6 a0_7 a1_0 a1_1 a1_2 a1_3 a1_4 a1_5 a1_6 a1_7 0 0 0 0 0 0 0 0
theorem celluloidref14_ComposeCx.mono_l : ∀ k,(∀ y0 y1 y2 y3 y4 y5 y6 y7 y8 y9 y10 y11 y12 y13 y14 y15 y16 y17 y18 y19 y20 y21 y22 y23 y24,LeO (celluloidref14_ComposeCx.l0 k y0 y1 y2 y3 y4 y5 y6 y7 y8 y9 y10 y11 y12 y13 y14 y15 y16 y17 y18 y19 y20 y21 y22 y23 y24) (celluloidref14_ComposeCx.l0 (k + 1) y0 y1 y2 y3 y4 y5 y6 y7 y8 y9 y10 y11 y12 y13 y14 y15 y16 y17 y18 y19 y20 y21 y22 y23 y24))
  | 0 => fun _ _ _ _ _ _ _ _ _ _ _ _ _ _ _ _ _ _ _ _ _ _ _ _ _ r h => by simp [celluloidref14_ComposeCx.l0] at h
  | k + 1 => by
    have ih0:=celluloidref14_ComposeCx.mono_l k
    · intro y0 y1 y2 y3 y4 y5 y6 y7 y8 y9 y10 y11 y12 y13 y14 y15 y16 y17 y18 y19 y20 y21 y22 y23 y24
      unfold celluloidref14_ComposeCx.l0
      repeat' first
      | (with_reducible exact ih0 _ _ _ _ _ _ _ _ _ _ _ _ _ _ _ _ _ _ _ _ _ _ _ _ _)
      | (with_reducible exact LeO.refl _)
      | (with_reducible exact LeO.none _)
      | (with_reducible refine LeO.ite ?_ ?_)
      | (with_reducible refine LeO.bind ?_ (fun _ => ?_))
      | exact ih0 _ _ _ _ _ _ _ _ _ _ _ _ _ _ _ _ _ _ _ _ _ _ _ _ _
      | exact LeO.none _
      | refine LeO.ite ?_ ?_
      | refine LeO.bind ?_ (fun _ => ?_)
theorem celluloidref14_ComposeCx.mono : ∀ a0 a1 a2 a3 a4 a5 a6 a7 a8 a9 a10 a11 a12 a13 a14 a15 k,LeO (celluloidref14_ComposeCx.f k a0 a1 a2 a3 a4 a5 a6 a7 a8 a9 a10 a11 a12 a13 a14 a15) (celluloidref14_ComposeCx.f (k + 1) a0 a1 a2 a3 a4 a5 a6 a7 a8 a9 a10 a11 a12 a13 a14 a15):=by
  intro a0 a1 a2 a3 a4 a5 a6 a7 a8 a9 a10 a11 a12 a13 a14 a15 k
  have ih0:=celluloidref14_ComposeCx.mono_l k
  unfold celluloidref14_ComposeCx.f
  repeat' first
      | (with_reducible exact ih0 _ _ _ _ _ _ _ _ _ _ _ _ _ _ _ _ _ _ _ _ _ _ _ _ _)
      | (with_reducible exact LeO.refl _)
      | (with_reducible exact LeO.none _)
      | (with_reducible refine LeO.ite ?_ ?_)
      | (with_reducible refine LeO.bind ?_ (fun _ => ?_))
      | exact ih0 _ _ _ _ _ _ _ _ _ _ _ _ _ _ _ _ _ _ _ _ _ _ _ _ _
      | exact LeO.none _
      | refine LeO.ite ?_ ?_
      | refine LeO.bind ?_ (fun _ => ?_)
def celluloidref14_ComposeCx.T5 : Bool × List (List Nat × List Nat):=(true,[([],[]),([],[]),([],[]),([2,1],[1,2]),([3],[3]),([],[]),([],[]),([6,5],[5,6]),([7],[7]),([4,8],[4,8]),([9],[9]),([10,10],[10]),([],[]),([12,0,0,1,2,3,4,5,6,7,8,9,10,11],[0,12]),([13,11,11,0,1,2,3,4,5,6,7,8,9,10,11],[11,13])])
def celluloidref14_ComposeCx.B5 : List Nat:=[0,0,0,6,14,0,0,96,224,510,1022,2046,0,8191,16383]
theorem celluloidref14_ComposeCx.tab5 : rtab .any (opsOf Try.f29 5) = celluloidref14_ComposeCx.T5:=by kernel_rfl
theorem celluloidref14_ComposeCx.bits5 : waitsOk celluloidref14_ComposeCx.T5.2 celluloidref14_ComposeCx.B5 = true:=by kernel_rfl
def celluloidref14_ComposeCx.T6 : Bool × List (List Nat × List Nat):=(true,[([],[]),([],[]),([],[]),([2,1],[1,2]),([3],[3]),([],[]),([],[]),([6,5],[5,6]),([7],[7]),([4,8],[4,8]),([9],[9]),([],[]),([],[]),([12,11],[11,12]),([13],[13]),([10,14],[10,14]),([15,10],[15]),([],[]),([17,0,0,1,2,3,4,5,6,7,8,9,10,11,12,13,14,15,16],[0,17]),([18,16,16,0,1,2,3,4,5,6,7,8,9,10,11,12,13,14,15,16],[16,18])])
def celluloidref14_ComposeCx.B6 : List Nat:=[0,0,0,6,14,0,0,96,224,510,1022,0,0,6144,14336,32766,65534,0,262143,524287]
theorem celluloidref14_ComposeCx.tab6 : rtab .any (opsOf Try.f29 6) = celluloidref14_ComposeCx.T6:=by kernel_rfl
theorem celluloidref14_ComposeCx.bits6 : waitsOk celluloidref14_ComposeCx.T6.2 celluloidref14_ComposeCx.B6 = true:=by kernel_rfl
set_option maxHeartbeats 8000000 in
set_option maxRecDepth 100000 in
theorem celluloidref14_ComposeCx.calls (k : Nat) (a0_0 : Int) (a0_1 : Int) (a0_2 : Int) (a0_3 : Int) (a0_4 : Int) (a0_5 : Int) (a0_6 : Int) (a0_7 : Int) (a1_0 : Int) (a1_1 : Int) (a1_2 : Int) (a1_3 : Int) (a1_4 : Int) (a1_5 : Int) (a1_6 : Int) (a1_7 : Int) (r1 : Int) (r2 : Int) (r3 : Int) (r4 : Int) (r5 : Int) (r6 : Int) (r7 : Int) (r8 : Int) (w : World) (h : celluloidref14_ComposeCx.f k a0_0 a0_1 a0_2 a0_3 a0_4 a0_5 a0_6 a0_7 a1_0 a1_1 a1_2 a1_3 a1_4 a1_5 a1_6 a1_7 = some (r1,r2,r3,r4,r5,r6,r7,r8)) :
    Calls Try.prog 29 #[.agg #[.int .i64 a0_0,.int .i64 a0_1,.int .i64 a0_2,.int .i64 a0_3,.int .i64 a0_4,.int .i64 a0_5,.int .i64 a0_6,.int .i64 a0_7],.agg #[.int .i64 a1_0,.int .i64 a1_1,.int .i64 a1_2,.int .i64 a1_3,.int .i64 a1_4,.int .i64 a1_5,.int .i64 a1_6,.int .i64 a1_7]] w fun e w' => e = .returned (.agg #[.int .i64 r1,.int .i64 r2,.int .i64 r3,.int .i64 r4,.int .i64 r5,.int .i64 r6,.int .i64 r7,.int .i64 r8]) ∧ Below w.heap.size w w':=by
  have hu41:=Try.underlying41;have HB:=am (Below.refl w.heap.size w);have H : (celluloidref14_ComposeCx.l0 k 0 a0_0 a0_1 a0_2 a0_3 a0_4 a0_5 a0_6 a0_7 a1_0 a1_1 a1_2 a1_3 a1_4 a1_5 a1_6 a1_7 0 0 0 0 0 0 0 0) = some (r1,r2,r3,r4,r5,r6,r7,r8):=h;clear h;have H':=am H;clear H
  go_enter Try.func29,Try.ntmps29
  go_wp2_with (first|((with_reducible refine gate_dst (N:=2) rfl ?_);refine box_event ?hg (N:=2) ?hd (cs:=#[.int .i64 a0_0,.int .i64 a0_1,.int .i64 a0_2,.int .i64 a0_3,.int .i64 a0_4,.int .i64 a0_5,.int .i64 a0_6,.int .i64 a0_7]) (t:=41) ?hr ?_;(case hd => rfl);(case hg => rfl);(case hr => first|(go_simp;done)|(go_simp;rfl));intro gb440 hg w3 hbox hb;have BK440:=am (hbox);have GW440:=am ((by rw [hg];exact (sz (by repeat (first|(with_reducible first|exact HB.out|apply sa|apply sn|apply sd)|exact HB.out))) : w.heap.size ≤ gb440));have GE440:=am ((by rw [hg];exact (sz (by repeat (first|(with_reducible first|exact HB.out|apply sa|apply sn|apply sd)|exact HB.out))) : w.heap.size ≤ gb440));replace HB:=am (ss (by repeat (first|(with_reducible first|exact HB.out|apply sa|apply sn|apply sd)|exact HB.out)) hb);clear hb hbox hg)|((with_reducible refine gate_dst (N:=3) rfl ?_);refine box_event ?hg (N:=3) ?hd (cs:=#[.int .i64 a1_0,.int .i64 a1_1,.int .i64 a1_2,.int .i64 a1_3,.int .i64 a1_4,.int .i64 a1_5,.int .i64 a1_6,.int .i64 a1_7]) (t:=41) ?hr ?_;(case hd => rfl);(case hg => rfl);(case hr => first|(go_simp;done)|(go_simp;rfl));intro gb441 hg w4 hbox hb;have BK441:=am (hbox);obtain ⟨h1_,GW441⟩:=sg (by repeat (first|(with_reducible first|exact HB.out|apply sa|apply sn|apply sd|refine sx ?_ GE440.out)|exact HB.out)) hb hg;replace HB:=h1_;clear h1_;have GE441:=GW441;have NB440_441:=nb (by exact BK440.out) hg;have NB441_440:=ng (by exact BK440.out) hg;replace BK440:=am (bw (by exact BK440.out) hb);clear hb hbox hg)|((with_reducible refine gate_dst (N:=4) rfl ?_);refine box_event ?hg (N:=4) ?hd (cs:=#[.int .i64 0,.int .i64 0,.int .i64 0,.int .i64 0,.int .i64 0,.int .i64 0,.int .i64 0,.int .i64 0]) (t:=41) ?hr ?_;(case hd => rfl);(case hg => rfl);(case hr => first|(go_simp;done)|(go_simp;rfl));intro gb442 hg w5 hbox hb;have BK442:=am (hbox);obtain ⟨h1_,GW442⟩:=sg (by repeat (first|(with_reducible first|exact HB.out|apply sa|apply sn|apply sd|refine sy ?_ (by assumption))|exact HB.out)) hb hg;replace HB:=h1_;clear h1_;have GE442:=GW442;have NB440_442:=nb (by exact BK440.out) hg;replace BK440:=am (bw (by exact BK440.out) hb);have NB442_440:=am (Ne.symm NB440_442.out);have NB441_442:=nb (by exact BK441.out) hg;have NB442_441:=ng (by exact BK441.out) hg;replace BK441:=am (bw (by exact BK441.out) hb);clear hb hbox hg)|((with_reducible refine gate_dst (N:=5) rfl ?_);refine box_event ?hg (N:=5) ?hd (cs:=#[.int .i64 0,.int .i64 0,.int .i64 0,.int .i64 0,.int .i64 0,.int .i64 0,.int .i64 0,.int .i64 0]) (t:=41) ?hr ?_;(case hd => rfl);(case hg => rfl);(case hr => first|(go_simp;done)|(go_simp;rfl));intro gb443 hg w6 hbox hb;have BK443:=am (hbox);obtain ⟨h1_,GW443⟩:=sg (by repeat (first|(with_reducible first|exact HB.out|apply sa|apply sn|apply sd|refine sy ?_ (by assumption))|exact HB.out)) hb hg;replace HB:=h1_;clear h1_;have GE443:=GW443;have NB440_443:=nb (by exact BK440.out) hg;replace BK440:=am (bw (by exact BK440.out) hb);have NB443_440:=am (Ne.symm NB440_443.out);have NB441_443:=nb (by exact BK441.out) hg;replace BK441:=am (bw (by exact BK441.out) hb);have NB443_441:=am (Ne.symm NB441_443.out);have NB442_443:=nb (by exact BK442.out) hg;have NB443_442:=ng (by exact BK442.out) hg;replace BK442:=am (bw (by exact BK442.out) hb);clear hb hbox hg))
  go_loopg [6] k (fun kq v6 w' => ∃ (x6_1 : Int) (x444000_1 : Int) (x444001_1 : Int) (x444002_1 : Int) (x444003_1 : Int) (x444004_1 : Int) (x444005_1 : Int) (x444006_1 : Int) (x444007_1 : Int),v6 = .int .i64 x6_1 ∧ Aside0 (celluloidref14_ComposeCx.l0 kq x6_1 a0_0 a0_1 a0_2 a0_3 a0_4 a0_5 a0_6 a0_7 a1_0 a1_1 a1_2 a1_3 a1_4 a1_5 a1_6 a1_7 x444000_1 x444001_1 x444002_1 x444003_1 x444004_1 x444005_1 x444006_1 x444007_1 = some (r1,r2,r3,r4,r5,r6,r7,r8)) ∧ Aside0 (kq ≤ k) ∧ Aside0 (w'.heap[gb440]? = some (.cells #[.int .i64 a0_0,.int .i64 a0_1,.int .i64 a0_2,.int .i64 a0_3,.int .i64 a0_4,.int .i64 a0_5,.int .i64 a0_6,.int .i64 a0_7] 41 (0,0))) ∧ Aside0 (w'.heap[gb441]? = some (.cells #[.int .i64 a1_0,.int .i64 a1_1,.int .i64 a1_2,.int .i64 a1_3,.int .i64 a1_4,.int .i64 a1_5,.int .i64 a1_6,.int .i64 a1_7] 41 (0,0))) ∧ Aside0 (w'.heap[gb442]? = some (.cells #[.int .i64 0,.int .i64 0,.int .i64 0,.int .i64 0,.int .i64 0,.int .i64 0,.int .i64 0,.int .i64 0] 41 (0,0))) ∧ Aside0 (w'.heap[gb443]? = some (.cells #[.int .i64 x444000_1,.int .i64 x444001_1,.int .i64 x444002_1,.int .i64 x444003_1,.int .i64 x444004_1,.int .i64 x444005_1,.int .i64 x444006_1,.int .i64 x444007_1] 41 (0,0))) ∧ Aside0 (Below w.heap.size w w'))
  case atStart => exact ⟨(0),(0),(0),(0),(0),(0),(0),(0),(0),(by first|rfl|(simp;done)|(simp [*];done)),H',⟨Nat.le_refl _⟩,⟨by exact BK440.out⟩,⟨by exact BK441.out⟩,⟨by exact BK442.out⟩,⟨by exact BK443.out⟩,⟨by repeat (first|(with_reducible first|exact HB.out|apply sa|apply sn|apply sd|refine sy ?_ (by assumption))|exact HB.out)⟩⟩
  case round =>
    clear H'
    try clear c2
    try clear p2
    obtain ⟨x6_1,x444000_1,x444001_1,x444002_1,x444003_1,x444004_1,x444005_1,x444006_1,x444007_1,rfl,HA,HK1,BK440,BK441,BK442,BK443,HB⟩:=hrel
    cases gk with
    | zero => exact absurd HA.out (by simp [celluloidref14_ComposeCx.l0])
    | succ k1 =>
      have H:=HA.out;clear HA;simp only [celluloidref14_ComposeCx.l0] at H
      by_cases c7 : x6_1 < 4
      · rw [if_pos c7] at H
        have c7b0 : decide (x6_1 < 4) = true:=decide_eq_true c7;clear c7
        by_cases c8 : x6_1 = 0
        · subst c8
          have H1 : ((celluloidref14_floor.f (wrap64 (a0_0 * a1_0)) 256).bind fun t444 => ((celluloidref14_end.f t444 (-512) 512).bind fun t445 => ((celluloidref14_floor.f (wrap64 (a1_4 * a0_0)) 256).bind fun t446 => ((celluloidref14_end.f (wrap64 (t446 + a0_4)) (-255) 255).bind fun t447 => (celluloidref14_ComposeCx.l0 k1 (0 + 1) a0_0 a0_1 a0_2 a0_3 a0_4 a0_5 a0_6 a0_7 a1_0 a1_1 a1_2 a1_3 a1_4 a1_5 a1_6 a1_7 t445 x444001_1 x444002_1 x444003_1 t447 x444005_1 x444006_1 x444007_1))))) = some (r1,r2,r3,r4,r5,r6,r7,r8):=by rw [if_pos rfl] at H;exact H
          clear H;have H:=H1;clear H1;replace H:=Option.bind_eq_some_iff.mp H;obtain ⟨t444,A90,H⟩:=H;replace H : ((celluloidref14_end.f t444 (-512) 512).bind fun t445 => ((celluloidref14_floor.f (wrap64 (a1_4 * a0_0)) 256).bind fun t446 => ((celluloidref14_end.f (wrap64 (t446 + a0_4)) (-255) 255).bind fun t447 => (celluloidref14_ComposeCx.l0 k1 (0 + 1) a0_0 a0_1 a0_2 a0_3 a0_4 a0_5 a0_6 a0_7 a1_0 a1_1 a1_2 a1_3 a1_4 a1_5 a1_6 a1_7 t445 x444001_1 x444002_1 x444003_1 t447 x444005_1 x444006_1 x444007_1)))) = some (r1,r2,r3,r4,r5,r6,r7,r8):=H;have A9:=am A90;clear A90;replace H:=Option.bind_eq_some_iff.mp H;obtain ⟨t445,A100,H⟩:=H;replace H : ((celluloidref14_floor.f (wrap64 (a1_4 * a0_0)) 256).bind fun t446 => ((celluloidref14_end.f (wrap64 (t446 + a0_4)) (-255) 255).bind fun t447 => (celluloidref14_ComposeCx.l0 k1 (0 + 1) a0_0 a0_1 a0_2 a0_3 a0_4 a0_5 a0_6 a0_7 a1_0 a1_1 a1_2 a1_3 a1_4 a1_5 a1_6 a1_7 t445 x444001_1 x444002_1 x444003_1 t447 x444005_1 x444006_1 x444007_1))) = some (r1,r2,r3,r4,r5,r6,r7,r8):=H;have A10:=am A100;clear A100;replace H:=Option.bind_eq_some_iff.mp H;obtain ⟨t446,A110,H⟩:=H;replace H : ((celluloidref14_end.f (wrap64 (t446 + a0_4)) (-255) 255).bind fun t447 => (celluloidref14_ComposeCx.l0 k1 (0 + 1) a0_0 a0_1 a0_2 a0_3 a0_4 a0_5 a0_6 a0_7 a1_0 a1_1 a1_2 a1_3 a1_4 a1_5 a1_6 a1_7 t445 x444001_1 x444002_1 x444003_1 t447 x444005_1 x444006_1 x444007_1)) = some (r1,r2,r3,r4,r5,r6,r7,r8):=H;have A11:=am A110;clear A110;replace H:=Option.bind_eq_some_iff.mp H;obtain ⟨t447,A120,H⟩:=H;replace H : (celluloidref14_ComposeCx.l0 k1 (0 + 1) a0_0 a0_1 a0_2 a0_3 a0_4 a0_5 a0_6 a0_7 a1_0 a1_1 a1_2 a1_3 a1_4 a1_5 a1_6 a1_7 t445 x444001_1 x444002_1 x444003_1 t447 x444005_1 x444006_1 x444007_1) = some (r1,r2,r3,r4,r5,r6,r7,r8):=H;have A12:=am A120;clear A120;have H':=am H;clear H
          try go_wp2
          replace BK440:=am (bd BK440.out);replace BK441:=am (bd BK441.out);replace BK442:=am (bd BK442.out);replace BK443:=am (bd BK443.out);replace HB:=am (sd HB.out);refine start_ (n:=15) (S:=fun w' => w'.cell? ⟨gb440,0,none⟩ = some (.int .i64 a0_0) ∧ w'.cell? ⟨gb440,1,none⟩ = some (.int .i64 a0_1) ∧ w'.cell? ⟨gb440,2,none⟩ = some (.int .i64 a0_2) ∧ w'.cell? ⟨gb440,3,none⟩ = some (.int .i64 a0_3) ∧ w'.cell? ⟨gb440,4,none⟩ = some (.int .i64 a0_4) ∧ w'.cell? ⟨gb440,5,none⟩ = some (.int .i64 a0_5) ∧ w'.cell? ⟨gb440,6,none⟩ = some (.int .i64 a0_6) ∧ w'.cell? ⟨gb440,7,none⟩ = some (.int .i64 a0_7) ∧ w'.cell? ⟨gb441,0,none⟩ = some (.int .i64 a1_0) ∧ w'.cell? ⟨gb441,1,none⟩ = some (.int .i64 a1_1) ∧ w'.cell? ⟨gb441,2,none⟩ = some (.int .i64 a1_2) ∧ w'.cell? ⟨gb441,3,none⟩ = some (.int .i64 a1_3) ∧ w'.cell? ⟨gb441,4,none⟩ = some (.int .i64 a1_4) ∧ w'.cell? ⟨gb441,5,none⟩ = some (.int .i64 a1_5) ∧ w'.cell? ⟨gb441,6,none⟩ = some (.int .i64 a1_6) ∧ w'.cell? ⟨gb441,7,none⟩ = some (.int .i64 a1_7)) (ds:=[]) #[false,false,false,false,false,false,false,false,false,false,false,false,false,false,false] (by kernel_rfl) rfl rfl ⟨(bc BK440.out 0).trans rfl,(bc BK440.out 1).trans rfl,(bc BK440.out 2).trans rfl,(bc BK440.out 3).trans rfl,(bc BK440.out 4).trans rfl,(bc BK440.out 5).trans rfl,(bc BK440.out 6).trans rfl,(bc BK440.out 7).trans rfl,(bc BK441.out 0).trans rfl,(bc BK441.out 1).trans rfl,(bc BK441.out 2).trans rfl,(bc BK441.out 3).trans rfl,(bc BK441.out 4).trans rfl,(bc BK441.out 5).trans rfl,(bc BK441.out 6).trans rfl,(bc BK441.out 7).trans rfl⟩ (fun hHeld => ?_);refine with_tabW celluloidref14_ComposeCx.tab5 celluloidref14_ComposeCx.bits5 (fun HT_ HW_ => ?_);generalize wr.drew = w13 at BK440 BK441 BK442 BK443 HB hHeld ⊢;refine pure_ (i:=0) (N:=some 11) (v:=?_) (a':=?_) #[true,false,false,false,false,false,false,false,false,false,false,false,false,false,false] rfl rfl (any_of HT_.out (by kernel_rfl)) (fun _ _ _ h => h) (Or.inl ⟨by rfl,?_⟩) ?_ ?_
          rotate_left
          · intro w'
            go_simp
            with_reducible rfl
          rotate_left
          · simp only [Act.put,q1,q2,q3,i64_w,i32_w]
            rfl
          refine pure_ (i:=1) (N:=some 12) (v:=?_) (a':=?_) #[true,true,false,false,false,false,false,false,false,false,false,false,false,false,false] rfl rfl (any_of HT_.out (by kernel_rfl)) (fun _ _ _ h => h) (Or.inl ⟨by rfl,?_⟩) ?_ ?_
          rotate_left
          · intro w'
            go_simp
            with_reducible rfl
          rotate_left
          · simp only [Act.put,q1,q2,q3,i64_w,i32_w]
            rfl
          refine pure_ (i:=2) (N:=some 13) (v:=?_) (a':=?_) #[true,true,true,false,false,false,false,false,false,false,false,false,false,false,false] rfl rfl (any_of HT_.out (by kernel_rfl)) (fun _ _ _ h => h) (Or.inl ⟨by rfl,?_⟩) ?_ ?_
          rotate_left
          · intro w'
            go_simp
            with_reducible rfl
          rotate_left
          · simp only [Act.put,q1,q2,q3,i64_w,i32_w]
            rfl
          refine pure_ (i:=3) (N:=some 14) (v:=?_) (a':=?_) #[true,true,true,true,false,false,false,false,false,false,false,false,false,false,false] rfl rfl (any_of HT_.out (by kernel_rfl)) (fun _ _ _ h => h) (Or.inl ⟨by rfl,?_⟩) ?_ ?_
          rotate_left
          · intro w'
            go_simp
            with_reducible rfl
          rotate_left
          · simp only [Act.put,q1,q2,q3,i64_w,i32_w]
            rfl
          refine pure_ (i:=5) (N:=some 16) (v:=?_) (a':=?_) #[true,true,true,true,false,true,false,false,false,false,false,false,false,false,false] rfl rfl (any_of HT_.out (by kernel_rfl)) (fun _ _ _ h => h) (Or.inl ⟨by rfl,?_⟩) ?_ ?_
          rotate_left
          · intro w'
            go_simp
            with_reducible rfl
          rotate_left
          · simp only [Act.put,q1,q2,q3,i64_w,i32_w]
            rfl
          refine pure_ (i:=6) (N:=some 17) (v:=?_) (a':=?_) #[true,true,true,true,false,true,true,false,false,false,false,false,false,false,false] rfl rfl (any_of HT_.out (by kernel_rfl)) (fun _ _ _ h => h) (Or.inl ⟨by rfl,?_⟩) ?_ ?_
          rotate_left
          · intro w'
            go_simp
            with_reducible rfl
          rotate_left
          · simp only [Act.put,q1,q2,q3,i64_w,i32_w]
            rfl
          refine pure_ (i:=7) (N:=some 18) (v:=?_) (a':=?_) #[true,true,true,true,false,true,true,true,false,false,false,false,false,false,false] rfl rfl (any_of HT_.out (by kernel_rfl)) (fun _ _ _ h => h) (Or.inl ⟨by rfl,?_⟩) ?_ ?_
          rotate_left
          · intro w'
            go_simp
            with_reducible rfl
          rotate_left
          · simp only [Act.put,q1,q2,q3,i64_w,i32_w]
            rfl
          refine pure_ (i:=12) (N:=some 23) (v:=?_) (a':=?_) #[true,true,true,true,false,true,true,true,false,false,false,false,true,false,false] rfl rfl (any_of HT_.out (by kernel_rfl)) (fun _ _ _ h => h) (Or.inl ⟨by rfl,?_⟩) ?_ ?_
          rotate_left
          · intro w'
            go_simp
            with_reducible rfl
          rotate_left
          · simp only [Act.put,q1,q2,q3,i64_w,i32_w]
            rfl
          refine take_ (i:=4) (N:=some 15) (v:=?_) (a':=?_) #[true,true,true,true,true,true,true,true,false,false,false,false,true,false,false] rfl rfl (take_ofW HT_.out HW_.out (by kernel_rfl)) (fun _ _ _ h => h) (Or.inl ⟨by rfl,?_⟩) hHeld ?_ ?_
          rotate_left
          · rintro w' ⟨s0,s1,s2,s3,s4,s5,s6,s7,s8,s9,s10,s11,s12,s13,s14,s15⟩
            go_simp
            with_reducible rfl
          rotate_left
          · simp only [Act.put,q1,q2,q3,i64_w,i32_w]
            rfl
          refine take_ (i:=8) (N:=some 19) (v:=?_) (a':=?_) #[true,true,true,true,true,true,true,true,true,false,false,false,true,false,false] rfl rfl (take_ofW HT_.out HW_.out (by kernel_rfl)) (fun _ _ _ h => h) (Or.inl ⟨by rfl,?_⟩) hHeld ?_ ?_
          rotate_left
          · rintro w' ⟨s0,s1,s2,s3,s4,s5,s6,s7,s8,s9,s10,s11,s12,s13,s14,s15⟩
            go_simp
            with_reducible rfl
          rotate_left
          · simp only [Act.put,q1,q2,q3,i64_w,i32_w]
            rfl
          refine pure_ (i:=9) (N:=some 20) (v:=?_) (a':=?_) #[true,true,true,true,true,true,true,true,true,true,false,false,true,false,false] rfl rfl (any_of HT_.out (by kernel_rfl)) (fun _ _ _ h => h) (Or.inl ⟨by rfl,?_⟩) ?_ ?_
          rotate_left
          · intro w'
            go_simp
            with_reducible rfl
          rotate_left
          · simp only [Act.put,q1,q2,q3,i64_w,i32_w]
            rfl
          refine one_ (i:=10) (N:=some 21) #[true,true,true,true,true,true,true,true,true,true,true,false,true,false,false] rfl rfl (one_of HT_.out (by kernel_rfl)) (by decide) (fun K hK => ?_);refine goes_ Try.func36 (by kernel_rfl) rfl #[.int .i64 (wrap64 (a0_0 * a1_0)),.int .i64 256] (by rfl) rfl rfl (by (try simp only [List.map_toArray,List.map_cons,List.map_nil]);first|done|rfl|(simp only [List.length_drop,List.length_take];rfl)) ?_
          with_reducible refine (celluloidref14_floor.calls (wrap64 (a0_0 * a1_0)) 256 t444 _ A9.out).mono ?_
          rintro e w' ⟨rfl,⟨nd,rfl⟩⟩
          refine ⟨_,rfl,?_⟩;refine hK.out _ _ ⟨(bc BK440.out 0).trans rfl,(bc BK440.out 1).trans rfl,(bc BK440.out 2).trans rfl,(bc BK440.out 3).trans rfl,(bc BK440.out 4).trans rfl,(bc BK440.out 5).trans rfl,(bc BK440.out 6).trans rfl,(bc BK440.out 7).trans rfl,(bc BK441.out 0).trans rfl,(bc BK441.out 1).trans rfl,(bc BK441.out 2).trans rfl,(bc BK441.out 3).trans rfl,(bc BK441.out 4).trans rfl,(bc BK441.out 5).trans rfl,(bc BK441.out 6).trans rfl,(bc BK441.out 7).trans rfl⟩ (fun hHeld => ?_);clear hK K;refine norm_ (a':=?_) ?_ ?_
          rotate_left
          · show Act.put _ (some 21) _ = _
            simp only [Act.put,q1,q2,q3,i64_w,i32_w]
            rfl
          refine one_ (i:=11) (N:=some 22) #[true,true,true,true,true,true,true,true,true,true,true,true,true,false,false] rfl rfl (one_of HT_.out (by kernel_rfl)) (by decide) (fun K hK => ?_);refine goes_ Try.func40 (by kernel_rfl) rfl #[.int .i64 t444,.int .i64 (-512),.int .i64 512] (by rfl) rfl rfl (by (try simp only [List.map_toArray,List.map_cons,List.map_nil]);first|done|rfl|(simp only [List.length_drop,List.length_take];rfl)) ?_
          with_reducible refine (celluloidref14_end.calls t444 (-512) 512 t445 _ A10.out).mono ?_
          rintro e w' ⟨rfl,⟨nd,rfl⟩⟩
          refine ⟨_,rfl,?_⟩;refine hK.out _ _ ⟨(bc BK440.out 0).trans rfl,(bc BK440.out 1).trans rfl,(bc BK440.out 2).trans rfl,(bc BK440.out 3).trans rfl,(bc BK440.out 4).trans rfl,(bc BK440.out 5).trans rfl,(bc BK440.out 6).trans rfl,(bc BK440.out 7).trans rfl,(bc BK441.out 0).trans rfl,(bc BK441.out 1).trans rfl,(bc BK441.out 2).trans rfl,(bc BK441.out 3).trans rfl,(bc BK441.out 4).trans rfl,(bc BK441.out 5).trans rfl,(bc BK441.out 6).trans rfl,(bc BK441.out 7).trans rfl⟩ (fun hHeld => ?_);clear hK K;refine norm_ (a':=?_) ?_ ?_
          rotate_left
          · show Act.put _ (some 22) _ = _
            simp only [Act.put,q1,q2,q3,i64_w,i32_w]
            rfl
          refine pure_ (i:=13) (N:=some 24) (v:=?_) (a':=?_) #[true,true,true,true,true,true,true,true,true,true,true,true,true,true,false] rfl rfl (any_of HT_.out (by kernel_rfl)) (fun _ _ _ h => h) (Or.inl ⟨by rfl,?_⟩) ?_ ?_
          rotate_left
          · intro w'
            go_simp
            with_reducible rfl
          rotate_left
          · simp only [Act.put,q1,q2,q3,i64_w,i32_w]
            rfl
          refine one_ (i:=14) (N:=none) #[true,true,true,true,true,true,true,true,true,true,true,true,true,true,true] rfl rfl (one_of HT_.out (by kernel_rfl)) (by decide) (fun K hK => ?_);have hs14 : w13.cell? ⟨gb443,0,none⟩ = some (.int .i64 x444000_1):=(bc BK443.out 0).trans rfl;have hfs14:=bz BK443.out 0;have hns14_0:=NB440_443.out;have hns14_1:=NB441_443.out;have hns14_2:=NB442_443.out;have hms14_0:=NB443_440.out;have hms14_1:=NB443_441.out;have hms14_2:=NB443_442.out;refine skip_ (w1:=?_) (by rfl) rfl ?_ ?_
          rotate_left
          · go_simp
            rfl
          refine hK.out _ _ ⟨((cell_far (p:=⟨gb443,_,none⟩) NB440_443.out _).trans (hHeld.1)),((cell_far (p:=⟨gb443,_,none⟩) NB440_443.out _).trans (hHeld.2.1)),((cell_far (p:=⟨gb443,_,none⟩) NB440_443.out _).trans (hHeld.2.2.1)),((cell_far (p:=⟨gb443,_,none⟩) NB440_443.out _).trans (hHeld.2.2.2.1)),((cell_far (p:=⟨gb443,_,none⟩) NB440_443.out _).trans (hHeld.2.2.2.2.1)),((cell_far (p:=⟨gb443,_,none⟩) NB440_443.out _).trans (hHeld.2.2.2.2.2.1)),((cell_far (p:=⟨gb443,_,none⟩) NB440_443.out _).trans (hHeld.2.2.2.2.2.2.1)),((cell_far (p:=⟨gb443,_,none⟩) NB440_443.out _).trans (hHeld.2.2.2.2.2.2.2.1)),((cell_far (p:=⟨gb443,_,none⟩) NB441_443.out _).trans (hHeld.2.2.2.2.2.2.2.2.1)),((cell_far (p:=⟨gb443,_,none⟩) NB441_443.out _).trans (hHeld.2.2.2.2.2.2.2.2.2.1)),((cell_far (p:=⟨gb443,_,none⟩) NB441_443.out _).trans (hHeld.2.2.2.2.2.2.2.2.2.2.1)),((cell_far (p:=⟨gb443,_,none⟩) NB441_443.out _).trans (hHeld.2.2.2.2.2.2.2.2.2.2.2.1)),((cell_far (p:=⟨gb443,_,none⟩) NB441_443.out _).trans (hHeld.2.2.2.2.2.2.2.2.2.2.2.2.1)),((cell_far (p:=⟨gb443,_,none⟩) NB441_443.out _).trans (hHeld.2.2.2.2.2.2.2.2.2.2.2.2.2.1)),((cell_far (p:=⟨gb443,_,none⟩) NB441_443.out _).trans (hHeld.2.2.2.2.2.2.2.2.2.2.2.2.2.2.1)),((cell_far (p:=⟨gb443,_,none⟩) NB441_443.out _).trans (hHeld.2.2.2.2.2.2.2.2.2.2.2.2.2.2.2))⟩ (fun hHeld => ?_);clear hK K;refine done_ (done_of HT_.out (by kernel_rfl)) ?_
          try go_wp2
          first|(rw [drewN_self w13];generalize hq_ : World.drewN w13 _ = wq_)|(generalize hq_ : w13 = wq_)
          have n0_ : Aside0 ((wq_.setCell ⟨gb443,0,none⟩ (.int .i64 t445)).heap[gb440]? = some (.cells #[.int .i64 a0_0,.int .i64 a0_1,.int .i64 a0_2,.int .i64 a0_3,.int .i64 a0_4,.int .i64 a0_5,.int .i64 a0_6,.int .i64 a0_7] 41 (0,0))):=⟨by rw [← hq_];exact by (with_reducible repeat (first|refine bn ?_ _|refine bd ?_|refine ba ?_ _|refine bf ?_ NB440_443.out _));exact BK440.out⟩;have n1_ : Aside0 ((wq_.setCell ⟨gb443,0,none⟩ (.int .i64 t445)).heap[gb441]? = some (.cells #[.int .i64 a1_0,.int .i64 a1_1,.int .i64 a1_2,.int .i64 a1_3,.int .i64 a1_4,.int .i64 a1_5,.int .i64 a1_6,.int .i64 a1_7] 41 (0,0))):=⟨by rw [← hq_];exact by (with_reducible repeat (first|refine bn ?_ _|refine bd ?_|refine ba ?_ _|refine bf ?_ NB441_443.out _));exact BK441.out⟩;have n2_ : Aside0 ((wq_.setCell ⟨gb443,0,none⟩ (.int .i64 t445)).heap[gb442]? = some (.cells #[.int .i64 0,.int .i64 0,.int .i64 0,.int .i64 0,.int .i64 0,.int .i64 0,.int .i64 0,.int .i64 0] 41 (0,0))):=⟨by rw [← hq_];exact by (with_reducible repeat (first|refine bn ?_ _|refine bd ?_|refine ba ?_ _|refine bf ?_ NB442_443.out _));exact BK442.out⟩;have n3_ : Aside0 ((wq_.setCell ⟨gb443,0,none⟩ (.int .i64 t445)).heap[gb443]? = some (.cells #[.int .i64 t445,.int .i64 x444001_1,.int .i64 x444002_1,.int .i64 x444003_1,.int .i64 x444004_1,.int .i64 x444005_1,.int .i64 x444006_1,.int .i64 x444007_1] 41 (0,0))):=⟨by rw [← hq_];exact by (with_reducible repeat (first|refine bn ?_ _|refine bd ?_|refine ba ?_ _));refine bp (cs:=#[.int .i64 x444000_1,.int .i64 x444001_1,.int .i64 x444002_1,.int .i64 x444003_1,.int .i64 x444004_1,.int .i64 x444005_1,.int .i64 x444006_1,.int .i64 x444007_1]) ?_ 0 _ rfl;(with_reducible repeat (first|refine bn ?_ _|refine bd ?_|refine ba ?_ _));exact BK443.out⟩;have n4_ : Aside0 (Below w.heap.size w (wq_.setCell ⟨gb443,0,none⟩ (.int .i64 t445))):=⟨by rw [← hq_];exact by repeat (first|(with_reducible first|exact HB.out|apply sa|apply sn|apply sd|refine sy ?_ (by assumption))|exact HB.out)⟩;(try clear BK440);(try clear BK441);(try clear BK442);(try clear BK443);(try clear HB);generalize (wq_.setCell ⟨gb443,0,none⟩ (.int .i64 t445)) = w15 at n0_ n1_ n2_ n3_ n4_ ⊢;have BK440:=n0_;have BK441:=n1_;have BK442:=n2_;have BK443:=n3_;have HB:=n4_;clear n0_ n1_ n2_ n3_ n4_
          (repeat (rw [drewN_self w15];generalize hq_ : World.drewN w15 _ = w15;have n0_ : Aside0 (w15.heap[gb440]? = some (.cells #[.int .i64 a0_0,.int .i64 a0_1,.int .i64 a0_2,.int .i64 a0_3,.int .i64 a0_4,.int .i64 a0_5,.int .i64 a0_6,.int .i64 a0_7] 41 (0,0))):=⟨by rw [← hq_];exact (by exact BK440.out)⟩;have n1_ : Aside0 (w15.heap[gb441]? = some (.cells #[.int .i64 a1_0,.int .i64 a1_1,.int .i64 a1_2,.int .i64 a1_3,.int .i64 a1_4,.int .i64 a1_5,.int .i64 a1_6,.int .i64 a1_7] 41 (0,0))):=⟨by rw [← hq_];exact (by exact BK441.out)⟩;have n2_ : Aside0 (w15.heap[gb442]? = some (.cells #[.int .i64 0,.int .i64 0,.int .i64 0,.int .i64 0,.int .i64 0,.int .i64 0,.int .i64 0,.int .i64 0] 41 (0,0))):=⟨by rw [← hq_];exact (by exact BK442.out)⟩;have n3_ : Aside0 (w15.heap[gb443]? = some (.cells #[.int .i64 t445,.int .i64 x444001_1,.int .i64 x444002_1,.int .i64 x444003_1,.int .i64 x444004_1,.int .i64 x444005_1,.int .i64 x444006_1,.int .i64 x444007_1] 41 (0,0))):=⟨by rw [← hq_];exact (by exact BK443.out)⟩;have n4_ : Aside0 (Below w.heap.size w w15):=⟨by rw [← hq_];exact (by repeat (first|(with_reducible first|exact HB.out|apply sa|apply sn|apply sd|refine sy ?_ (by assumption))|exact HB.out))⟩;clear BK440 BK441 BK442 BK443 HB hq_;have BK440:=n0_;have BK441:=n1_;have BK442:=n2_;have BK443:=n3_;have HB:=n4_;clear n0_ n1_ n2_ n3_ n4_))
          replace BK440:=am (bd BK440.out);replace BK441:=am (bd BK441.out);replace BK442:=am (bd BK442.out);replace BK443:=am (bd BK443.out);replace HB:=am (sd HB.out);refine start_ (n:=20) (S:=fun w' => w'.cell? ⟨gb441,0,none⟩ = some (.int .i64 a1_0) ∧ w'.cell? ⟨gb441,1,none⟩ = some (.int .i64 a1_1) ∧ w'.cell? ⟨gb441,2,none⟩ = some (.int .i64 a1_2) ∧ w'.cell? ⟨gb441,3,none⟩ = some (.int .i64 a1_3) ∧ w'.cell? ⟨gb441,4,none⟩ = some (.int .i64 a1_4) ∧ w'.cell? ⟨gb441,5,none⟩ = some (.int .i64 a1_5) ∧ w'.cell? ⟨gb441,6,none⟩ = some (.int .i64 a1_6) ∧ w'.cell? ⟨gb441,7,none⟩ = some (.int .i64 a1_7) ∧ w'.cell? ⟨gb440,0,none⟩ = some (.int .i64 a0_0) ∧ w'.cell? ⟨gb440,1,none⟩ = some (.int .i64 a0_1) ∧ w'.cell? ⟨gb440,2,none⟩ = some (.int .i64 a0_2) ∧ w'.cell? ⟨gb440,3,none⟩ = some (.int .i64 a0_3) ∧ w'.cell? ⟨gb440,4,none⟩ = some (.int .i64 a0_4) ∧ w'.cell? ⟨gb440,5,none⟩ = some (.int .i64 a0_5) ∧ w'.cell? ⟨gb440,6,none⟩ = some (.int .i64 a0_6) ∧ w'.cell? ⟨gb440,7,none⟩ = some (.int .i64 a0_7)) (ds:=[]) #[false,false,false,false,false,false,false,false,false,false,false,false,false,false,false,false,false,false,false,false] (by kernel_rfl) rfl rfl ⟨(bc BK441.out 0).trans rfl,(bc BK441.out 1).trans rfl,(bc BK441.out 2).trans rfl,(bc BK441.out 3).trans rfl,(bc BK441.out 4).trans rfl,(bc BK441.out 5).trans rfl,(bc BK441.out 6).trans rfl,(bc BK441.out 7).trans rfl,(bc BK440.out 0).trans rfl,(bc BK440.out 1).trans rfl,(bc BK440.out 2).trans rfl,(bc BK440.out 3).trans rfl,(bc BK440.out 4).trans rfl,(bc BK440.out 5).trans rfl,(bc BK440.out 6).trans rfl,(bc BK440.out 7).trans rfl⟩ (fun hHeld => ?_);refine with_tabW celluloidref14_ComposeCx.tab6 celluloidref14_ComposeCx.bits6 (fun HT_ HW_ => ?_);generalize w15.drew = w16 at BK440 BK441 BK442 BK443 HB hHeld ⊢;refine pure_ (i:=0) (N:=some 25) (v:=?_) (a':=?_) #[true,false,false,false,false,false,false,false,false,false,false,false,false,false,false,false,false,false,false,false] rfl rfl (any_of HT_.out (by kernel_rfl)) (fun _ _ _ h => h) (Or.inl ⟨by rfl,?_⟩) ?_ ?_
          rotate_left
          · intro w'
            go_simp
            with_reducible rfl
          rotate_left
          · simp only [Act.put,q1,q2,q3,i64_w,i32_w]
            rfl
          refine pure_ (i:=1) (N:=some 26) (v:=?_) (a':=?_) #[true,true,false,false,false,false,false,false,false,false,false,false,false,false,false,false,false,false,false,false] rfl rfl (any_of HT_.out (by kernel_rfl)) (fun _ _ _ h => h) (Or.inl ⟨by rfl,?_⟩) ?_ ?_
          rotate_left
          · intro w'
            go_simp
            with_reducible rfl
          rotate_left
          · simp only [Act.put,q1,q2,q3,i64_w,i32_w]
            rfl
          refine pure_ (i:=2) (N:=some 27) (v:=?_) (a':=?_) #[true,true,true,false,false,false,false,false,false,false,false,false,false,false,false,false,false,false,false,false] rfl rfl (any_of HT_.out (by kernel_rfl)) (fun _ _ _ h => h) (Or.inl ⟨by rfl,?_⟩) ?_ ?_
          rotate_left
          · intro w'
            go_simp
            with_reducible rfl
          rotate_left
          · simp only [Act.put,q1,q2,q3,i64_w,i32_w]
            rfl
          refine pure_ (i:=3) (N:=some 28) (v:=?_) (a':=?_) #[true,true,true,true,false,false,false,false,false,false,false,false,false,false,false,false,false,false,false,false] rfl rfl (any_of HT_.out (by kernel_rfl)) (fun _ _ _ h => h) (Or.inl ⟨by rfl,?_⟩) ?_ ?_
          rotate_left
          · intro w'
            go_simp
            with_reducible rfl
          rotate_left
          · simp only [Act.put,q1,q2,q3,i64_w,i32_w]
            rfl
          refine pure_ (i:=5) (N:=some 30) (v:=?_) (a':=?_) #[true,true,true,true,false,true,false,false,false,false,false,false,false,false,false,false,false,false,false,false] rfl rfl (any_of HT_.out (by kernel_rfl)) (fun _ _ _ h => h) (Or.inl ⟨by rfl,?_⟩) ?_ ?_
          rotate_left
          · intro w'
            go_simp
            with_reducible rfl
          rotate_left
          · simp only [Act.put,q1,q2,q3,i64_w,i32_w]
            rfl
          refine pure_ (i:=6) (N:=some 31) (v:=?_) (a':=?_) #[true,true,true,true,false,true,true,false,false,false,false,false,false,false,false,false,false,false,false,false] rfl rfl (any_of HT_.out (by kernel_rfl)) (fun _ _ _ h => h) (Or.inl ⟨by rfl,?_⟩) ?_ ?_
          rotate_left
          · intro w'
            go_simp
            with_reducible rfl
          rotate_left
          · simp only [Act.put,q1,q2,q3,i64_w,i32_w]
            rfl
          refine pure_ (i:=7) (N:=some 32) (v:=?_) (a':=?_) #[true,true,true,true,false,true,true,true,false,false,false,false,false,false,false,false,false,false,false,false] rfl rfl (any_of HT_.out (by kernel_rfl)) (fun _ _ _ h => h) (Or.inl ⟨by rfl,?_⟩) ?_ ?_
          rotate_left
          · intro w'
            go_simp
            with_reducible rfl
          rotate_left
          · simp only [Act.put,q1,q2,q3,i64_w,i32_w]
            rfl
          refine pure_ (i:=11) (N:=some 36) (v:=?_) (a':=?_) #[true,true,true,true,false,true,true,true,false,false,false,true,false,false,false,false,false,false,false,false] rfl rfl (any_of HT_.out (by kernel_rfl)) (fun _ _ _ h => h) (Or.inl ⟨by rfl,?_⟩) ?_ ?_
          rotate_left
          · intro w'
            go_simp
            with_reducible rfl
          rotate_left
          · simp only [Act.put,q1,q2,q3,i64_w,i32_w]
            rfl
          refine pure_ (i:=12) (N:=some 37) (v:=?_) (a':=?_) #[true,true,true,true,false,true,true,true,false,false,false,true,true,false,false,false,false,false,false,false] rfl rfl (any_of HT_.out (by kernel_rfl)) (fun _ _ _ h => h) (Or.inl ⟨by rfl,?_⟩) ?_ ?_
          rotate_left
          · intro w'
            go_simp
            with_reducible rfl
          rotate_left
          · simp only [Act.put,q1,q2,q3,i64_w,i32_w]
            rfl
          refine pure_ (i:=13) (N:=some 38) (v:=?_) (a':=?_) #[true,true,true,true,false,true,true,true,false,false,false,true,true,true,false,false,false,false,false,false] rfl rfl (any_of HT_.out (by kernel_rfl)) (fun _ _ _ h => h) (Or.inl ⟨by rfl,?_⟩) ?_ ?_
          rotate_left
          · intro w'
            go_simp
            with_reducible rfl
          rotate_left
          · simp only [Act.put,q1,q2,q3,i64_w,i32_w]
            rfl
          refine pure_ (i:=17) (N:=some 42) (v:=?_) (a':=?_) #[true,true,true,true,false,true,true,true,false,false,false,true,true,true,false,false,false,true,false,false] rfl rfl (any_of HT_.out (by kernel_rfl)) (fun _ _ _ h => h) (Or.inl ⟨by rfl,?_⟩) ?_ ?_
          rotate_left
          · intro w'
            go_simp
            with_reducible rfl
          rotate_left
          · simp only [Act.put,q1,q2,q3,i64_w,i32_w]
            rfl
          refine take_ (i:=4) (N:=some 29) (v:=?_) (a':=?_) #[true,true,true,true,true,true,true,true,false,false,false,true,true,true,false,false,false,true,false,false] rfl rfl (take_ofW HT_.out HW_.out (by kernel_rfl)) (fun _ _ _ h => h) (Or.inl ⟨by rfl,?_⟩) hHeld ?_ ?_
          rotate_left
          · rintro w' ⟨s0,s1,s2,s3,s4,s5,s6,s7,s8,s9,s10,s11,s12,s13,s14,s15⟩
            go_simp
            with_reducible rfl
          rotate_left
          · simp only [Act.put,q1,q2,q3,i64_w,i32_w]
            rfl
          refine take_ (i:=8) (N:=some 33) (v:=?_) (a':=?_) #[true,true,true,true,true,true,true,true,true,false,false,true,true,true,false,false,false,true,false,false] rfl rfl (take_ofW HT_.out HW_.out (by kernel_rfl)) (fun _ _ _ h => h) (Or.inl ⟨by rfl,?_⟩) hHeld ?_ ?_
          rotate_left
          · rintro w' ⟨s0,s1,s2,s3,s4,s5,s6,s7,s8,s9,s10,s11,s12,s13,s14,s15⟩
            go_simp
            with_reducible rfl
          rotate_left
          · simp only [Act.put,q1,q2,q3,i64_w,i32_w]
            rfl
          refine pure_ (i:=9) (N:=some 34) (v:=?_) (a':=?_) #[true,true,true,true,true,true,true,true,true,true,false,true,true,true,false,false,false,true,false,false] rfl rfl (any_of HT_.out (by kernel_rfl)) (fun _ _ _ h => h) (Or.inl ⟨by rfl,?_⟩) ?_ ?_
          rotate_left
          · intro w'
            go_simp
            with_reducible rfl
          rotate_left
          · simp only [Act.put,q1,q2,q3,i64_w,i32_w]
            rfl
          refine take_ (i:=14) (N:=some 39) (v:=?_) (a':=?_) #[true,true,true,true,true,true,true,true,true,true,false,true,true,true,true,false,false,true,false,false] rfl rfl (take_ofW HT_.out HW_.out (by kernel_rfl)) (fun _ _ _ h => h) (Or.inl ⟨by rfl,?_⟩) hHeld ?_ ?_
          rotate_left
          · rintro w' ⟨s0,s1,s2,s3,s4,s5,s6,s7,s8,s9,s10,s11,s12,s13,s14,s15⟩
            go_simp
            with_reducible rfl
          rotate_left
          · simp only [Act.put,q1,q2,q3,i64_w,i32_w]
            rfl
          refine one_ (i:=10) (N:=some 35) #[true,true,true,true,true,true,true,true,true,true,true,true,true,true,true,false,false,true,false,false] rfl rfl (one_of HT_.out (by kernel_rfl)) (by decide) (fun K hK => ?_);refine goes_ Try.func36 (by kernel_rfl) rfl #[.int .i64 (wrap64 (a1_4 * a0_0)),.int .i64 256] (by rfl) rfl rfl (by (try simp only [List.map_toArray,List.map_cons,List.map_nil]);first|done|rfl|(simp only [List.length_drop,List.length_take];rfl)) ?_
          with_reducible refine (celluloidref14_floor.calls (wrap64 (a1_4 * a0_0)) 256 t446 _ A11.out).mono ?_
          rintro e w' ⟨rfl,⟨nd,rfl⟩⟩
          refine ⟨_,rfl,?_⟩;refine hK.out _ _ ⟨(bc BK441.out 0).trans rfl,(bc BK441.out 1).trans rfl,(bc BK441.out 2).trans rfl,(bc BK441.out 3).trans rfl,(bc BK441.out 4).trans rfl,(bc BK441.out 5).trans rfl,(bc BK441.out 6).trans rfl,(bc BK441.out 7).trans rfl,(bc BK440.out 0).trans rfl,(bc BK440.out 1).trans rfl,(bc BK440.out 2).trans rfl,(bc BK440.out 3).trans rfl,(bc BK440.out 4).trans rfl,(bc BK440.out 5).trans rfl,(bc BK440.out 6).trans rfl,(bc BK440.out 7).trans rfl⟩ (fun hHeld => ?_);clear hK K;refine norm_ (a':=?_) ?_ ?_
          rotate_left
          · show Act.put _ (some 35) _ = _
            simp only [Act.put,q1,q2,q3,i64_w,i32_w]
            rfl
          refine pure_ (i:=15) (N:=some 40) (v:=?_) (a':=?_) #[true,true,true,true,true,true,true,true,true,true,true,true,true,true,true,true,false,true,false,false] rfl rfl (any_of HT_.out (by kernel_rfl)) (fun _ _ _ h => h) (Or.inl ⟨by rfl,?_⟩) ?_ ?_
          rotate_left
          · intro w'
            go_simp
            with_reducible rfl
          rotate_left
          · simp only [Act.put,q1,q2,q3,i64_w,i32_w]
            rfl
          refine one_ (i:=16) (N:=some 41) #[true,true,true,true,true,true,true,true,true,true,true,true,true,true,true,true,true,true,false,false] rfl rfl (one_of HT_.out (by kernel_rfl)) (by decide) (fun K hK => ?_);refine goes_ Try.func40 (by kernel_rfl) rfl #[.int .i64 (wrap64 (t446 + a0_4)),.int .i64 (-255),.int .i64 255] (by rfl) rfl rfl (by (try simp only [List.map_toArray,List.map_cons,List.map_nil]);first|done|rfl|(simp only [List.length_drop,List.length_take];rfl)) ?_
          with_reducible refine (celluloidref14_end.calls (wrap64 (t446 + a0_4)) (-255) 255 t447 _ A12.out).mono ?_
          rintro e w' ⟨rfl,⟨nd,rfl⟩⟩
          refine ⟨_,rfl,?_⟩;refine hK.out _ _ ⟨(bc BK441.out 0).trans rfl,(bc BK441.out 1).trans rfl,(bc BK441.out 2).trans rfl,(bc BK441.out 3).trans rfl,(bc BK441.out 4).trans rfl,(bc BK441.out 5).trans rfl,(bc BK441.out 6).trans rfl,(bc BK441.out 7).trans rfl,(bc BK440.out 0).trans rfl,(bc BK440.out 1).trans rfl,(bc BK440.out 2).trans rfl,(bc BK440.out 3).trans rfl,(bc BK440.out 4).trans rfl,(bc BK440.out 5).trans rfl,(bc BK440.out 6).trans rfl,(bc BK440.out 7).trans rfl⟩ (fun hHeld => ?_);clear hK K;refine norm_ (a':=?_) ?_ ?_
          rotate_left
          · show Act.put _ (some 41) _ = _
            simp only [Act.put,q1,q2,q3,i64_w,i32_w]
            rfl
          refine pure_ (i:=18) (N:=some 43) (v:=?_) (a':=?_) #[true,true,true,true,true,true,true,true,true,true,true,true,true,true,true,true,true,true,true,false] rfl rfl (any_of HT_.out (by kernel_rfl)) (fun _ _ _ h => h) (Or.inl ⟨by rfl,?_⟩) ?_ ?_
          rotate_left
          · intro w'
            go_simp
            with_reducible rfl
          rotate_left
          · simp only [Act.put,q1,q2,q3,i64_w,i32_w]
            rfl
          refine one_ (i:=19) (N:=none) #[true,true,true,true,true,true,true,true,true,true,true,true,true,true,true,true,true,true,true,true] rfl rfl (one_of HT_.out (by kernel_rfl)) (by decide) (fun K hK => ?_);have hs17 : w16.cell? ⟨gb443,4,none⟩ = some (.int .i64 x444004_1):=(bc BK443.out 4).trans rfl;have hfs17:=bz BK443.out 4;have hns17_0:=NB440_443.out;have hns17_1:=NB441_443.out;have hns17_2:=NB442_443.out;have hms17_0:=NB443_440.out;have hms17_1:=NB443_441.out;have hms17_2:=NB443_442.out;refine skip_ (w1:=?_) (by rfl) rfl ?_ ?_
          rotate_left
          · go_simp
            rfl
          refine hK.out _ _ ⟨((cell_far (p:=⟨gb443,_,none⟩) NB441_443.out _).trans (hHeld.1)),((cell_far (p:=⟨gb443,_,none⟩) NB441_443.out _).trans (hHeld.2.1)),((cell_far (p:=⟨gb443,_,none⟩) NB441_443.out _).trans (hHeld.2.2.1)),((cell_far (p:=⟨gb443,_,none⟩) NB441_443.out _).trans (hHeld.2.2.2.1)),((cell_far (p:=⟨gb443,_,none⟩) NB441_443.out _).trans (hHeld.2.2.2.2.1)),((cell_far (p:=⟨gb443,_,none⟩) NB441_443.out _).trans (hHeld.2.2.2.2.2.1)),((cell_far (p:=⟨gb443,_,none⟩) NB441_443.out _).trans (hHeld.2.2.2.2.2.2.1)),((cell_far (p:=⟨gb443,_,none⟩) NB441_443.out _).trans (hHeld.2.2.2.2.2.2.2.1)),((cell_far (p:=⟨gb443,_,none⟩) NB440_443.out _).trans (hHeld.2.2.2.2.2.2.2.2.1)),((cell_far (p:=⟨gb443,_,none⟩) NB440_443.out _).trans (hHeld.2.2.2.2.2.2.2.2.2.1)),((cell_far (p:=⟨gb443,_,none⟩) NB440_443.out _).trans (hHeld.2.2.2.2.2.2.2.2.2.2.1)),((cell_far (p:=⟨gb443,_,none⟩) NB440_443.out _).trans (hHeld.2.2.2.2.2.2.2.2.2.2.2.1)),((cell_far (p:=⟨gb443,_,none⟩) NB440_443.out _).trans (hHeld.2.2.2.2.2.2.2.2.2.2.2.2.1)),((cell_far (p:=⟨gb443,_,none⟩) NB440_443.out _).trans (hHeld.2.2.2.2.2.2.2.2.2.2.2.2.2.1)),((cell_far (p:=⟨gb443,_,none⟩) NB440_443.out _).trans (hHeld.2.2.2.2.2.2.2.2.2.2.2.2.2.2.1)),((cell_far (p:=⟨gb443,_,none⟩) NB440_443.out _).trans (hHeld.2.2.2.2.2.2.2.2.2.2.2.2.2.2.2))⟩ (fun hHeld => ?_);clear hK K;refine done_ (done_of HT_.out (by kernel_rfl)) ?_
          try go_wp2
          go_roundg k1
          case measure => have:=HK1.out;omega
          case rel => exact ⟨(0 + 1),(t445),(x444001_1),(x444002_1),(x444003_1),(t447),(x444005_1),(x444006_1),(x444007_1),(by first|rfl|(simp;done)|(simp [*];done)),H',⟨by have:=HK1.out;omega⟩,⟨by (with_reducible repeat (first|refine bn ?_ _|refine bd ?_|refine ba ?_ _|refine bf ?_ NB440_443.out _));exact BK440.out⟩,⟨by (with_reducible repeat (first|refine bn ?_ _|refine bd ?_|refine ba ?_ _|refine bf ?_ NB441_443.out _));exact BK441.out⟩,⟨by (with_reducible repeat (first|refine bn ?_ _|refine bd ?_|refine ba ?_ _|refine bf ?_ NB442_443.out _));exact BK442.out⟩,⟨by (with_reducible repeat (first|refine bn ?_ _|refine bd ?_|refine ba ?_ _));refine bp (cs:=#[.int .i64 t445,.int .i64 x444001_1,.int .i64 x444002_1,.int .i64 x444003_1,.int .i64 x444004_1,.int .i64 x444005_1,.int .i64 x444006_1,.int .i64 x444007_1]) ?_ 4 _ rfl;(with_reducible repeat (first|refine bn ?_ _|refine bd ?_|refine ba ?_ _));exact BK443.out⟩,⟨by repeat (first|(with_reducible first|exact HB.out|apply sa|apply sn|apply sd|refine sy ?_ (by assumption))|exact HB.out)⟩⟩
        · rw [if_neg c8] at H
          by_cases c18 : x6_1 = 1
          · subst c18
            have H1 : ((celluloidref14_floor.f (wrap64 (a0_1 * a1_1)) 256).bind fun t448 => ((celluloidref14_end.f t448 (-512) 512).bind fun t449 => ((celluloidref14_floor.f (wrap64 (a1_5 * a0_1)) 256).bind fun t450 => ((celluloidref14_end.f (wrap64 (t450 + a0_5)) (-255) 255).bind fun t451 => (celluloidref14_ComposeCx.l0 k1 (1 + 1) a0_0 a0_1 a0_2 a0_3 a0_4 a0_5 a0_6 a0_7 a1_0 a1_1 a1_2 a1_3 a1_4 a1_5 a1_6 a1_7 x444000_1 t449 x444002_1 x444003_1 x444004_1 t451 x444006_1 x444007_1))))) = some (r1,r2,r3,r4,r5,r6,r7,r8):=by rw [if_pos rfl] at H;exact H
            clear H;have H:=H1;clear H1;replace H:=Option.bind_eq_some_iff.mp H;obtain ⟨t448,A190,H⟩:=H;replace H : ((celluloidref14_end.f t448 (-512) 512).bind fun t449 => ((celluloidref14_floor.f (wrap64 (a1_5 * a0_1)) 256).bind fun t450 => ((celluloidref14_end.f (wrap64 (t450 + a0_5)) (-255) 255).bind fun t451 => (celluloidref14_ComposeCx.l0 k1 (1 + 1) a0_0 a0_1 a0_2 a0_3 a0_4 a0_5 a0_6 a0_7 a1_0 a1_1 a1_2 a1_3 a1_4 a1_5 a1_6 a1_7 x444000_1 t449 x444002_1 x444003_1 x444004_1 t451 x444006_1 x444007_1)))) = some (r1,r2,r3,r4,r5,r6,r7,r8):=H;have A19:=am A190;clear A190;replace H:=Option.bind_eq_some_iff.mp H;obtain ⟨t449,A200,H⟩:=H;replace H : ((celluloidref14_floor.f (wrap64 (a1_5 * a0_1)) 256).bind fun t450 => ((celluloidref14_end.f (wrap64 (t450 + a0_5)) (-255) 255).bind fun t451 => (celluloidref14_ComposeCx.l0 k1 (1 + 1) a0_0 a0_1 a0_2 a0_3 a0_4 a0_5 a0_6 a0_7 a1_0 a1_1 a1_2 a1_3 a1_4 a1_5 a1_6 a1_7 x444000_1 t449 x444002_1 x444003_1 x444004_1 t451 x444006_1 x444007_1))) = some (r1,r2,r3,r4,r5,r6,r7,r8):=H;have A20:=am A200;clear A200;replace H:=Option.bind_eq_some_iff.mp H;obtain ⟨t450,A210,H⟩:=H;replace H : ((celluloidref14_end.f (wrap64 (t450 + a0_5)) (-255) 255).bind fun t451 => (celluloidref14_ComposeCx.l0 k1 (1 + 1) a0_0 a0_1 a0_2 a0_3 a0_4 a0_5 a0_6 a0_7 a1_0 a1_1 a1_2 a1_3 a1_4 a1_5 a1_6 a1_7 x444000_1 t449 x444002_1 x444003_1 x444004_1 t451 x444006_1 x444007_1)) = some (r1,r2,r3,r4,r5,r6,r7,r8):=H;have A21:=am A210;clear A210;replace H:=Option.bind_eq_some_iff.mp H;obtain ⟨t451,A220,H⟩:=H;replace H : (celluloidref14_ComposeCx.l0 k1 (1 + 1) a0_0 a0_1 a0_2 a0_3 a0_4 a0_5 a0_6 a0_7 a1_0 a1_1 a1_2 a1_3 a1_4 a1_5 a1_6 a1_7 x444000_1 t449 x444002_1 x444003_1 x444004_1 t451 x444006_1 x444007_1) = some (r1,r2,r3,r4,r5,r6,r7,r8):=H;have A22:=am A220;clear A220;have H':=am H;clear H
            try go_wp2
            replace BK440:=am (bd BK440.out);replace BK441:=am (bd BK441.out);replace BK442:=am (bd BK442.out);replace BK443:=am (bd BK443.out);replace HB:=am (sd HB.out);refine start_ (n:=15) (S:=fun w' => w'.cell? ⟨gb440,0,none⟩ = some (.int .i64 a0_0) ∧ w'.cell? ⟨gb440,1,none⟩ = some (.int .i64 a0_1) ∧ w'.cell? ⟨gb440,2,none⟩ = some (.int .i64 a0_2) ∧ w'.cell? ⟨gb440,3,none⟩ = some (.int .i64 a0_3) ∧ w'.cell? ⟨gb440,4,none⟩ = some (.int .i64 a0_4) ∧ w'.cell? ⟨gb440,5,none⟩ = some (.int .i64 a0_5) ∧ w'.cell? ⟨gb440,6,none⟩ = some (.int .i64 a0_6) ∧ w'.cell? ⟨gb440,7,none⟩ = some (.int .i64 a0_7) ∧ w'.cell? ⟨gb441,0,none⟩ = some (.int .i64 a1_0) ∧ w'.cell? ⟨gb441,1,none⟩ = some (.int .i64 a1_1) ∧ w'.cell? ⟨gb441,2,none⟩ = some (.int .i64 a1_2) ∧ w'.cell? ⟨gb441,3,none⟩ = some (.int .i64 a1_3) ∧ w'.cell? ⟨gb441,4,none⟩ = some (.int .i64 a1_4) ∧ w'.cell? ⟨gb441,5,none⟩ = some (.int .i64 a1_5) ∧ w'.cell? ⟨gb441,6,none⟩ = some (.int .i64 a1_6) ∧ w'.cell? ⟨gb441,7,none⟩ = some (.int .i64 a1_7)) (ds:=[]) #[false,false,false,false,false,false,false,false,false,false,false,false,false,false,false] (by kernel_rfl) rfl rfl ⟨(bc BK440.out 0).trans rfl,(bc BK440.out 1).trans rfl,(bc BK440.out 2).trans rfl,(bc BK440.out 3).trans rfl,(bc BK440.out 4).trans rfl,(bc BK440.out 5).trans rfl,(bc BK440.out 6).trans rfl,(bc BK440.out 7).trans rfl,(bc BK441.out 0).trans rfl,(bc BK441.out 1).trans rfl,(bc BK441.out 2).trans rfl,(bc BK441.out 3).trans rfl,(bc BK441.out 4).trans rfl,(bc BK441.out 5).trans rfl,(bc BK441.out 6).trans rfl,(bc BK441.out 7).trans rfl⟩ (fun hHeld => ?_);refine with_tabW celluloidref14_ComposeCx.tab5 celluloidref14_ComposeCx.bits5 (fun HT_ HW_ => ?_);generalize wr.drew = w23 at BK440 BK441 BK442 BK443 HB hHeld ⊢;refine pure_ (i:=0) (N:=some 11) (v:=?_) (a':=?_) #[true,false,false,false,false,false,false,false,false,false,false,false,false,false,false] rfl rfl (any_of HT_.out (by kernel_rfl)) (fun _ _ _ h => h) (Or.inl ⟨by rfl,?_⟩) ?_ ?_
            rotate_left
            · intro w'
              go_simp
              with_reducible rfl
            rotate_left
            · simp only [Act.put,q1,q2,q3,i64_w,i32_w]
              rfl
            refine pure_ (i:=1) (N:=some 12) (v:=?_) (a':=?_) #[true,true,false,false,false,false,false,false,false,false,false,false,false,false,false] rfl rfl (any_of HT_.out (by kernel_rfl)) (fun _ _ _ h => h) (Or.inl ⟨by rfl,?_⟩) ?_ ?_
            rotate_left
            · intro w'
              go_simp
              with_reducible rfl
            rotate_left
            · simp only [Act.put,q1,q2,q3,i64_w,i32_w]
              rfl
            refine pure_ (i:=2) (N:=some 13) (v:=?_) (a':=?_) #[true,true,true,false,false,false,false,false,false,false,false,false,false,false,false] rfl rfl (any_of HT_.out (by kernel_rfl)) (fun _ _ _ h => h) (Or.inl ⟨by rfl,?_⟩) ?_ ?_
            rotate_left
            · intro w'
              go_simp
              with_reducible rfl
            rotate_left
            · simp only [Act.put,q1,q2,q3,i64_w,i32_w]
              rfl
            refine pure_ (i:=3) (N:=some 14) (v:=?_) (a':=?_) #[true,true,true,true,false,false,false,false,false,false,false,false,false,false,false] rfl rfl (any_of HT_.out (by kernel_rfl)) (fun _ _ _ h => h) (Or.inl ⟨by rfl,?_⟩) ?_ ?_
            rotate_left
            · intro w'
              go_simp
              with_reducible rfl
            rotate_left
            · simp only [Act.put,q1,q2,q3,i64_w,i32_w]
              rfl
            refine pure_ (i:=5) (N:=some 16) (v:=?_) (a':=?_) #[true,true,true,true,false,true,false,false,false,false,false,false,false,false,false] rfl rfl (any_of HT_.out (by kernel_rfl)) (fun _ _ _ h => h) (Or.inl ⟨by rfl,?_⟩) ?_ ?_
            rotate_left
            · intro w'
              go_simp
              with_reducible rfl
            rotate_left
            · simp only [Act.put,q1,q2,q3,i64_w,i32_w]
              rfl
            refine pure_ (i:=6) (N:=some 17) (v:=?_) (a':=?_) #[true,true,true,true,false,true,true,false,false,false,false,false,false,false,false] rfl rfl (any_of HT_.out (by kernel_rfl)) (fun _ _ _ h => h) (Or.inl ⟨by rfl,?_⟩) ?_ ?_
            rotate_left
            · intro w'
              go_simp
              with_reducible rfl
            rotate_left
            · simp only [Act.put,q1,q2,q3,i64_w,i32_w]
              rfl
            refine pure_ (i:=7) (N:=some 18) (v:=?_) (a':=?_) #[true,true,true,true,false,true,true,true,false,false,false,false,false,false,false] rfl rfl (any_of HT_.out (by kernel_rfl)) (fun _ _ _ h => h) (Or.inl ⟨by rfl,?_⟩) ?_ ?_
            rotate_left
            · intro w'
              go_simp
              with_reducible rfl
            rotate_left
            · simp only [Act.put,q1,q2,q3,i64_w,i32_w]
              rfl
            refine pure_ (i:=12) (N:=some 23) (v:=?_) (a':=?_) #[true,true,true,true,false,true,true,true,false,false,false,false,true,false,false] rfl rfl (any_of HT_.out (by kernel_rfl)) (fun _ _ _ h => h) (Or.inl ⟨by rfl,?_⟩) ?_ ?_
            rotate_left
            · intro w'
              go_simp
              with_reducible rfl
            rotate_left
            · simp only [Act.put,q1,q2,q3,i64_w,i32_w]
              rfl
            refine take_ (i:=4) (N:=some 15) (v:=?_) (a':=?_) #[true,true,true,true,true,true,true,true,false,false,false,false,true,false,false] rfl rfl (take_ofW HT_.out HW_.out (by kernel_rfl)) (fun _ _ _ h => h) (Or.inl ⟨by rfl,?_⟩) hHeld ?_ ?_
            rotate_left
            · rintro w' ⟨s0,s1,s2,s3,s4,s5,s6,s7,s8,s9,s10,s11,s12,s13,s14,s15⟩
              go_simp
              with_reducible rfl
            rotate_left
            · simp only [Act.put,q1,q2,q3,i64_w,i32_w]
              rfl
            refine take_ (i:=8) (N:=some 19) (v:=?_) (a':=?_) #[true,true,true,true,true,true,true,true,true,false,false,false,true,false,false] rfl rfl (take_ofW HT_.out HW_.out (by kernel_rfl)) (fun _ _ _ h => h) (Or.inl ⟨by rfl,?_⟩) hHeld ?_ ?_
            rotate_left
            · rintro w' ⟨s0,s1,s2,s3,s4,s5,s6,s7,s8,s9,s10,s11,s12,s13,s14,s15⟩
              go_simp
              with_reducible rfl
            rotate_left
            · simp only [Act.put,q1,q2,q3,i64_w,i32_w]
              rfl
            refine pure_ (i:=9) (N:=some 20) (v:=?_) (a':=?_) #[true,true,true,true,true,true,true,true,true,true,false,false,true,false,false] rfl rfl (any_of HT_.out (by kernel_rfl)) (fun _ _ _ h => h) (Or.inl ⟨by rfl,?_⟩) ?_ ?_
            rotate_left
            · intro w'
              go_simp
              with_reducible rfl
            rotate_left
            · simp only [Act.put,q1,q2,q3,i64_w,i32_w]
              rfl
            refine one_ (i:=10) (N:=some 21) #[true,true,true,true,true,true,true,true,true,true,true,false,true,false,false] rfl rfl (one_of HT_.out (by kernel_rfl)) (by decide) (fun K hK => ?_);refine goes_ Try.func36 (by kernel_rfl) rfl #[.int .i64 (wrap64 (a0_1 * a1_1)),.int .i64 256] (by rfl) rfl rfl (by (try simp only [List.map_toArray,List.map_cons,List.map_nil]);first|done|rfl|(simp only [List.length_drop,List.length_take];rfl)) ?_
            with_reducible refine (celluloidref14_floor.calls (wrap64 (a0_1 * a1_1)) 256 t448 _ A19.out).mono ?_
            rintro e w' ⟨rfl,⟨nd,rfl⟩⟩
            refine ⟨_,rfl,?_⟩;refine hK.out _ _ ⟨(bc BK440.out 0).trans rfl,(bc BK440.out 1).trans rfl,(bc BK440.out 2).trans rfl,(bc BK440.out 3).trans rfl,(bc BK440.out 4).trans rfl,(bc BK440.out 5).trans rfl,(bc BK440.out 6).trans rfl,(bc BK440.out 7).trans rfl,(bc BK441.out 0).trans rfl,(bc BK441.out 1).trans rfl,(bc BK441.out 2).trans rfl,(bc BK441.out 3).trans rfl,(bc BK441.out 4).trans rfl,(bc BK441.out 5).trans rfl,(bc BK441.out 6).trans rfl,(bc BK441.out 7).trans rfl⟩ (fun hHeld => ?_);clear hK K;refine norm_ (a':=?_) ?_ ?_
            rotate_left
            · show Act.put _ (some 21) _ = _
              simp only [Act.put,q1,q2,q3,i64_w,i32_w]
              rfl
            refine one_ (i:=11) (N:=some 22) #[true,true,true,true,true,true,true,true,true,true,true,true,true,false,false] rfl rfl (one_of HT_.out (by kernel_rfl)) (by decide) (fun K hK => ?_);refine goes_ Try.func40 (by kernel_rfl) rfl #[.int .i64 t448,.int .i64 (-512),.int .i64 512] (by rfl) rfl rfl (by (try simp only [List.map_toArray,List.map_cons,List.map_nil]);first|done|rfl|(simp only [List.length_drop,List.length_take];rfl)) ?_
            with_reducible refine (celluloidref14_end.calls t448 (-512) 512 t449 _ A20.out).mono ?_
            rintro e w' ⟨rfl,⟨nd,rfl⟩⟩
            refine ⟨_,rfl,?_⟩;refine hK.out _ _ ⟨(bc BK440.out 0).trans rfl,(bc BK440.out 1).trans rfl,(bc BK440.out 2).trans rfl,(bc BK440.out 3).trans rfl,(bc BK440.out 4).trans rfl,(bc BK440.out 5).trans rfl,(bc BK440.out 6).trans rfl,(bc BK440.out 7).trans rfl,(bc BK441.out 0).trans rfl,(bc BK441.out 1).trans rfl,(bc BK441.out 2).trans rfl,(bc BK441.out 3).trans rfl,(bc BK441.out 4).trans rfl,(bc BK441.out 5).trans rfl,(bc BK441.out 6).trans rfl,(bc BK441.out 7).trans rfl⟩ (fun hHeld => ?_);clear hK K;refine norm_ (a':=?_) ?_ ?_
            rotate_left
            · show Act.put _ (some 22) _ = _
              simp only [Act.put,q1,q2,q3,i64_w,i32_w]
              rfl
            refine pure_ (i:=13) (N:=some 24) (v:=?_) (a':=?_) #[true,true,true,true,true,true,true,true,true,true,true,true,true,true,false] rfl rfl (any_of HT_.out (by kernel_rfl)) (fun _ _ _ h => h) (Or.inl ⟨by rfl,?_⟩) ?_ ?_
            rotate_left
            · intro w'
              go_simp
              with_reducible rfl
            rotate_left
            · simp only [Act.put,q1,q2,q3,i64_w,i32_w]
              rfl
            refine one_ (i:=14) (N:=none) #[true,true,true,true,true,true,true,true,true,true,true,true,true,true,true] rfl rfl (one_of HT_.out (by kernel_rfl)) (by decide) (fun K hK => ?_);have hs24 : w23.cell? ⟨gb443,1,none⟩ = some (.int .i64 x444001_1):=(bc BK443.out 1).trans rfl;have hfs24:=bz BK443.out 1;have hns24_0:=NB440_443.out;have hns24_1:=NB441_443.out;have hns24_2:=NB442_443.out;have hms24_0:=NB443_440.out;have hms24_1:=NB443_441.out;have hms24_2:=NB443_442.out;refine skip_ (w1:=?_) (by rfl) rfl ?_ ?_
            rotate_left
            · go_simp
              rfl
            refine hK.out _ _ ⟨((cell_far (p:=⟨gb443,_,none⟩) NB440_443.out _).trans (hHeld.1)),((cell_far (p:=⟨gb443,_,none⟩) NB440_443.out _).trans (hHeld.2.1)),((cell_far (p:=⟨gb443,_,none⟩) NB440_443.out _).trans (hHeld.2.2.1)),((cell_far (p:=⟨gb443,_,none⟩) NB440_443.out _).trans (hHeld.2.2.2.1)),((cell_far (p:=⟨gb443,_,none⟩) NB440_443.out _).trans (hHeld.2.2.2.2.1)),((cell_far (p:=⟨gb443,_,none⟩) NB440_443.out _).trans (hHeld.2.2.2.2.2.1)),((cell_far (p:=⟨gb443,_,none⟩) NB440_443.out _).trans (hHeld.2.2.2.2.2.2.1)),((cell_far (p:=⟨gb443,_,none⟩) NB440_443.out _).trans (hHeld.2.2.2.2.2.2.2.1)),((cell_far (p:=⟨gb443,_,none⟩) NB441_443.out _).trans (hHeld.2.2.2.2.2.2.2.2.1)),((cell_far (p:=⟨gb443,_,none⟩) NB441_443.out _).trans (hHeld.2.2.2.2.2.2.2.2.2.1)),((cell_far (p:=⟨gb443,_,none⟩) NB441_443.out _).trans (hHeld.2.2.2.2.2.2.2.2.2.2.1)),((cell_far (p:=⟨gb443,_,none⟩) NB441_443.out _).trans (hHeld.2.2.2.2.2.2.2.2.2.2.2.1)),((cell_far (p:=⟨gb443,_,none⟩) NB441_443.out _).trans (hHeld.2.2.2.2.2.2.2.2.2.2.2.2.1)),((cell_far (p:=⟨gb443,_,none⟩) NB441_443.out _).trans (hHeld.2.2.2.2.2.2.2.2.2.2.2.2.2.1)),((cell_far (p:=⟨gb443,_,none⟩) NB441_443.out _).trans (hHeld.2.2.2.2.2.2.2.2.2.2.2.2.2.2.1)),((cell_far (p:=⟨gb443,_,none⟩) NB441_443.out _).trans (hHeld.2.2.2.2.2.2.2.2.2.2.2.2.2.2.2))⟩ (fun hHeld => ?_);clear hK K;refine done_ (done_of HT_.out (by kernel_rfl)) ?_
            try go_wp2
            first|(rw [drewN_self w23];generalize hq_ : World.drewN w23 _ = wq_)|(generalize hq_ : w23 = wq_)
            have n0_ : Aside0 ((wq_.setCell ⟨gb443,1,none⟩ (.int .i64 t449)).heap[gb440]? = some (.cells #[.int .i64 a0_0,.int .i64 a0_1,.int .i64 a0_2,.int .i64 a0_3,.int .i64 a0_4,.int .i64 a0_5,.int .i64 a0_6,.int .i64 a0_7] 41 (0,0))):=⟨by rw [← hq_];exact by (with_reducible repeat (first|refine bn ?_ _|refine bd ?_|refine ba ?_ _|refine bf ?_ NB440_443.out _));exact BK440.out⟩;have n1_ : Aside0 ((wq_.setCell ⟨gb443,1,none⟩ (.int .i64 t449)).heap[gb441]? = some (.cells #[.int .i64 a1_0,.int .i64 a1_1,.int .i64 a1_2,.int .i64 a1_3,.int .i64 a1_4,.int .i64 a1_5,.int .i64 a1_6,.int .i64 a1_7] 41 (0,0))):=⟨by rw [← hq_];exact by (with_reducible repeat (first|refine bn ?_ _|refine bd ?_|refine ba ?_ _|refine bf ?_ NB441_443.out _));exact BK441.out⟩;have n2_ : Aside0 ((wq_.setCell ⟨gb443,1,none⟩ (.int .i64 t449)).heap[gb442]? = some (.cells #[.int .i64 0,.int .i64 0,.int .i64 0,.int .i64 0,.int .i64 0,.int .i64 0,.int .i64 0,.int .i64 0] 41 (0,0))):=⟨by rw [← hq_];exact by (with_reducible repeat (first|refine bn ?_ _|refine bd ?_|refine ba ?_ _|refine bf ?_ NB442_443.out _));exact BK442.out⟩;have n3_ : Aside0 ((wq_.setCell ⟨gb443,1,none⟩ (.int .i64 t449)).heap[gb443]? = some (.cells #[.int .i64 x444000_1,.int .i64 t449,.int .i64 x444002_1,.int .i64 x444003_1,.int .i64 x444004_1,.int .i64 x444005_1,.int .i64 x444006_1,.int .i64 x444007_1] 41 (0,0))):=⟨by rw [← hq_];exact by (with_reducible repeat (first|refine bn ?_ _|refine bd ?_|refine ba ?_ _));refine bp (cs:=#[.int .i64 x444000_1,.int .i64 x444001_1,.int .i64 x444002_1,.int .i64 x444003_1,.int .i64 x444004_1,.int .i64 x444005_1,.int .i64 x444006_1,.int .i64 x444007_1]) ?_ 1 _ rfl;(with_reducible repeat (first|refine bn ?_ _|refine bd ?_|refine ba ?_ _));exact BK443.out⟩;have n4_ : Aside0 (Below w.heap.size w (wq_.setCell ⟨gb443,1,none⟩ (.int .i64 t449))):=⟨by rw [← hq_];exact by repeat (first|(with_reducible first|exact HB.out|apply sa|apply sn|apply sd|refine sy ?_ (by assumption))|exact HB.out)⟩;(try clear BK440);(try clear BK441);(try clear BK442);(try clear BK443);(try clear HB);generalize (wq_.setCell ⟨gb443,1,none⟩ (.int .i64 t449)) = w25 at n0_ n1_ n2_ n3_ n4_ ⊢;have BK440:=n0_;have BK441:=n1_;have BK442:=n2_;have BK443:=n3_;have HB:=n4_;clear n0_ n1_ n2_ n3_ n4_
            (repeat (rw [drewN_self w25];generalize hq_ : World.drewN w25 _ = w25;have n0_ : Aside0 (w25.heap[gb440]? = some (.cells #[.int .i64 a0_0,.int .i64 a0_1,.int .i64 a0_2,.int .i64 a0_3,.int .i64 a0_4,.int .i64 a0_5,.int .i64 a0_6,.int .i64 a0_7] 41 (0,0))):=⟨by rw [← hq_];exact (by exact BK440.out)⟩;have n1_ : Aside0 (w25.heap[gb441]? = some (.cells #[.int .i64 a1_0,.int .i64 a1_1,.int .i64 a1_2,.int .i64 a1_3,.int .i64 a1_4,.int .i64 a1_5,.int .i64 a1_6,.int .i64 a1_7] 41 (0,0))):=⟨by rw [← hq_];exact (by exact BK441.out)⟩;have n2_ : Aside0 (w25.heap[gb442]? = some (.cells #[.int .i64 0,.int .i64 0,.int .i64 0,.int .i64 0,.int .i64 0,.int .i64 0,.int .i64 0,.int .i64 0] 41 (0,0))):=⟨by rw [← hq_];exact (by exact BK442.out)⟩;have n3_ : Aside0 (w25.heap[gb443]? = some (.cells #[.int .i64 x444000_1,.int .i64 t449,.int .i64 x444002_1,.int .i64 x444003_1,.int .i64 x444004_1,.int .i64 x444005_1,.int .i64 x444006_1,.int .i64 x444007_1] 41 (0,0))):=⟨by rw [← hq_];exact (by exact BK443.out)⟩;have n4_ : Aside0 (Below w.heap.size w w25):=⟨by rw [← hq_];exact (by repeat (first|(with_reducible first|exact HB.out|apply sa|apply sn|apply sd|refine sy ?_ (by assumption))|exact HB.out))⟩;clear BK440 BK441 BK442 BK443 HB hq_;have BK440:=n0_;have BK441:=n1_;have BK442:=n2_;have BK443:=n3_;have HB:=n4_;clear n0_ n1_ n2_ n3_ n4_))
            replace BK440:=am (bd BK440.out);replace BK441:=am (bd BK441.out);replace BK442:=am (bd BK442.out);replace BK443:=am (bd BK443.out);replace HB:=am (sd HB.out);refine start_ (n:=20) (S:=fun w' => w'.cell? ⟨gb441,0,none⟩ = some (.int .i64 a1_0) ∧ w'.cell? ⟨gb441,1,none⟩ = some (.int .i64 a1_1) ∧ w'.cell? ⟨gb441,2,none⟩ = some (.int .i64 a1_2) ∧ w'.cell? ⟨gb441,3,none⟩ = some (.int .i64 a1_3) ∧ w'.cell? ⟨gb441,4,none⟩ = some (.int .i64 a1_4) ∧ w'.cell? ⟨gb441,5,none⟩ = some (.int .i64 a1_5) ∧ w'.cell? ⟨gb441,6,none⟩ = some (.int .i64 a1_6) ∧ w'.cell? ⟨gb441,7,none⟩ = some (.int .i64 a1_7) ∧ w'.cell? ⟨gb440,0,none⟩ = some (.int .i64 a0_0) ∧ w'.cell? ⟨gb440,1,none⟩ = some (.int .i64 a0_1) ∧ w'.cell? ⟨gb440,2,none⟩ = some (.int .i64 a0_2) ∧ w'.cell? ⟨gb440,3,none⟩ = some (.int .i64 a0_3) ∧ w'.cell? ⟨gb440,4,none⟩ = some (.int .i64 a0_4) ∧ w'.cell? ⟨gb440,5,none⟩ = some (.int .i64 a0_5) ∧ w'.cell? ⟨gb440,6,none⟩ = some (.int .i64 a0_6) ∧ w'.cell? ⟨gb440,7,none⟩ = some (.int .i64 a0_7)) (ds:=[]) #[false,false,false,false,false,false,false,false,false,false,false,false,false,false,false,false,false,false,false,false] (by kernel_rfl) rfl rfl ⟨(bc BK441.out 0).trans rfl,(bc BK441.out 1).trans rfl,(bc BK441.out 2).trans rfl,(bc BK441.out 3).trans rfl,(bc BK441.out 4).trans rfl,(bc BK441.out 5).trans rfl,(bc BK441.out 6).trans rfl,(bc BK441.out 7).trans rfl,(bc BK440.out 0).trans rfl,(bc BK440.out 1).trans rfl,(bc BK440.out 2).trans rfl,(bc BK440.out 3).trans rfl,(bc BK440.out 4).trans rfl,(bc BK440.out 5).trans rfl,(bc BK440.out 6).trans rfl,(bc BK440.out 7).trans rfl⟩ (fun hHeld => ?_);refine with_tabW celluloidref14_ComposeCx.tab6 celluloidref14_ComposeCx.bits6 (fun HT_ HW_ => ?_);generalize w25.drew = w26 at BK440 BK441 BK442 BK443 HB hHeld ⊢;refine pure_ (i:=0) (N:=some 25) (v:=?_) (a':=?_) #[true,false,false,false,false,false,false,false,false,false,false,false,false,false,false,false,false,false,false,false] rfl rfl (any_of HT_.out (by kernel_rfl)) (fun _ _ _ h => h) (Or.inl ⟨by rfl,?_⟩) ?_ ?_
            rotate_left
            · intro w'
              go_simp
              with_reducible rfl
            rotate_left
            · simp only [Act.put,q1,q2,q3,i64_w,i32_w]
              rfl
            refine pure_ (i:=1) (N:=some 26) (v:=?_) (a':=?_) #[true,true,false,false,false,false,false,false,false,false,false,false,false,false,false,false,false,false,false,false] rfl rfl (any_of HT_.out (by kernel_rfl)) (fun _ _ _ h => h) (Or.inl ⟨by rfl,?_⟩) ?_ ?_
            rotate_left
            · intro w'
              go_simp
              with_reducible rfl
            rotate_left
            · simp only [Act.put,q1,q2,q3,i64_w,i32_w]
              rfl
            refine pure_ (i:=2) (N:=some 27) (v:=?_) (a':=?_) #[true,true,true,false,false,false,false,false,false,false,false,false,false,false,false,false,false,false,false,false] rfl rfl (any_of HT_.out (by kernel_rfl)) (fun _ _ _ h => h) (Or.inl ⟨by rfl,?_⟩) ?_ ?_
            rotate_left
            · intro w'
              go_simp
              with_reducible rfl
            rotate_left
            · simp only [Act.put,q1,q2,q3,i64_w,i32_w]
              rfl
            refine pure_ (i:=3) (N:=some 28) (v:=?_) (a':=?_) #[true,true,true,true,false,false,false,false,false,false,false,false,false,false,false,false,false,false,false,false] rfl rfl (any_of HT_.out (by kernel_rfl)) (fun _ _ _ h => h) (Or.inl ⟨by rfl,?_⟩) ?_ ?_
            rotate_left
            · intro w'
              go_simp
              with_reducible rfl
            rotate_left
            · simp only [Act.put,q1,q2,q3,i64_w,i32_w]
              rfl
            refine pure_ (i:=5) (N:=some 30) (v:=?_) (a':=?_) #[true,true,true,true,false,true,false,false,false,false,false,false,false,false,false,false,false,false,false,false] rfl rfl (any_of HT_.out (by kernel_rfl)) (fun _ _ _ h => h) (Or.inl ⟨by rfl,?_⟩) ?_ ?_
            rotate_left
            · intro w'
              go_simp
              with_reducible rfl
            rotate_left
            · simp only [Act.put,q1,q2,q3,i64_w,i32_w]
              rfl
            refine pure_ (i:=6) (N:=some 31) (v:=?_) (a':=?_) #[true,true,true,true,false,true,true,false,false,false,false,false,false,false,false,false,false,false,false,false] rfl rfl (any_of HT_.out (by kernel_rfl)) (fun _ _ _ h => h) (Or.inl ⟨by rfl,?_⟩) ?_ ?_
            rotate_left
            · intro w'
              go_simp
              with_reducible rfl
            rotate_left
            · simp only [Act.put,q1,q2,q3,i64_w,i32_w]
              rfl
            refine pure_ (i:=7) (N:=some 32) (v:=?_) (a':=?_) #[true,true,true,true,false,true,true,true,false,false,false,false,false,false,false,false,false,false,false,false] rfl rfl (any_of HT_.out (by kernel_rfl)) (fun _ _ _ h => h) (Or.inl ⟨by rfl,?_⟩) ?_ ?_
            rotate_left
            · intro w'
              go_simp
              with_reducible rfl
            rotate_left
            · simp only [Act.put,q1,q2,q3,i64_w,i32_w]
              rfl
            refine pure_ (i:=11) (N:=some 36) (v:=?_) (a':=?_) #[true,true,true,true,false,true,true,true,false,false,false,true,false,false,false,false,false,false,false,false] rfl rfl (any_of HT_.out (by kernel_rfl)) (fun _ _ _ h => h) (Or.inl ⟨by rfl,?_⟩) ?_ ?_
            rotate_left
            · intro w'
              go_simp
              with_reducible rfl
            rotate_left
            · simp only [Act.put,q1,q2,q3,i64_w,i32_w]
              rfl
            refine pure_ (i:=12) (N:=some 37) (v:=?_) (a':=?_) #[true,true,true,true,false,true,true,true,false,false,false,true,true,false,false,false,false,false,false,false] rfl rfl (any_of HT_.out (by kernel_rfl)) (fun _ _ _ h => h) (Or.inl ⟨by rfl,?_⟩) ?_ ?_
            rotate_left
            · intro w'
              go_simp
              with_reducible rfl
            rotate_left
            · simp only [Act.put,q1,q2,q3,i64_w,i32_w]
              rfl
            refine pure_ (i:=13) (N:=some 38) (v:=?_) (a':=?_) #[true,true,true,true,false,true,true,true,false,false,false,true,true,true,false,false,false,false,false,false] rfl rfl (any_of HT_.out (by kernel_rfl)) (fun _ _ _ h => h) (Or.inl ⟨by rfl,?_⟩) ?_ ?_
            rotate_left
            · intro w'
              go_simp
              with_reducible rfl
            rotate_left
            · simp only [Act.put,q1,q2,q3,i64_w,i32_w]
              rfl
            refine pure_ (i:=17) (N:=some 42) (v:=?_) (a':=?_) #[true,true,true,true,false,true,true,true,false,false,false,true,true,true,false,false,false,true,false,false] rfl rfl (any_of HT_.out (by kernel_rfl)) (fun _ _ _ h => h) (Or.inl ⟨by rfl,?_⟩) ?_ ?_
            rotate_left
            · intro w'
              go_simp
              with_reducible rfl
            rotate_left
            · simp only [Act.put,q1,q2,q3,i64_w,i32_w]
              rfl
            refine take_ (i:=4) (N:=some 29) (v:=?_) (a':=?_) #[true,true,true,true,true,true,true,true,false,false,false,true,true,true,false,false,false,true,false,false] rfl rfl (take_ofW HT_.out HW_.out (by kernel_rfl)) (fun _ _ _ h => h) (Or.inl ⟨by rfl,?_⟩) hHeld ?_ ?_
            rotate_left
            · rintro w' ⟨s0,s1,s2,s3,s4,s5,s6,s7,s8,s9,s10,s11,s12,s13,s14,s15⟩
              go_simp
              with_reducible rfl
            rotate_left
            · simp only [Act.put,q1,q2,q3,i64_w,i32_w]
              rfl
            refine take_ (i:=8) (N:=some 33) (v:=?_) (a':=?_) #[true,true,true,true,true,true,true,true,true,false,false,true,true,true,false,false,false,true,false,false] rfl rfl (take_ofW HT_.out HW_.out (by kernel_rfl)) (fun _ _ _ h => h) (Or.inl ⟨by rfl,?_⟩) hHeld ?_ ?_
            rotate_left
            · rintro w' ⟨s0,s1,s2,s3,s4,s5,s6,s7,s8,s9,s10,s11,s12,s13,s14,s15⟩
              go_simp
              with_reducible rfl
            rotate_left
            · simp only [Act.put,q1,q2,q3,i64_w,i32_w]
              rfl
            refine pure_ (i:=9) (N:=some 34) (v:=?_) (a':=?_) #[true,true,true,true,true,true,true,true,true,true,false,true,true,true,false,false,false,true,false,false] rfl rfl (any_of HT_.out (by kernel_rfl)) (fun _ _ _ h => h) (Or.inl ⟨by rfl,?_⟩) ?_ ?_
            rotate_left
            · intro w'
              go_simp
              with_reducible rfl
            rotate_left
            · simp only [Act.put,q1,q2,q3,i64_w,i32_w]
              rfl
            refine take_ (i:=14) (N:=some 39) (v:=?_) (a':=?_) #[true,true,true,true,true,true,true,true,true,true,false,true,true,true,true,false,false,true,false,false] rfl rfl (take_ofW HT_.out HW_.out (by kernel_rfl)) (fun _ _ _ h => h) (Or.inl ⟨by rfl,?_⟩) hHeld ?_ ?_
            rotate_left
            · rintro w' ⟨s0,s1,s2,s3,s4,s5,s6,s7,s8,s9,s10,s11,s12,s13,s14,s15⟩
              go_simp
              with_reducible rfl
            rotate_left
            · simp only [Act.put,q1,q2,q3,i64_w,i32_w]
              rfl
            refine one_ (i:=10) (N:=some 35) #[true,true,true,true,true,true,true,true,true,true,true,true,true,true,true,false,false,true,false,false] rfl rfl (one_of HT_.out (by kernel_rfl)) (by decide) (fun K hK => ?_);refine goes_ Try.func36 (by kernel_rfl) rfl #[.int .i64 (wrap64 (a1_5 * a0_1)),.int .i64 256] (by rfl) rfl rfl (by (try simp only [List.map_toArray,List.map_cons,List.map_nil]);first|done|rfl|(simp only [List.length_drop,List.length_take];rfl)) ?_
            with_reducible refine (celluloidref14_floor.calls (wrap64 (a1_5 * a0_1)) 256 t450 _ A21.out).mono ?_
            rintro e w' ⟨rfl,⟨nd,rfl⟩⟩
            refine ⟨_,rfl,?_⟩;refine hK.out _ _ ⟨(bc BK441.out 0).trans rfl,(bc BK441.out 1).trans rfl,(bc BK441.out 2).trans rfl,(bc BK441.out 3).trans rfl,(bc BK441.out 4).trans rfl,(bc BK441.out 5).trans rfl,(bc BK441.out 6).trans rfl,(bc BK441.out 7).trans rfl,(bc BK440.out 0).trans rfl,(bc BK440.out 1).trans rfl,(bc BK440.out 2).trans rfl,(bc BK440.out 3).trans rfl,(bc BK440.out 4).trans rfl,(bc BK440.out 5).trans rfl,(bc BK440.out 6).trans rfl,(bc BK440.out 7).trans rfl⟩ (fun hHeld => ?_);clear hK K;refine norm_ (a':=?_) ?_ ?_
            rotate_left
            · show Act.put _ (some 35) _ = _
              simp only [Act.put,q1,q2,q3,i64_w,i32_w]
              rfl
            refine pure_ (i:=15) (N:=some 40) (v:=?_) (a':=?_) #[true,true,true,true,true,true,true,true,true,true,true,true,true,true,true,true,false,true,false,false] rfl rfl (any_of HT_.out (by kernel_rfl)) (fun _ _ _ h => h) (Or.inl ⟨by rfl,?_⟩) ?_ ?_
            rotate_left
            · intro w'
              go_simp
              with_reducible rfl
            rotate_left
            · simp only [Act.put,q1,q2,q3,i64_w,i32_w]
              rfl
            refine one_ (i:=16) (N:=some 41) #[true,true,true,true,true,true,true,true,true,true,true,true,true,true,true,true,true,true,false,false] rfl rfl (one_of HT_.out (by kernel_rfl)) (by decide) (fun K hK => ?_);refine goes_ Try.func40 (by kernel_rfl) rfl #[.int .i64 (wrap64 (t450 + a0_5)),.int .i64 (-255),.int .i64 255] (by rfl) rfl rfl (by (try simp only [List.map_toArray,List.map_cons,List.map_nil]);first|done|rfl|(simp only [List.length_drop,List.length_take];rfl)) ?_
            with_reducible refine (celluloidref14_end.calls (wrap64 (t450 + a0_5)) (-255) 255 t451 _ A22.out).mono ?_
            rintro e w' ⟨rfl,⟨nd,rfl⟩⟩
            refine ⟨_,rfl,?_⟩;refine hK.out _ _ ⟨(bc BK441.out 0).trans rfl,(bc BK441.out 1).trans rfl,(bc BK441.out 2).trans rfl,(bc BK441.out 3).trans rfl,(bc BK441.out 4).trans rfl,(bc BK441.out 5).trans rfl,(bc BK441.out 6).trans rfl,(bc BK441.out 7).trans rfl,(bc BK440.out 0).trans rfl,(bc BK440.out 1).trans rfl,(bc BK440.out 2).trans rfl,(bc BK440.out 3).trans rfl,(bc BK440.out 4).trans rfl,(bc BK440.out 5).trans rfl,(bc BK440.out 6).trans rfl,(bc BK440.out 7).trans rfl⟩ (fun hHeld => ?_);clear hK K;refine norm_ (a':=?_) ?_ ?_
            rotate_left
            · show Act.put _ (some 41) _ = _
              simp only [Act.put,q1,q2,q3,i64_w,i32_w]
              rfl
            refine pure_ (i:=18) (N:=some 43) (v:=?_) (a':=?_) #[true,true,true,true,true,true,true,true,true,true,true,true,true,true,true,true,true,true,true,false] rfl rfl (any_of HT_.out (by kernel_rfl)) (fun _ _ _ h => h) (Or.inl ⟨by rfl,?_⟩) ?_ ?_
            rotate_left
            · intro w'
              go_simp
              with_reducible rfl
            rotate_left
            · simp only [Act.put,q1,q2,q3,i64_w,i32_w]
              rfl
            refine one_ (i:=19) (N:=none) #[true,true,true,true,true,true,true,true,true,true,true,true,true,true,true,true,true,true,true,true] rfl rfl (one_of HT_.out (by kernel_rfl)) (by decide) (fun K hK => ?_);have hs27 : w26.cell? ⟨gb443,5,none⟩ = some (.int .i64 x444005_1):=(bc BK443.out 5).trans rfl;have hfs27:=bz BK443.out 5;have hns27_0:=NB440_443.out;have hns27_1:=NB441_443.out;have hns27_2:=NB442_443.out;have hms27_0:=NB443_440.out;have hms27_1:=NB443_441.out;have hms27_2:=NB443_442.out;refine skip_ (w1:=?_) (by rfl) rfl ?_ ?_
            rotate_left
            · go_simp
              rfl
            refine hK.out _ _ ⟨((cell_far (p:=⟨gb443,_,none⟩) NB441_443.out _).trans (hHeld.1)),((cell_far (p:=⟨gb443,_,none⟩) NB441_443.out _).trans (hHeld.2.1)),((cell_far (p:=⟨gb443,_,none⟩) NB441_443.out _).trans (hHeld.2.2.1)),((cell_far (p:=⟨gb443,_,none⟩) NB441_443.out _).trans (hHeld.2.2.2.1)),((cell_far (p:=⟨gb443,_,none⟩) NB441_443.out _).trans (hHeld.2.2.2.2.1)),((cell_far (p:=⟨gb443,_,none⟩) NB441_443.out _).trans (hHeld.2.2.2.2.2.1)),((cell_far (p:=⟨gb443,_,none⟩) NB441_443.out _).trans (hHeld.2.2.2.2.2.2.1)),((cell_far (p:=⟨gb443,_,none⟩) NB441_443.out _).trans (hHeld.2.2.2.2.2.2.2.1)),((cell_far (p:=⟨gb443,_,none⟩) NB440_443.out _).trans (hHeld.2.2.2.2.2.2.2.2.1)),((cell_far (p:=⟨gb443,_,none⟩) NB440_443.out _).trans (hHeld.2.2.2.2.2.2.2.2.2.1)),((cell_far (p:=⟨gb443,_,none⟩) NB440_443.out _).trans (hHeld.2.2.2.2.2.2.2.2.2.2.1)),((cell_far (p:=⟨gb443,_,none⟩) NB440_443.out _).trans (hHeld.2.2.2.2.2.2.2.2.2.2.2.1)),((cell_far (p:=⟨gb443,_,none⟩) NB440_443.out _).trans (hHeld.2.2.2.2.2.2.2.2.2.2.2.2.1)),((cell_far (p:=⟨gb443,_,none⟩) NB440_443.out _).trans (hHeld.2.2.2.2.2.2.2.2.2.2.2.2.2.1)),((cell_far (p:=⟨gb443,_,none⟩) NB440_443.out _).trans (hHeld.2.2.2.2.2.2.2.2.2.2.2.2.2.2.1)),((cell_far (p:=⟨gb443,_,none⟩) NB440_443.out _).trans (hHeld.2.2.2.2.2.2.2.2.2.2.2.2.2.2.2))⟩ (fun hHeld => ?_);clear hK K;refine done_ (done_of HT_.out (by kernel_rfl)) ?_
            try go_wp2
            go_roundg k1
            case measure => have:=HK1.out;omega
            case rel => exact ⟨(1 + 1),(x444000_1),(t449),(x444002_1),(x444003_1),(x444004_1),(t451),(x444006_1),(x444007_1),(by first|rfl|(simp;done)|(simp [*];done)),H',⟨by have:=HK1.out;omega⟩,⟨by (with_reducible repeat (first|refine bn ?_ _|refine bd ?_|refine ba ?_ _|refine bf ?_ NB440_443.out _));exact BK440.out⟩,⟨by (with_reducible repeat (first|refine bn ?_ _|refine bd ?_|refine ba ?_ _|refine bf ?_ NB441_443.out _));exact BK441.out⟩,⟨by (with_reducible repeat (first|refine bn ?_ _|refine bd ?_|refine ba ?_ _|refine bf ?_ NB442_443.out _));exact BK442.out⟩,⟨by (with_reducible repeat (first|refine bn ?_ _|refine bd ?_|refine ba ?_ _));refine bp (cs:=#[.int .i64 x444000_1,.int .i64 t449,.int .i64 x444002_1,.int .i64 x444003_1,.int .i64 x444004_1,.int .i64 x444005_1,.int .i64 x444006_1,.int .i64 x444007_1]) ?_ 5 _ rfl;(with_reducible repeat (first|refine bn ?_ _|refine bd ?_|refine ba ?_ _));exact BK443.out⟩,⟨by repeat (first|(with_reducible first|exact HB.out|apply sa|apply sn|apply sd|refine sy ?_ (by assumption))|exact HB.out)⟩⟩
          · rw [if_neg c18] at H
            by_cases c28 : x6_1 = 2
            · subst c28
              have H1 : ((celluloidref14_floor.f (wrap64 (a0_2 * a1_2)) 256).bind fun t452 => ((celluloidref14_end.f t452 (-512) 512).bind fun t453 => ((celluloidref14_floor.f (wrap64 (a1_6 * a0_2)) 256).bind fun t454 => ((celluloidref14_end.f (wrap64 (t454 + a0_6)) (-255) 255).bind fun t455 => (celluloidref14_ComposeCx.l0 k1 (2 + 1) a0_0 a0_1 a0_2 a0_3 a0_4 a0_5 a0_6 a0_7 a1_0 a1_1 a1_2 a1_3 a1_4 a1_5 a1_6 a1_7 x444000_1 x444001_1 t453 x444003_1 x444004_1 x444005_1 t455 x444007_1))))) = some (r1,r2,r3,r4,r5,r6,r7,r8):=by rw [if_pos rfl] at H;exact H
              clear H;have H:=H1;clear H1;replace H:=Option.bind_eq_some_iff.mp H;obtain ⟨t452,A290,H⟩:=H;replace H : ((celluloidref14_end.f t452 (-512) 512).bind fun t453 => ((celluloidref14_floor.f (wrap64 (a1_6 * a0_2)) 256).bind fun t454 => ((celluloidref14_end.f (wrap64 (t454 + a0_6)) (-255) 255).bind fun t455 => (celluloidref14_ComposeCx.l0 k1 (2 + 1) a0_0 a0_1 a0_2 a0_3 a0_4 a0_5 a0_6 a0_7 a1_0 a1_1 a1_2 a1_3 a1_4 a1_5 a1_6 a1_7 x444000_1 x444001_1 t453 x444003_1 x444004_1 x444005_1 t455 x444007_1)))) = some (r1,r2,r3,r4,r5,r6,r7,r8):=H;have A29:=am A290;clear A290;replace H:=Option.bind_eq_some_iff.mp H;obtain ⟨t453,A300,H⟩:=H;replace H : ((celluloidref14_floor.f (wrap64 (a1_6 * a0_2)) 256).bind fun t454 => ((celluloidref14_end.f (wrap64 (t454 + a0_6)) (-255) 255).bind fun t455 => (celluloidref14_ComposeCx.l0 k1 (2 + 1) a0_0 a0_1 a0_2 a0_3 a0_4 a0_5 a0_6 a0_7 a1_0 a1_1 a1_2 a1_3 a1_4 a1_5 a1_6 a1_7 x444000_1 x444001_1 t453 x444003_1 x444004_1 x444005_1 t455 x444007_1))) = some (r1,r2,r3,r4,r5,r6,r7,r8):=H;have A30:=am A300;clear A300;replace H:=Option.bind_eq_some_iff.mp H;obtain ⟨t454,A310,H⟩:=H;replace H : ((celluloidref14_end.f (wrap64 (t454 + a0_6)) (-255) 255).bind fun t455 => (celluloidref14_ComposeCx.l0 k1 (2 + 1) a0_0 a0_1 a0_2 a0_3 a0_4 a0_5 a0_6 a0_7 a1_0 a1_1 a1_2 a1_3 a1_4 a1_5 a1_6 a1_7 x444000_1 x444001_1 t453 x444003_1 x444004_1 x444005_1 t455 x444007_1)) = some (r1,r2,r3,r4,r5,r6,r7,r8):=H;have A31:=am A310;clear A310;replace H:=Option.bind_eq_some_iff.mp H;obtain ⟨t455,A320,H⟩:=H;replace H : (celluloidref14_ComposeCx.l0 k1 (2 + 1) a0_0 a0_1 a0_2 a0_3 a0_4 a0_5 a0_6 a0_7 a1_0 a1_1 a1_2 a1_3 a1_4 a1_5 a1_6 a1_7 x444000_1 x444001_1 t453 x444003_1 x444004_1 x444005_1 t455 x444007_1) = some (r1,r2,r3,r4,r5,r6,r7,r8):=H;have A32:=am A320;clear A320;have H':=am H;clear H
              try go_wp2
              replace BK440:=am (bd BK440.out);replace BK441:=am (bd BK441.out);replace BK442:=am (bd BK442.out);replace BK443:=am (bd BK443.out);replace HB:=am (sd HB.out);refine start_ (n:=15) (S:=fun w' => w'.cell? ⟨gb440,0,none⟩ = some (.int .i64 a0_0) ∧ w'.cell? ⟨gb440,1,none⟩ = some (.int .i64 a0_1) ∧ w'.cell? ⟨gb440,2,none⟩ = some (.int .i64 a0_2) ∧ w'.cell? ⟨gb440,3,none⟩ = some (.int .i64 a0_3) ∧ w'.cell? ⟨gb440,4,none⟩ = some (.int .i64 a0_4) ∧ w'.cell? ⟨gb440,5,none⟩ = some (.int .i64 a0_5) ∧ w'.cell? ⟨gb440,6,none⟩ = some (.int .i64 a0_6) ∧ w'.cell? ⟨gb440,7,none⟩ = some (.int .i64 a0_7) ∧ w'.cell? ⟨gb441,0,none⟩ = some (.int .i64 a1_0) ∧ w'.cell? ⟨gb441,1,none⟩ = some (.int .i64 a1_1) ∧ w'.cell? ⟨gb441,2,none⟩ = some (.int .i64 a1_2) ∧ w'.cell? ⟨gb441,3,none⟩ = some (.int .i64 a1_3) ∧ w'.cell? ⟨gb441,4,none⟩ = some (.int .i64 a1_4) ∧ w'.cell? ⟨gb441,5,none⟩ = some (.int .i64 a1_5) ∧ w'.cell? ⟨gb441,6,none⟩ = some (.int .i64 a1_6) ∧ w'.cell? ⟨gb441,7,none⟩ = some (.int .i64 a1_7)) (ds:=[]) #[false,false,false,false,false,false,false,false,false,false,false,false,false,false,false] (by kernel_rfl) rfl rfl ⟨(bc BK440.out 0).trans rfl,(bc BK440.out 1).trans rfl,(bc BK440.out 2).trans rfl,(bc BK440.out 3).trans rfl,(bc BK440.out 4).trans rfl,(bc BK440.out 5).trans rfl,(bc BK440.out 6).trans rfl,(bc BK440.out 7).trans rfl,(bc BK441.out 0).trans rfl,(bc BK441.out 1).trans rfl,(bc BK441.out 2).trans rfl,(bc BK441.out 3).trans rfl,(bc BK441.out 4).trans rfl,(bc BK441.out 5).trans rfl,(bc BK441.out 6).trans rfl,(bc BK441.out 7).trans rfl⟩ (fun hHeld => ?_);refine with_tabW celluloidref14_ComposeCx.tab5 celluloidref14_ComposeCx.bits5 (fun HT_ HW_ => ?_);generalize wr.drew = w33 at BK440 BK441 BK442 BK443 HB hHeld ⊢;refine pure_ (i:=0) (N:=some 11) (v:=?_) (a':=?_) #[true,false,false,false,false,false,false,false,false,false,false,false,false,false,false] rfl rfl (any_of HT_.out (by kernel_rfl)) (fun _ _ _ h => h) (Or.inl ⟨by rfl,?_⟩) ?_ ?_
              rotate_left
              · intro w'
                go_simp
                with_reducible rfl
              rotate_left
              · simp only [Act.put,q1,q2,q3,i64_w,i32_w]
                rfl
              refine pure_ (i:=1) (N:=some 12) (v:=?_) (a':=?_) #[true,true,false,false,false,false,false,false,false,false,false,false,false,false,false] rfl rfl (any_of HT_.out (by kernel_rfl)) (fun _ _ _ h => h) (Or.inl ⟨by rfl,?_⟩) ?_ ?_
              rotate_left
              · intro w'
                go_simp
                with_reducible rfl
              rotate_left
              · simp only [Act.put,q1,q2,q3,i64_w,i32_w]
                rfl
              refine pure_ (i:=2) (N:=some 13) (v:=?_) (a':=?_) #[true,true,true,false,false,false,false,false,false,false,false,false,false,false,false] rfl rfl (any_of HT_.out (by kernel_rfl)) (fun _ _ _ h => h) (Or.inl ⟨by rfl,?_⟩) ?_ ?_
              rotate_left
              · intro w'
                go_simp
                with_reducible rfl
              rotate_left
              · simp only [Act.put,q1,q2,q3,i64_w,i32_w]
                rfl
              refine pure_ (i:=3) (N:=some 14) (v:=?_) (a':=?_) #[true,true,true,true,false,false,false,false,false,false,false,false,false,false,false] rfl rfl (any_of HT_.out (by kernel_rfl)) (fun _ _ _ h => h) (Or.inl ⟨by rfl,?_⟩) ?_ ?_
              rotate_left
              · intro w'
                go_simp
                with_reducible rfl
              rotate_left
              · simp only [Act.put,q1,q2,q3,i64_w,i32_w]
                rfl
              refine pure_ (i:=5) (N:=some 16) (v:=?_) (a':=?_) #[true,true,true,true,false,true,false,false,false,false,false,false,false,false,false] rfl rfl (any_of HT_.out (by kernel_rfl)) (fun _ _ _ h => h) (Or.inl ⟨by rfl,?_⟩) ?_ ?_
              rotate_left
              · intro w'
                go_simp
                with_reducible rfl
              rotate_left
              · simp only [Act.put,q1,q2,q3,i64_w,i32_w]
                rfl
              refine pure_ (i:=6) (N:=some 17) (v:=?_) (a':=?_) #[true,true,true,true,false,true,true,false,false,false,false,false,false,false,false] rfl rfl (any_of HT_.out (by kernel_rfl)) (fun _ _ _ h => h) (Or.inl ⟨by rfl,?_⟩) ?_ ?_
              rotate_left
              · intro w'
                go_simp
                with_reducible rfl
              rotate_left
              · simp only [Act.put,q1,q2,q3,i64_w,i32_w]
                rfl
              refine pure_ (i:=7) (N:=some 18) (v:=?_) (a':=?_) #[true,true,true,true,false,true,true,true,false,false,false,false,false,false,false] rfl rfl (any_of HT_.out (by kernel_rfl)) (fun _ _ _ h => h) (Or.inl ⟨by rfl,?_⟩) ?_ ?_
              rotate_left
              · intro w'
                go_simp
                with_reducible rfl
              rotate_left
              · simp only [Act.put,q1,q2,q3,i64_w,i32_w]
                rfl
              refine pure_ (i:=12) (N:=some 23) (v:=?_) (a':=?_) #[true,true,true,true,false,true,true,true,false,false,false,false,true,false,false] rfl rfl (any_of HT_.out (by kernel_rfl)) (fun _ _ _ h => h) (Or.inl ⟨by rfl,?_⟩) ?_ ?_
              rotate_left
              · intro w'
                go_simp
                with_reducible rfl
              rotate_left
              · simp only [Act.put,q1,q2,q3,i64_w,i32_w]
                rfl
              refine take_ (i:=4) (N:=some 15) (v:=?_) (a':=?_) #[true,true,true,true,true,true,true,true,false,false,false,false,true,false,false] rfl rfl (take_ofW HT_.out HW_.out (by kernel_rfl)) (fun _ _ _ h => h) (Or.inl ⟨by rfl,?_⟩) hHeld ?_ ?_
              rotate_left
              · rintro w' ⟨s0,s1,s2,s3,s4,s5,s6,s7,s8,s9,s10,s11,s12,s13,s14,s15⟩
                go_simp
                with_reducible rfl
              rotate_left
              · simp only [Act.put,q1,q2,q3,i64_w,i32_w]
                rfl
              refine take_ (i:=8) (N:=some 19) (v:=?_) (a':=?_) #[true,true,true,true,true,true,true,true,true,false,false,false,true,false,false] rfl rfl (take_ofW HT_.out HW_.out (by kernel_rfl)) (fun _ _ _ h => h) (Or.inl ⟨by rfl,?_⟩) hHeld ?_ ?_
              rotate_left
              · rintro w' ⟨s0,s1,s2,s3,s4,s5,s6,s7,s8,s9,s10,s11,s12,s13,s14,s15⟩
                go_simp
                with_reducible rfl
              rotate_left
              · simp only [Act.put,q1,q2,q3,i64_w,i32_w]
                rfl
              refine pure_ (i:=9) (N:=some 20) (v:=?_) (a':=?_) #[true,true,true,true,true,true,true,true,true,true,false,false,true,false,false] rfl rfl (any_of HT_.out (by kernel_rfl)) (fun _ _ _ h => h) (Or.inl ⟨by rfl,?_⟩) ?_ ?_
              rotate_left
              · intro w'
                go_simp
                with_reducible rfl
              rotate_left
              · simp only [Act.put,q1,q2,q3,i64_w,i32_w]
                rfl
              refine one_ (i:=10) (N:=some 21) #[true,true,true,true,true,true,true,true,true,true,true,false,true,false,false] rfl rfl (one_of HT_.out (by kernel_rfl)) (by decide) (fun K hK => ?_);refine goes_ Try.func36 (by kernel_rfl) rfl #[.int .i64 (wrap64 (a0_2 * a1_2)),.int .i64 256] (by rfl) rfl rfl (by (try simp only [List.map_toArray,List.map_cons,List.map_nil]);first|done|rfl|(simp only [List.length_drop,List.length_take];rfl)) ?_
              with_reducible refine (celluloidref14_floor.calls (wrap64 (a0_2 * a1_2)) 256 t452 _ A29.out).mono ?_
              rintro e w' ⟨rfl,⟨nd,rfl⟩⟩
              refine ⟨_,rfl,?_⟩;refine hK.out _ _ ⟨(bc BK440.out 0).trans rfl,(bc BK440.out 1).trans rfl,(bc BK440.out 2).trans rfl,(bc BK440.out 3).trans rfl,(bc BK440.out 4).trans rfl,(bc BK440.out 5).trans rfl,(bc BK440.out 6).trans rfl,(bc BK440.out 7).trans rfl,(bc BK441.out 0).trans rfl,(bc BK441.out 1).trans rfl,(bc BK441.out 2).trans rfl,(bc BK441.out 3).trans rfl,(bc BK441.out 4).trans rfl,(bc BK441.out 5).trans rfl,(bc BK441.out 6).trans rfl,(bc BK441.out 7).trans rfl⟩ (fun hHeld => ?_);clear hK K;refine norm_ (a':=?_) ?_ ?_
              rotate_left
              · show Act.put _ (some 21) _ = _
                simp only [Act.put,q1,q2,q3,i64_w,i32_w]
                rfl
              refine one_ (i:=11) (N:=some 22) #[true,true,true,true,true,true,true,true,true,true,true,true,true,false,false] rfl rfl (one_of HT_.out (by kernel_rfl)) (by decide) (fun K hK => ?_);refine goes_ Try.func40 (by kernel_rfl) rfl #[.int .i64 t452,.int .i64 (-512),.int .i64 512] (by rfl) rfl rfl (by (try simp only [List.map_toArray,List.map_cons,List.map_nil]);first|done|rfl|(simp only [List.length_drop,List.length_take];rfl)) ?_
              with_reducible refine (celluloidref14_end.calls t452 (-512) 512 t453 _ A30.out).mono ?_
              rintro e w' ⟨rfl,⟨nd,rfl⟩⟩
              refine ⟨_,rfl,?_⟩;refine hK.out _ _ ⟨(bc BK440.out 0).trans rfl,(bc BK440.out 1).trans rfl,(bc BK440.out 2).trans rfl,(bc BK440.out 3).trans rfl,(bc BK440.out 4).trans rfl,(bc BK440.out 5).trans rfl,(bc BK440.out 6).trans rfl,(bc BK440.out 7).trans rfl,(bc BK441.out 0).trans rfl,(bc BK441.out 1).trans rfl,(bc BK441.out 2).trans rfl,(bc BK441.out 3).trans rfl,(bc BK441.out 4).trans rfl,(bc BK441.out 5).trans rfl,(bc BK441.out 6).trans rfl,(bc BK441.out 7).trans rfl⟩ (fun hHeld => ?_);clear hK K;refine norm_ (a':=?_) ?_ ?_
              rotate_left
              · show Act.put _ (some 22) _ = _
                simp only [Act.put,q1,q2,q3,i64_w,i32_w]
                rfl
              refine pure_ (i:=13) (N:=some 24) (v:=?_) (a':=?_) #[true,true,true,true,true,true,true,true,true,true,true,true,true,true,false] rfl rfl (any_of HT_.out (by kernel_rfl)) (fun _ _ _ h => h) (Or.inl ⟨by rfl,?_⟩) ?_ ?_
              rotate_left
              · intro w'
                go_simp
                with_reducible rfl
              rotate_left
              · simp only [Act.put,q1,q2,q3,i64_w,i32_w]
                rfl
              refine one_ (i:=14) (N:=none) #[true,true,true,true,true,true,true,true,true,true,true,true,true,true,true] rfl rfl (one_of HT_.out (by kernel_rfl)) (by decide) (fun K hK => ?_);have hs34 : w33.cell? ⟨gb443,2,none⟩ = some (.int .i64 x444002_1):=(bc BK443.out 2).trans rfl;have hfs34:=bz BK443.out 2;have hns34_0:=NB440_443.out;have hns34_1:=NB441_443.out;have hns34_2:=NB442_443.out;have hms34_0:=NB443_440.out;have hms34_1:=NB443_441.out;have hms34_2:=NB443_442.out;refine skip_ (w1:=?_) (by rfl) rfl ?_ ?_
              rotate_left
              · go_simp
                rfl
              refine hK.out _ _ ⟨((cell_far (p:=⟨gb443,_,none⟩) NB440_443.out _).trans (hHeld.1)),((cell_far (p:=⟨gb443,_,none⟩) NB440_443.out _).trans (hHeld.2.1)),((cell_far (p:=⟨gb443,_,none⟩) NB440_443.out _).trans (hHeld.2.2.1)),((cell_far (p:=⟨gb443,_,none⟩) NB440_443.out _).trans (hHeld.2.2.2.1)),((cell_far (p:=⟨gb443,_,none⟩) NB440_443.out _).trans (hHeld.2.2.2.2.1)),((cell_far (p:=⟨gb443,_,none⟩) NB440_443.out _).trans (hHeld.2.2.2.2.2.1)),((cell_far (p:=⟨gb443,_,none⟩) NB440_443.out _).trans (hHeld.2.2.2.2.2.2.1)),((cell_far (p:=⟨gb443,_,none⟩) NB440_443.out _).trans (hHeld.2.2.2.2.2.2.2.1)),((cell_far (p:=⟨gb443,_,none⟩) NB441_443.out _).trans (hHeld.2.2.2.2.2.2.2.2.1)),((cell_far (p:=⟨gb443,_,none⟩) NB441_443.out _).trans (hHeld.2.2.2.2.2.2.2.2.2.1)),((cell_far (p:=⟨gb443,_,none⟩) NB441_443.out _).trans (hHeld.2.2.2.2.2.2.2.2.2.2.1)),((cell_far (p:=⟨gb443,_,none⟩) NB441_443.out _).trans (hHeld.2.2.2.2.2.2.2.2.2.2.2.1)),((cell_far (p:=⟨gb443,_,none⟩) NB441_443.out _).trans (hHeld.2.2.2.2.2.2.2.2.2.2.2.2.1)),((cell_far (p:=⟨gb443,_,none⟩) NB441_443.out _).trans (hHeld.2.2.2.2.2.2.2.2.2.2.2.2.2.1)),((cell_far (p:=⟨gb443,_,none⟩) NB441_443.out _).trans (hHeld.2.2.2.2.2.2.2.2.2.2.2.2.2.2.1)),((cell_far (p:=⟨gb443,_,none⟩) NB441_443.out _).trans (hHeld.2.2.2.2.2.2.2.2.2.2.2.2.2.2.2))⟩ (fun hHeld => ?_);clear hK K;refine done_ (done_of HT_.out (by kernel_rfl)) ?_
              try go_wp2
              first|(rw [drewN_self w33];generalize hq_ : World.drewN w33 _ = wq_)|(generalize hq_ : w33 = wq_)
              have n0_ : Aside0 ((wq_.setCell ⟨gb443,2,none⟩ (.int .i64 t453)).heap[gb440]? = some (.cells #[.int .i64 a0_0,.int .i64 a0_1,.int .i64 a0_2,.int .i64 a0_3,.int .i64 a0_4,.int .i64 a0_5,.int .i64 a0_6,.int .i64 a0_7] 41 (0,0))):=⟨by rw [← hq_];exact by (with_reducible repeat (first|refine bn ?_ _|refine bd ?_|refine ba ?_ _|refine bf ?_ NB440_443.out _));exact BK440.out⟩;have n1_ : Aside0 ((wq_.setCell ⟨gb443,2,none⟩ (.int .i64 t453)).heap[gb441]? = some (.cells #[.int .i64 a1_0,.int .i64 a1_1,.int .i64 a1_2,.int .i64 a1_3,.int .i64 a1_4,.int .i64 a1_5,.int .i64 a1_6,.int .i64 a1_7] 41 (0,0))):=⟨by rw [← hq_];exact by (with_reducible repeat (first|refine bn ?_ _|refine bd ?_|refine ba ?_ _|refine bf ?_ NB441_443.out _));exact BK441.out⟩;have n2_ : Aside0 ((wq_.setCell ⟨gb443,2,none⟩ (.int .i64 t453)).heap[gb442]? = some (.cells #[.int .i64 0,.int .i64 0,.int .i64 0,.int .i64 0,.int .i64 0,.int .i64 0,.int .i64 0,.int .i64 0] 41 (0,0))):=⟨by rw [← hq_];exact by (with_reducible repeat (first|refine bn ?_ _|refine bd ?_|refine ba ?_ _|refine bf ?_ NB442_443.out _));exact BK442.out⟩;have n3_ : Aside0 ((wq_.setCell ⟨gb443,2,none⟩ (.int .i64 t453)).heap[gb443]? = some (.cells #[.int .i64 x444000_1,.int .i64 x444001_1,.int .i64 t453,.int .i64 x444003_1,.int .i64 x444004_1,.int .i64 x444005_1,.int .i64 x444006_1,.int .i64 x444007_1] 41 (0,0))):=⟨by rw [← hq_];exact by (with_reducible repeat (first|refine bn ?_ _|refine bd ?_|refine ba ?_ _));refine bp (cs:=#[.int .i64 x444000_1,.int .i64 x444001_1,.int .i64 x444002_1,.int .i64 x444003_1,.int .i64 x444004_1,.int .i64 x444005_1,.int .i64 x444006_1,.int .i64 x444007_1]) ?_ 2 _ rfl;(with_reducible repeat (first|refine bn ?_ _|refine bd ?_|refine ba ?_ _));exact BK443.out⟩;have n4_ : Aside0 (Below w.heap.size w (wq_.setCell ⟨gb443,2,none⟩ (.int .i64 t453))):=⟨by rw [← hq_];exact by repeat (first|(with_reducible first|exact HB.out|apply sa|apply sn|apply sd|refine sy ?_ (by assumption))|exact HB.out)⟩;(try clear BK440);(try clear BK441);(try clear BK442);(try clear BK443);(try clear HB);generalize (wq_.setCell ⟨gb443,2,none⟩ (.int .i64 t453)) = w35 at n0_ n1_ n2_ n3_ n4_ ⊢;have BK440:=n0_;have BK441:=n1_;have BK442:=n2_;have BK443:=n3_;have HB:=n4_;clear n0_ n1_ n2_ n3_ n4_
              (repeat (rw [drewN_self w35];generalize hq_ : World.drewN w35 _ = w35;have n0_ : Aside0 (w35.heap[gb440]? = some (.cells #[.int .i64 a0_0,.int .i64 a0_1,.int .i64 a0_2,.int .i64 a0_3,.int .i64 a0_4,.int .i64 a0_5,.int .i64 a0_6,.int .i64 a0_7] 41 (0,0))):=⟨by rw [← hq_];exact (by exact BK440.out)⟩;have n1_ : Aside0 (w35.heap[gb441]? = some (.cells #[.int .i64 a1_0,.int .i64 a1_1,.int .i64 a1_2,.int .i64 a1_3,.int .i64 a1_4,.int .i64 a1_5,.int .i64 a1_6,.int .i64 a1_7] 41 (0,0))):=⟨by rw [← hq_];exact (by exact BK441.out)⟩;have n2_ : Aside0 (w35.heap[gb442]? = some (.cells #[.int .i64 0,.int .i64 0,.int .i64 0,.int .i64 0,.int .i64 0,.int .i64 0,.int .i64 0,.int .i64 0] 41 (0,0))):=⟨by rw [← hq_];exact (by exact BK442.out)⟩;have n3_ : Aside0 (w35.heap[gb443]? = some (.cells #[.int .i64 x444000_1,.int .i64 x444001_1,.int .i64 t453,.int .i64 x444003_1,.int .i64 x444004_1,.int .i64 x444005_1,.int .i64 x444006_1,.int .i64 x444007_1] 41 (0,0))):=⟨by rw [← hq_];exact (by exact BK443.out)⟩;have n4_ : Aside0 (Below w.heap.size w w35):=⟨by rw [← hq_];exact (by repeat (first|(with_reducible first|exact HB.out|apply sa|apply sn|apply sd|refine sy ?_ (by assumption))|exact HB.out))⟩;clear BK440 BK441 BK442 BK443 HB hq_;have BK440:=n0_;have BK441:=n1_;have BK442:=n2_;have BK443:=n3_;have HB:=n4_;clear n0_ n1_ n2_ n3_ n4_))
              replace BK440:=am (bd BK440.out);replace BK441:=am (bd BK441.out);replace BK442:=am (bd BK442.out);replace BK443:=am (bd BK443.out);replace HB:=am (sd HB.out);refine start_ (n:=20) (S:=fun w' => w'.cell? ⟨gb441,0,none⟩ = some (.int .i64 a1_0) ∧ w'.cell? ⟨gb441,1,none⟩ = some (.int .i64 a1_1) ∧ w'.cell? ⟨gb441,2,none⟩ = some (.int .i64 a1_2) ∧ w'.cell? ⟨gb441,3,none⟩ = some (.int .i64 a1_3) ∧ w'.cell? ⟨gb441,4,none⟩ = some (.int .i64 a1_4) ∧ w'.cell? ⟨gb441,5,none⟩ = some (.int .i64 a1_5) ∧ w'.cell? ⟨gb441,6,none⟩ = some (.int .i64 a1_6) ∧ w'.cell? ⟨gb441,7,none⟩ = some (.int .i64 a1_7) ∧ w'.cell? ⟨gb440,0,none⟩ = some (.int .i64 a0_0) ∧ w'.cell? ⟨gb440,1,none⟩ = some (.int .i64 a0_1) ∧ w'.cell? ⟨gb440,2,none⟩ = some (.int .i64 a0_2) ∧ w'.cell? ⟨gb440,3,none⟩ = some (.int .i64 a0_3) ∧ w'.cell? ⟨gb440,4,none⟩ = some (.int .i64 a0_4) ∧ w'.cell? ⟨gb440,5,none⟩ = some (.int .i64 a0_5) ∧ w'.cell? ⟨gb440,6,none⟩ = some (.int .i64 a0_6) ∧ w'.cell? ⟨gb440,7,none⟩ = some (.int .i64 a0_7)) (ds:=[]) #[false,false,false,false,false,false,false,false,false,false,false,false,false,false,false,false,false,false,false,false] (by kernel_rfl) rfl rfl ⟨(bc BK441.out 0).trans rfl,(bc BK441.out 1).trans rfl,(bc BK441.out 2).trans rfl,(bc BK441.out 3).trans rfl,(bc BK441.out 4).trans rfl,(bc BK441.out 5).trans rfl,(bc BK441.out 6).trans rfl,(bc BK441.out 7).trans rfl,(bc BK440.out 0).trans rfl,(bc BK440.out 1).trans rfl,(bc BK440.out 2).trans rfl,(bc BK440.out 3).trans rfl,(bc BK440.out 4).trans rfl,(bc BK440.out 5).trans rfl,(bc BK440.out 6).trans rfl,(bc BK440.out 7).trans rfl⟩ (fun hHeld => ?_);refine with_tabW celluloidref14_ComposeCx.tab6 celluloidref14_ComposeCx.bits6 (fun HT_ HW_ => ?_);generalize w35.drew = w36 at BK440 BK441 BK442 BK443 HB hHeld ⊢;refine pure_ (i:=0) (N:=some 25) (v:=?_) (a':=?_) #[true,false,false,false,false,false,false,false,false,false,false,false,false,false,false,false,false,false,false,false] rfl rfl (any_of HT_.out (by kernel_rfl)) (fun _ _ _ h => h) (Or.inl ⟨by rfl,?_⟩) ?_ ?_
              rotate_left
              · intro w'
                go_simp
                with_reducible rfl
              rotate_left
              · simp only [Act.put,q1,q2,q3,i64_w,i32_w]
                rfl
              refine pure_ (i:=1) (N:=some 26) (v:=?_) (a':=?_) #[true,true,false,false,false,false,false,false,false,false,false,false,false,false,false,false,false,false,false,false] rfl rfl (any_of HT_.out (by kernel_rfl)) (fun _ _ _ h => h) (Or.inl ⟨by rfl,?_⟩) ?_ ?_
              rotate_left
              · intro w'
                go_simp
                with_reducible rfl
              rotate_left
              · simp only [Act.put,q1,q2,q3,i64_w,i32_w]
                rfl
              refine pure_ (i:=2) (N:=some 27) (v:=?_) (a':=?_) #[true,true,true,false,false,false,false,false,false,false,false,false,false,false,false,false,false,false,false,false] rfl rfl (any_of HT_.out (by kernel_rfl)) (fun _ _ _ h => h) (Or.inl ⟨by rfl,?_⟩) ?_ ?_
              rotate_left
              · intro w'
                go_simp
                with_reducible rfl
              rotate_left
              · simp only [Act.put,q1,q2,q3,i64_w,i32_w]
                rfl
              refine pure_ (i:=3) (N:=some 28) (v:=?_) (a':=?_) #[true,true,true,true,false,false,false,false,false,false,false,false,false,false,false,false,false,false,false,false] rfl rfl (any_of HT_.out (by kernel_rfl)) (fun _ _ _ h => h) (Or.inl ⟨by rfl,?_⟩) ?_ ?_
              rotate_left
              · intro w'
                go_simp
                with_reducible rfl
              rotate_left
              · simp only [Act.put,q1,q2,q3,i64_w,i32_w]
                rfl
              refine pure_ (i:=5) (N:=some 30) (v:=?_) (a':=?_) #[true,true,true,true,false,true,false,false,false,false,false,false,false,false,false,false,false,false,false,false] rfl rfl (any_of HT_.out (by kernel_rfl)) (fun _ _ _ h => h) (Or.inl ⟨by rfl,?_⟩) ?_ ?_
              rotate_left
              · intro w'
                go_simp
                with_reducible rfl
              rotate_left
              · simp only [Act.put,q1,q2,q3,i64_w,i32_w]
                rfl
              refine pure_ (i:=6) (N:=some 31) (v:=?_) (a':=?_) #[true,true,true,true,false,true,true,false,false,false,false,false,false,false,false,false,false,false,false,false] rfl rfl (any_of HT_.out (by kernel_rfl)) (fun _ _ _ h => h) (Or.inl ⟨by rfl,?_⟩) ?_ ?_
              rotate_left
              · intro w'
                go_simp
                with_reducible rfl
              rotate_left
              · simp only [Act.put,q1,q2,q3,i64_w,i32_w]
                rfl
              refine pure_ (i:=7) (N:=some 32) (v:=?_) (a':=?_) #[true,true,true,true,false,true,true,true,false,false,false,false,false,false,false,false,false,false,false,false] rfl rfl (any_of HT_.out (by kernel_rfl)) (fun _ _ _ h => h) (Or.inl ⟨by rfl,?_⟩) ?_ ?_
              rotate_left
              · intro w'
                go_simp
                with_reducible rfl
              rotate_left
              · simp only [Act.put,q1,q2,q3,i64_w,i32_w]
                rfl
              refine pure_ (i:=11) (N:=some 36) (v:=?_) (a':=?_) #[true,true,true,true,false,true,true,true,false,false,false,true,false,false,false,false,false,false,false,false] rfl rfl (any_of HT_.out (by kernel_rfl)) (fun _ _ _ h => h) (Or.inl ⟨by rfl,?_⟩) ?_ ?_
              rotate_left
              · intro w'
                go_simp
                with_reducible rfl
              rotate_left
              · simp only [Act.put,q1,q2,q3,i64_w,i32_w]
                rfl
              refine pure_ (i:=12) (N:=some 37) (v:=?_) (a':=?_) #[true,true,true,true,false,true,true,true,false,false,false,true,true,false,false,false,false,false,false,false] rfl rfl (any_of HT_.out (by kernel_rfl)) (fun _ _ _ h => h) (Or.inl ⟨by rfl,?_⟩) ?_ ?_
              rotate_left
              · intro w'
                go_simp
                with_reducible rfl
              rotate_left
              · simp only [Act.put,q1,q2,q3,i64_w,i32_w]
                rfl
              refine pure_ (i:=13) (N:=some 38) (v:=?_) (a':=?_) #[true,true,true,true,false,true,true,true,false,false,false,true,true,true,false,false,false,false,false,false] rfl rfl (any_of HT_.out (by kernel_rfl)) (fun _ _ _ h => h) (Or.inl ⟨by rfl,?_⟩) ?_ ?_
              rotate_left
              · intro w'
                go_simp
                with_reducible rfl
              rotate_left
              · simp only [Act.put,q1,q2,q3,i64_w,i32_w]
                rfl
              refine pure_ (i:=17) (N:=some 42) (v:=?_) (a':=?_) #[true,true,true,true,false,true,true,true,false,false,false,true,true,true,false,false,false,true,false,false] rfl rfl (any_of HT_.out (by kernel_rfl)) (fun _ _ _ h => h) (Or.inl ⟨by rfl,?_⟩) ?_ ?_
              rotate_left
              · intro w'
                go_simp
                with_reducible rfl
              rotate_left
              · simp only [Act.put,q1,q2,q3,i64_w,i32_w]
                rfl
              refine take_ (i:=4) (N:=some 29) (v:=?_) (a':=?_) #[true,true,true,true,true,true,true,true,false,false,false,true,true,true,false,false,false,true,false,false] rfl rfl (take_ofW HT_.out HW_.out (by kernel_rfl)) (fun _ _ _ h => h) (Or.inl ⟨by rfl,?_⟩) hHeld ?_ ?_
              rotate_left
              · rintro w' ⟨s0,s1,s2,s3,s4,s5,s6,s7,s8,s9,s10,s11,s12,s13,s14,s15⟩
                go_simp
                with_reducible rfl
              rotate_left
              · simp only [Act.put,q1,q2,q3,i64_w,i32_w]
                rfl
              refine take_ (i:=8) (N:=some 33) (v:=?_) (a':=?_) #[true,true,true,true,true,true,true,true,true,false,false,true,true,true,false,false,false,true,false,false] rfl rfl (take_ofW HT_.out HW_.out (by kernel_rfl)) (fun _ _ _ h => h) (Or.inl ⟨by rfl,?_⟩) hHeld ?_ ?_
              rotate_left
              · rintro w' ⟨s0,s1,s2,s3,s4,s5,s6,s7,s8,s9,s10,s11,s12,s13,s14,s15⟩
                go_simp
                with_reducible rfl
              rotate_left
              · simp only [Act.put,q1,q2,q3,i64_w,i32_w]
                rfl
              refine pure_ (i:=9) (N:=some 34) (v:=?_) (a':=?_) #[true,true,true,true,true,true,true,true,true,true,false,true,true,true,false,false,false,true,false,false] rfl rfl (any_of HT_.out (by kernel_rfl)) (fun _ _ _ h => h) (Or.inl ⟨by rfl,?_⟩) ?_ ?_
              rotate_left
              · intro w'
                go_simp
                with_reducible rfl
              rotate_left
              · simp only [Act.put,q1,q2,q3,i64_w,i32_w]
                rfl
              refine take_ (i:=14) (N:=some 39) (v:=?_) (a':=?_) #[true,true,true,true,true,true,true,true,true,true,false,true,true,true,true,false,false,true,false,false] rfl rfl (take_ofW HT_.out HW_.out (by kernel_rfl)) (fun _ _ _ h => h) (Or.inl ⟨by rfl,?_⟩) hHeld ?_ ?_
              rotate_left
              · rintro w' ⟨s0,s1,s2,s3,s4,s5,s6,s7,s8,s9,s10,s11,s12,s13,s14,s15⟩
                go_simp
                with_reducible rfl
              rotate_left
              · simp only [Act.put,q1,q2,q3,i64_w,i32_w]
                rfl
              refine one_ (i:=10) (N:=some 35) #[true,true,true,true,true,true,true,true,true,true,true,true,true,true,true,false,false,true,false,false] rfl rfl (one_of HT_.out (by kernel_rfl)) (by decide) (fun K hK => ?_);refine goes_ Try.func36 (by kernel_rfl) rfl #[.int .i64 (wrap64 (a1_6 * a0_2)),.int .i64 256] (by rfl) rfl rfl (by (try simp only [List.map_toArray,List.map_cons,List.map_nil]);first|done|rfl|(simp only [List.length_drop,List.length_take];rfl)) ?_
              with_reducible refine (celluloidref14_floor.calls (wrap64 (a1_6 * a0_2)) 256 t454 _ A31.out).mono ?_
              rintro e w' ⟨rfl,⟨nd,rfl⟩⟩
              refine ⟨_,rfl,?_⟩;refine hK.out _ _ ⟨(bc BK441.out 0).trans rfl,(bc BK441.out 1).trans rfl,(bc BK441.out 2).trans rfl,(bc BK441.out 3).trans rfl,(bc BK441.out 4).trans rfl,(bc BK441.out 5).trans rfl,(bc BK441.out 6).trans rfl,(bc BK441.out 7).trans rfl,(bc BK440.out 0).trans rfl,(bc BK440.out 1).trans rfl,(bc BK440.out 2).trans rfl,(bc BK440.out 3).trans rfl,(bc BK440.out 4).trans rfl,(bc BK440.out 5).trans rfl,(bc BK440.out 6).trans rfl,(bc BK440.out 7).trans rfl⟩ (fun hHeld => ?_);clear hK K;refine norm_ (a':=?_) ?_ ?_
              rotate_left
              · show Act.put _ (some 35) _ = _
                simp only [Act.put,q1,q2,q3,i64_w,i32_w]
                rfl
              refine pure_ (i:=15) (N:=some 40) (v:=?_) (a':=?_) #[true,true,true,true,true,true,true,true,true,true,true,true,true,true,true,true,false,true,false,false] rfl rfl (any_of HT_.out (by kernel_rfl)) (fun _ _ _ h => h) (Or.inl ⟨by rfl,?_⟩) ?_ ?_
              rotate_left
              · intro w'
                go_simp
                with_reducible rfl
              rotate_left
              · simp only [Act.put,q1,q2,q3,i64_w,i32_w]
                rfl
              refine one_ (i:=16) (N:=some 41) #[true,true,true,true,true,true,true,true,true,true,true,true,true,true,true,true,true,true,false,false] rfl rfl (one_of HT_.out (by kernel_rfl)) (by decide) (fun K hK => ?_);refine goes_ Try.func40 (by kernel_rfl) rfl #[.int .i64 (wrap64 (t454 + a0_6)),.int .i64 (-255),.int .i64 255] (by rfl) rfl rfl (by (try simp only [List.map_toArray,List.map_cons,List.map_nil]);first|done|rfl|(simp only [List.length_drop,List.length_take];rfl)) ?_
              with_reducible refine (celluloidref14_end.calls (wrap64 (t454 + a0_6)) (-255) 255 t455 _ A32.out).mono ?_
              rintro e w' ⟨rfl,⟨nd,rfl⟩⟩
              refine ⟨_,rfl,?_⟩;refine hK.out _ _ ⟨(bc BK441.out 0).trans rfl,(bc BK441.out 1).trans rfl,(bc BK441.out 2).trans rfl,(bc BK441.out 3).trans rfl,(bc BK441.out 4).trans rfl,(bc BK441.out 5).trans rfl,(bc BK441.out 6).trans rfl,(bc BK441.out 7).trans rfl,(bc BK440.out 0).trans rfl,(bc BK440.out 1).trans rfl,(bc BK440.out 2).trans rfl,(bc BK440.out 3).trans rfl,(bc BK440.out 4).trans rfl,(bc BK440.out 5).trans rfl,(bc BK440.out 6).trans rfl,(bc BK440.out 7).trans rfl⟩ (fun hHeld => ?_);clear hK K;refine norm_ (a':=?_) ?_ ?_
              rotate_left
              · show Act.put _ (some 41) _ = _
                simp only [Act.put,q1,q2,q3,i64_w,i32_w]
                rfl
              refine pure_ (i:=18) (N:=some 43) (v:=?_) (a':=?_) #[true,true,true,true,true,true,true,true,true,true,true,true,true,true,true,true,true,true,true,false] rfl rfl (any_of HT_.out (by kernel_rfl)) (fun _ _ _ h => h) (Or.inl ⟨by rfl,?_⟩) ?_ ?_
              rotate_left
              · intro w'
                go_simp
                with_reducible rfl
              rotate_left
              · simp only [Act.put,q1,q2,q3,i64_w,i32_w]
                rfl
              refine one_ (i:=19) (N:=none) #[true,true,true,true,true,true,true,true,true,true,true,true,true,true,true,true,true,true,true,true] rfl rfl (one_of HT_.out (by kernel_rfl)) (by decide) (fun K hK => ?_);have hs37 : w36.cell? ⟨gb443,6,none⟩ = some (.int .i64 x444006_1):=(bc BK443.out 6).trans rfl;have hfs37:=bz BK443.out 6;have hns37_0:=NB440_443.out;have hns37_1:=NB441_443.out;have hns37_2:=NB442_443.out;have hms37_0:=NB443_440.out;have hms37_1:=NB443_441.out;have hms37_2:=NB443_442.out;refine skip_ (w1:=?_) (by rfl) rfl ?_ ?_
              rotate_left
              · go_simp
                rfl
              refine hK.out _ _ ⟨((cell_far (p:=⟨gb443,_,none⟩) NB441_443.out _).trans (hHeld.1)),((cell_far (p:=⟨gb443,_,none⟩) NB441_443.out _).trans (hHeld.2.1)),((cell_far (p:=⟨gb443,_,none⟩) NB441_443.out _).trans (hHeld.2.2.1)),((cell_far (p:=⟨gb443,_,none⟩) NB441_443.out _).trans (hHeld.2.2.2.1)),((cell_far (p:=⟨gb443,_,none⟩) NB441_443.out _).trans (hHeld.2.2.2.2.1)),((cell_far (p:=⟨gb443,_,none⟩) NB441_443.out _).trans (hHeld.2.2.2.2.2.1)),((cell_far (p:=⟨gb443,_,none⟩) NB441_443.out _).trans (hHeld.2.2.2.2.2.2.1)),((cell_far (p:=⟨gb443,_,none⟩) NB441_443.out _).trans (hHeld.2.2.2.2.2.2.2.1)),((cell_far (p:=⟨gb443,_,none⟩) NB440_443.out _).trans (hHeld.2.2.2.2.2.2.2.2.1)),((cell_far (p:=⟨gb443,_,none⟩) NB440_443.out _).trans (hHeld.2.2.2.2.2.2.2.2.2.1)),((cell_far (p:=⟨gb443,_,none⟩) NB440_443.out _).trans (hHeld.2.2.2.2.2.2.2.2.2.2.1)),((cell_far (p:=⟨gb443,_,none⟩) NB440_443.out _).trans (hHeld.2.2.2.2.2.2.2.2.2.2.2.1)),((cell_far (p:=⟨gb443,_,none⟩) NB440_443.out _).trans (hHeld.2.2.2.2.2.2.2.2.2.2.2.2.1)),((cell_far (p:=⟨gb443,_,none⟩) NB440_443.out _).trans (hHeld.2.2.2.2.2.2.2.2.2.2.2.2.2.1)),((cell_far (p:=⟨gb443,_,none⟩) NB440_443.out _).trans (hHeld.2.2.2.2.2.2.2.2.2.2.2.2.2.2.1)),((cell_far (p:=⟨gb443,_,none⟩) NB440_443.out _).trans (hHeld.2.2.2.2.2.2.2.2.2.2.2.2.2.2.2))⟩ (fun hHeld => ?_);clear hK K;refine done_ (done_of HT_.out (by kernel_rfl)) ?_
              try go_wp2
              go_roundg k1
              case measure => have:=HK1.out;omega
              case rel => exact ⟨(2 + 1),(x444000_1),(x444001_1),(t453),(x444003_1),(x444004_1),(x444005_1),(t455),(x444007_1),(by first|rfl|(simp;done)|(simp [*];done)),H',⟨by have:=HK1.out;omega⟩,⟨by (with_reducible repeat (first|refine bn ?_ _|refine bd ?_|refine ba ?_ _|refine bf ?_ NB440_443.out _));exact BK440.out⟩,⟨by (with_reducible repeat (first|refine bn ?_ _|refine bd ?_|refine ba ?_ _|refine bf ?_ NB441_443.out _));exact BK441.out⟩,⟨by (with_reducible repeat (first|refine bn ?_ _|refine bd ?_|refine ba ?_ _|refine bf ?_ NB442_443.out _));exact BK442.out⟩,⟨by (with_reducible repeat (first|refine bn ?_ _|refine bd ?_|refine ba ?_ _));refine bp (cs:=#[.int .i64 x444000_1,.int .i64 x444001_1,.int .i64 t453,.int .i64 x444003_1,.int .i64 x444004_1,.int .i64 x444005_1,.int .i64 x444006_1,.int .i64 x444007_1]) ?_ 6 _ rfl;(with_reducible repeat (first|refine bn ?_ _|refine bd ?_|refine ba ?_ _));exact BK443.out⟩,⟨by repeat (first|(with_reducible first|exact HB.out|apply sa|apply sn|apply sd|refine sy ?_ (by assumption))|exact HB.out)⟩⟩
            · rw [if_neg c28] at H
              by_cases c38 : x6_1 = 3
              · subst c38
                have H1 : ((celluloidref14_floor.f (wrap64 (a0_3 * a1_3)) 256).bind fun t456 => ((celluloidref14_end.f t456 (-512) 512).bind fun t457 => ((celluloidref14_floor.f (wrap64 (a1_7 * a0_3)) 256).bind fun t458 => ((celluloidref14_end.f (wrap64 (t458 + a0_7)) (-255) 255).bind fun t459 => (celluloidref14_ComposeCx.l0 k1 (3 + 1) a0_0 a0_1 a0_2 a0_3 a0_4 a0_5 a0_6 a0_7 a1_0 a1_1 a1_2 a1_3 a1_4 a1_5 a1_6 a1_7 x444000_1 x444001_1 x444002_1 t457 x444004_1 x444005_1 x444006_1 t459))))) = some (r1,r2,r3,r4,r5,r6,r7,r8):=by rw [if_pos rfl] at H;exact H
                clear H;have H:=H1;clear H1;replace H:=Option.bind_eq_some_iff.mp H;obtain ⟨t456,A390,H⟩:=H;replace H : ((celluloidref14_end.f t456 (-512) 512).bind fun t457 => ((celluloidref14_floor.f (wrap64 (a1_7 * a0_3)) 256).bind fun t458 => ((celluloidref14_end.f (wrap64 (t458 + a0_7)) (-255) 255).bind fun t459 => (celluloidref14_ComposeCx.l0 k1 (3 + 1) a0_0 a0_1 a0_2 a0_3 a0_4 a0_5 a0_6 a0_7 a1_0 a1_1 a1_2 a1_3 a1_4 a1_5 a1_6 a1_7 x444000_1 x444001_1 x444002_1 t457 x444004_1 x444005_1 x444006_1 t459)))) = some (r1,r2,r3,r4,r5,r6,r7,r8):=H;have A39:=am A390;clear A390;replace H:=Option.bind_eq_some_iff.mp H;obtain ⟨t457,A400,H⟩:=H;replace H : ((celluloidref14_floor.f (wrap64 (a1_7 * a0_3)) 256).bind fun t458 => ((celluloidref14_end.f (wrap64 (t458 + a0_7)) (-255) 255).bind fun t459 => (celluloidref14_ComposeCx.l0 k1 (3 + 1) a0_0 a0_1 a0_2 a0_3 a0_4 a0_5 a0_6 a0_7 a1_0 a1_1 a1_2 a1_3 a1_4 a1_5 a1_6 a1_7 x444000_1 x444001_1 x444002_1 t457 x444004_1 x444005_1 x444006_1 t459))) = some (r1,r2,r3,r4,r5,r6,r7,r8):=H;have A40:=am A400;clear A400;replace H:=Option.bind_eq_some_iff.mp H;obtain ⟨t458,A410,H⟩:=H;replace H : ((celluloidref14_end.f (wrap64 (t458 + a0_7)) (-255) 255).bind fun t459 => (celluloidref14_ComposeCx.l0 k1 (3 + 1) a0_0 a0_1 a0_2 a0_3 a0_4 a0_5 a0_6 a0_7 a1_0 a1_1 a1_2 a1_3 a1_4 a1_5 a1_6 a1_7 x444000_1 x444001_1 x444002_1 t457 x444004_1 x444005_1 x444006_1 t459)) = some (r1,r2,r3,r4,r5,r6,r7,r8):=H;have A41:=am A410;clear A410;replace H:=Option.bind_eq_some_iff.mp H;obtain ⟨t459,A420,H⟩:=H;replace H : (celluloidref14_ComposeCx.l0 k1 (3 + 1) a0_0 a0_1 a0_2 a0_3 a0_4 a0_5 a0_6 a0_7 a1_0 a1_1 a1_2 a1_3 a1_4 a1_5 a1_6 a1_7 x444000_1 x444001_1 x444002_1 t457 x444004_1 x444005_1 x444006_1 t459) = some (r1,r2,r3,r4,r5,r6,r7,r8):=H;have A42:=am A420;clear A420;have H':=am H;clear H
                try go_wp2
                replace BK440:=am (bd BK440.out);replace BK441:=am (bd BK441.out);replace BK442:=am (bd BK442.out);replace BK443:=am (bd BK443.out);replace HB:=am (sd HB.out);refine start_ (n:=15) (S:=fun w' => w'.cell? ⟨gb440,0,none⟩ = some (.int .i64 a0_0) ∧ w'.cell? ⟨gb440,1,none⟩ = some (.int .i64 a0_1) ∧ w'.cell? ⟨gb440,2,none⟩ = some (.int .i64 a0_2) ∧ w'.cell? ⟨gb440,3,none⟩ = some (.int .i64 a0_3) ∧ w'.cell? ⟨gb440,4,none⟩ = some (.int .i64 a0_4) ∧ w'.cell? ⟨gb440,5,none⟩ = some (.int .i64 a0_5) ∧ w'.cell? ⟨gb440,6,none⟩ = some (.int .i64 a0_6) ∧ w'.cell? ⟨gb440,7,none⟩ = some (.int .i64 a0_7) ∧ w'.cell? ⟨gb441,0,none⟩ = some (.int .i64 a1_0) ∧ w'.cell? ⟨gb441,1,none⟩ = some (.int .i64 a1_1) ∧ w'.cell? ⟨gb441,2,none⟩ = some (.int .i64 a1_2) ∧ w'.cell? ⟨gb441,3,none⟩ = some (.int .i64 a1_3) ∧ w'.cell? ⟨gb441,4,none⟩ = some (.int .i64 a1_4) ∧ w'.cell? ⟨gb441,5,none⟩ = some (.int .i64 a1_5) ∧ w'.cell? ⟨gb441,6,none⟩ = some (.int .i64 a1_6) ∧ w'.cell? ⟨gb441,7,none⟩ = some (.int .i64 a1_7)) (ds:=[]) #[false,false,false,false,false,false,false,false,false,false,false,false,false,false,false] (by kernel_rfl) rfl rfl ⟨(bc BK440.out 0).trans rfl,(bc BK440.out 1).trans rfl,(bc BK440.out 2).trans rfl,(bc BK440.out 3).trans rfl,(bc BK440.out 4).trans rfl,(bc BK440.out 5).trans rfl,(bc BK440.out 6).trans rfl,(bc BK440.out 7).trans rfl,(bc BK441.out 0).trans rfl,(bc BK441.out 1).trans rfl,(bc BK441.out 2).trans rfl,(bc BK441.out 3).trans rfl,(bc BK441.out 4).trans rfl,(bc BK441.out 5).trans rfl,(bc BK441.out 6).trans rfl,(bc BK441.out 7).trans rfl⟩ (fun hHeld => ?_);refine with_tabW celluloidref14_ComposeCx.tab5 celluloidref14_ComposeCx.bits5 (fun HT_ HW_ => ?_);generalize wr.drew = w43 at BK440 BK441 BK442 BK443 HB hHeld ⊢;refine pure_ (i:=0) (N:=some 11) (v:=?_) (a':=?_) #[true,false,false,false,false,false,false,false,false,false,false,false,false,false,false] rfl rfl (any_of HT_.out (by kernel_rfl)) (fun _ _ _ h => h) (Or.inl ⟨by rfl,?_⟩) ?_ ?_
                rotate_left
                · intro w'
                  go_simp
                  with_reducible rfl
                rotate_left
                · simp only [Act.put,q1,q2,q3,i64_w,i32_w]
                  rfl
                refine pure_ (i:=1) (N:=some 12) (v:=?_) (a':=?_) #[true,true,false,false,false,false,false,false,false,false,false,false,false,false,false] rfl rfl (any_of HT_.out (by kernel_rfl)) (fun _ _ _ h => h) (Or.inl ⟨by rfl,?_⟩) ?_ ?_
                rotate_left
                · intro w'
                  go_simp
                  with_reducible rfl
                rotate_left
                · simp only [Act.put,q1,q2,q3,i64_w,i32_w]
                  rfl
                refine pure_ (i:=2) (N:=some 13) (v:=?_) (a':=?_) #[true,true,true,false,false,false,false,false,false,false,false,false,false,false,false] rfl rfl (any_of HT_.out (by kernel_rfl)) (fun _ _ _ h => h) (Or.inl ⟨by rfl,?_⟩) ?_ ?_
                rotate_left
                · intro w'
                  go_simp
                  with_reducible rfl
                rotate_left
                · simp only [Act.put,q1,q2,q3,i64_w,i32_w]
                  rfl
                refine pure_ (i:=3) (N:=some 14) (v:=?_) (a':=?_) #[true,true,true,true,false,false,false,false,false,false,false,false,false,false,false] rfl rfl (any_of HT_.out (by kernel_rfl)) (fun _ _ _ h => h) (Or.inl ⟨by rfl,?_⟩) ?_ ?_
                rotate_left
                · intro w'
                  go_simp
                  with_reducible rfl
                rotate_left
                · simp only [Act.put,q1,q2,q3,i64_w,i32_w]
                  rfl
                refine pure_ (i:=5) (N:=some 16) (v:=?_) (a':=?_) #[true,true,true,true,false,true,false,false,false,false,false,false,false,false,false] rfl rfl (any_of HT_.out (by kernel_rfl)) (fun _ _ _ h => h) (Or.inl ⟨by rfl,?_⟩) ?_ ?_
                rotate_left
                · intro w'
                  go_simp
                  with_reducible rfl
                rotate_left
                · simp only [Act.put,q1,q2,q3,i64_w,i32_w]
                  rfl
                refine pure_ (i:=6) (N:=some 17) (v:=?_) (a':=?_) #[true,true,true,true,false,true,true,false,false,false,false,false,false,false,false] rfl rfl (any_of HT_.out (by kernel_rfl)) (fun _ _ _ h => h) (Or.inl ⟨by rfl,?_⟩) ?_ ?_
                rotate_left
                · intro w'
                  go_simp
                  with_reducible rfl
                rotate_left
                · simp only [Act.put,q1,q2,q3,i64_w,i32_w]
                  rfl
                refine pure_ (i:=7) (N:=some 18) (v:=?_) (a':=?_) #[true,true,true,true,false,true,true,true,false,false,false,false,false,false,false] rfl rfl (any_of HT_.out (by kernel_rfl)) (fun _ _ _ h => h) (Or.inl ⟨by rfl,?_⟩) ?_ ?_
                rotate_left
                · intro w'
                  go_simp
                  with_reducible rfl
                rotate_left
                · simp only [Act.put,q1,q2,q3,i64_w,i32_w]
                  rfl
                refine pure_ (i:=12) (N:=some 23) (v:=?_) (a':=?_) #[true,true,true,true,false,true,true,true,false,false,false,false,true,false,false] rfl rfl (any_of HT_.out (by kernel_rfl)) (fun _ _ _ h => h) (Or.inl ⟨by rfl,?_⟩) ?_ ?_
                rotate_left
                · intro w'
                  go_simp
                  with_reducible rfl
                rotate_left
                · simp only [Act.put,q1,q2,q3,i64_w,i32_w]
                  rfl
                refine take_ (i:=4) (N:=some 15) (v:=?_) (a':=?_) #[true,true,true,true,true,true,true,true,false,false,false,false,true,false,false] rfl rfl (take_ofW HT_.out HW_.out (by kernel_rfl)) (fun _ _ _ h => h) (Or.inl ⟨by rfl,?_⟩) hHeld ?_ ?_
                rotate_left
                · rintro w' ⟨s0,s1,s2,s3,s4,s5,s6,s7,s8,s9,s10,s11,s12,s13,s14,s15⟩
                  go_simp
                  with_reducible rfl
                rotate_left
                · simp only [Act.put,q1,q2,q3,i64_w,i32_w]
                  rfl
                refine take_ (i:=8) (N:=some 19) (v:=?_) (a':=?_) #[true,true,true,true,true,true,true,true,true,false,false,false,true,false,false] rfl rfl (take_ofW HT_.out HW_.out (by kernel_rfl)) (fun _ _ _ h => h) (Or.inl ⟨by rfl,?_⟩) hHeld ?_ ?_
                rotate_left
                · rintro w' ⟨s0,s1,s2,s3,s4,s5,s6,s7,s8,s9,s10,s11,s12,s13,s14,s15⟩
                  go_simp
                  with_reducible rfl
                rotate_left
                · simp only [Act.put,q1,q2,q3,i64_w,i32_w]
                  rfl
                refine pure_ (i:=9) (N:=some 20) (v:=?_) (a':=?_) #[true,true,true,true,true,true,true,true,true,true,false,false,true,false,false] rfl rfl (any_of HT_.out (by kernel_rfl)) (fun _ _ _ h => h) (Or.inl ⟨by rfl,?_⟩) ?_ ?_
                rotate_left
                · intro w'
                  go_simp
                  with_reducible rfl
                rotate_left
                · simp only [Act.put,q1,q2,q3,i64_w,i32_w]
                  rfl
                refine one_ (i:=10) (N:=some 21) #[true,true,true,true,true,true,true,true,true,true,true,false,true,false,false] rfl rfl (one_of HT_.out (by kernel_rfl)) (by decide) (fun K hK => ?_);refine goes_ Try.func36 (by kernel_rfl) rfl #[.int .i64 (wrap64 (a0_3 * a1_3)),.int .i64 256] (by rfl) rfl rfl (by (try simp only [List.map_toArray,List.map_cons,List.map_nil]);first|done|rfl|(simp only [List.length_drop,List.length_take];rfl)) ?_
                with_reducible refine (celluloidref14_floor.calls (wrap64 (a0_3 * a1_3)) 256 t456 _ A39.out).mono ?_
                rintro e w' ⟨rfl,⟨nd,rfl⟩⟩
                refine ⟨_,rfl,?_⟩;refine hK.out _ _ ⟨(bc BK440.out 0).trans rfl,(bc BK440.out 1).trans rfl,(bc BK440.out 2).trans rfl,(bc BK440.out 3).trans rfl,(bc BK440.out 4).trans rfl,(bc BK440.out 5).trans rfl,(bc BK440.out 6).trans rfl,(bc BK440.out 7).trans rfl,(bc BK441.out 0).trans rfl,(bc BK441.out 1).trans rfl,(bc BK441.out 2).trans rfl,(bc BK441.out 3).trans rfl,(bc BK441.out 4).trans rfl,(bc BK441.out 5).trans rfl,(bc BK441.out 6).trans rfl,(bc BK441.out 7).trans rfl⟩ (fun hHeld => ?_);clear hK K;refine norm_ (a':=?_) ?_ ?_
                rotate_left
                · show Act.put _ (some 21) _ = _
                  simp only [Act.put,q1,q2,q3,i64_w,i32_w]
                  rfl
                refine one_ (i:=11) (N:=some 22) #[true,true,true,true,true,true,true,true,true,true,true,true,true,false,false] rfl rfl (one_of HT_.out (by kernel_rfl)) (by decide) (fun K hK => ?_);refine goes_ Try.func40 (by kernel_rfl) rfl #[.int .i64 t456,.int .i64 (-512),.int .i64 512] (by rfl) rfl rfl (by (try simp only [List.map_toArray,List.map_cons,List.map_nil]);first|done|rfl|(simp only [List.length_drop,List.length_take];rfl)) ?_
                with_reducible refine (celluloidref14_end.calls t456 (-512) 512 t457 _ A40.out).mono ?_
                rintro e w' ⟨rfl,⟨nd,rfl⟩⟩
                refine ⟨_,rfl,?_⟩;refine hK.out _ _ ⟨(bc BK440.out 0).trans rfl,(bc BK440.out 1).trans rfl,(bc BK440.out 2).trans rfl,(bc BK440.out 3).trans rfl,(bc BK440.out 4).trans rfl,(bc BK440.out 5).trans rfl,(bc BK440.out 6).trans rfl,(bc BK440.out 7).trans rfl,(bc BK441.out 0).trans rfl,(bc BK441.out 1).trans rfl,(bc BK441.out 2).trans rfl,(bc BK441.out 3).trans rfl,(bc BK441.out 4).trans rfl,(bc BK441.out 5).trans rfl,(bc BK441.out 6).trans rfl,(bc BK441.out 7).trans rfl⟩ (fun hHeld => ?_);clear hK K;refine norm_ (a':=?_) ?_ ?_
                rotate_left
                · show Act.put _ (some 22) _ = _
                  simp only [Act.put,q1,q2,q3,i64_w,i32_w]
                  rfl
                refine pure_ (i:=13) (N:=some 24) (v:=?_) (a':=?_) #[true,true,true,true,true,true,true,true,true,true,true,true,true,true,false] rfl rfl (any_of HT_.out (by kernel_rfl)) (fun _ _ _ h => h) (Or.inl ⟨by rfl,?_⟩) ?_ ?_
                rotate_left
                · intro w'
                  go_simp
                  with_reducible rfl
                rotate_left
                · simp only [Act.put,q1,q2,q3,i64_w,i32_w]
                  rfl
                refine one_ (i:=14) (N:=none) #[true,true,true,true,true,true,true,true,true,true,true,true,true,true,true] rfl rfl (one_of HT_.out (by kernel_rfl)) (by decide) (fun K hK => ?_);have hs44 : w43.cell? ⟨gb443,3,none⟩ = some (.int .i64 x444003_1):=(bc BK443.out 3).trans rfl;have hfs44:=bz BK443.out 3;have hns44_0:=NB440_443.out;have hns44_1:=NB441_443.out;have hns44_2:=NB442_443.out;have hms44_0:=NB443_440.out;have hms44_1:=NB443_441.out;have hms44_2:=NB443_442.out;refine skip_ (w1:=?_) (by rfl) rfl ?_ ?_
                rotate_left
                · go_simp
                  rfl
                refine hK.out _ _ ⟨((cell_far (p:=⟨gb443,_,none⟩) NB440_443.out _).trans (hHeld.1)),((cell_far (p:=⟨gb443,_,none⟩) NB440_443.out _).trans (hHeld.2.1)),((cell_far (p:=⟨gb443,_,none⟩) NB440_443.out _).trans (hHeld.2.2.1)),((cell_far (p:=⟨gb443,_,none⟩) NB440_443.out _).trans (hHeld.2.2.2.1)),((cell_far (p:=⟨gb443,_,none⟩) NB440_443.out _).trans (hHeld.2.2.2.2.1)),((cell_far (p:=⟨gb443,_,none⟩) NB440_443.out _).trans (hHeld.2.2.2.2.2.1)),((cell_far (p:=⟨gb443,_,none⟩) NB440_443.out _).trans (hHeld.2.2.2.2.2.2.1)),((cell_far (p:=⟨gb443,_,none⟩) NB440_443.out _).trans (hHeld.2.2.2.2.2.2.2.1)),((cell_far (p:=⟨gb443,_,none⟩) NB441_443.out _).trans (hHeld.2.2.2.2.2.2.2.2.1)),((cell_far (p:=⟨gb443,_,none⟩) NB441_443.out _).trans (hHeld.2.2.2.2.2.2.2.2.2.1)),((cell_far (p:=⟨gb443,_,none⟩) NB441_443.out _).trans (hHeld.2.2.2.2.2.2.2.2.2.2.1)),((cell_far (p:=⟨gb443,_,none⟩) NB441_443.out _).trans (hHeld.2.2.2.2.2.2.2.2.2.2.2.1)),((cell_far (p:=⟨gb443,_,none⟩) NB441_443.out _).trans (hHeld.2.2.2.2.2.2.2.2.2.2.2.2.1)),((cell_far (p:=⟨gb443,_,none⟩) NB441_443.out _).trans (hHeld.2.2.2.2.2.2.2.2.2.2.2.2.2.1)),((cell_far (p:=⟨gb443,_,none⟩) NB441_443.out _).trans (hHeld.2.2.2.2.2.2.2.2.2.2.2.2.2.2.1)),((cell_far (p:=⟨gb443,_,none⟩) NB441_443.out _).trans (hHeld.2.2.2.2.2.2.2.2.2.2.2.2.2.2.2))⟩ (fun hHeld => ?_);clear hK K;refine done_ (done_of HT_.out (by kernel_rfl)) ?_
                try go_wp2
                first|(rw [drewN_self w43];generalize hq_ : World.drewN w43 _ = wq_)|(generalize hq_ : w43 = wq_)
                have n0_ : Aside0 ((wq_.setCell ⟨gb443,3,none⟩ (.int .i64 t457)).heap[gb440]? = some (.cells #[.int .i64 a0_0,.int .i64 a0_1,.int .i64 a0_2,.int .i64 a0_3,.int .i64 a0_4,.int .i64 a0_5,.int .i64 a0_6,.int .i64 a0_7] 41 (0,0))):=⟨by rw [← hq_];exact by (with_reducible repeat (first|refine bn ?_ _|refine bd ?_|refine ba ?_ _|refine bf ?_ NB440_443.out _));exact BK440.out⟩;have n1_ : Aside0 ((wq_.setCell ⟨gb443,3,none⟩ (.int .i64 t457)).heap[gb441]? = some (.cells #[.int .i64 a1_0,.int .i64 a1_1,.int .i64 a1_2,.int .i64 a1_3,.int .i64 a1_4,.int .i64 a1_5,.int .i64 a1_6,.int .i64 a1_7] 41 (0,0))):=⟨by rw [← hq_];exact by (with_reducible repeat (first|refine bn ?_ _|refine bd ?_|refine ba ?_ _|refine bf ?_ NB441_443.out _));exact BK441.out⟩;have n2_ : Aside0 ((wq_.setCell ⟨gb443,3,none⟩ (.int .i64 t457)).heap[gb442]? = some (.cells #[.int .i64 0,.int .i64 0,.int .i64 0,.int .i64 0,.int .i64 0,.int .i64 0,.int .i64 0,.int .i64 0] 41 (0,0))):=⟨by rw [← hq_];exact by (with_reducible repeat (first|refine bn ?_ _|refine bd ?_|refine ba ?_ _|refine bf ?_ NB442_443.out _));exact BK442.out⟩;have n3_ : Aside0 ((wq_.setCell ⟨gb443,3,none⟩ (.int .i64 t457)).heap[gb443]? = some (.cells #[.int .i64 x444000_1,.int .i64 x444001_1,.int .i64 x444002_1,.int .i64 t457,.int .i64 x444004_1,.int .i64 x444005_1,.int .i64 x444006_1,.int .i64 x444007_1] 41 (0,0))):=⟨by rw [← hq_];exact by (with_reducible repeat (first|refine bn ?_ _|refine bd ?_|refine ba ?_ _));refine bp (cs:=#[.int .i64 x444000_1,.int .i64 x444001_1,.int .i64 x444002_1,.int .i64 x444003_1,.int .i64 x444004_1,.int .i64 x444005_1,.int .i64 x444006_1,.int .i64 x444007_1]) ?_ 3 _ rfl;(with_reducible repeat (first|refine bn ?_ _|refine bd ?_|refine ba ?_ _));exact BK443.out⟩;have n4_ : Aside0 (Below w.heap.size w (wq_.setCell ⟨gb443,3,none⟩ (.int .i64 t457))):=⟨by rw [← hq_];exact by repeat (first|(with_reducible first|exact HB.out|apply sa|apply sn|apply sd|refine sy ?_ (by assumption))|exact HB.out)⟩;(try clear BK440);(try clear BK441);(try clear BK442);(try clear BK443);(try clear HB);generalize (wq_.setCell ⟨gb443,3,none⟩ (.int .i64 t457)) = w45 at n0_ n1_ n2_ n3_ n4_ ⊢;have BK440:=n0_;have BK441:=n1_;have BK442:=n2_;have BK443:=n3_;have HB:=n4_;clear n0_ n1_ n2_ n3_ n4_
                (repeat (rw [drewN_self w45];generalize hq_ : World.drewN w45 _ = w45;have n0_ : Aside0 (w45.heap[gb440]? = some (.cells #[.int .i64 a0_0,.int .i64 a0_1,.int .i64 a0_2,.int .i64 a0_3,.int .i64 a0_4,.int .i64 a0_5,.int .i64 a0_6,.int .i64 a0_7] 41 (0,0))):=⟨by rw [← hq_];exact (by exact BK440.out)⟩;have n1_ : Aside0 (w45.heap[gb441]? = some (.cells #[.int .i64 a1_0,.int .i64 a1_1,.int .i64 a1_2,.int .i64 a1_3,.int .i64 a1_4,.int .i64 a1_5,.int .i64 a1_6,.int .i64 a1_7] 41 (0,0))):=⟨by rw [← hq_];exact (by exact BK441.out)⟩;have n2_ : Aside0 (w45.heap[gb442]? = some (.cells #[.int .i64 0,.int .i64 0,.int .i64 0,.int .i64 0,.int .i64 0,.int .i64 0,.int .i64 0,.int .i64 0] 41 (0,0))):=⟨by rw [← hq_];exact (by exact BK442.out)⟩;have n3_ : Aside0 (w45.heap[gb443]? = some (.cells #[.int .i64 x444000_1,.int .i64 x444001_1,.int .i64 x444002_1,.int .i64 t457,.int .i64 x444004_1,.int .i64 x444005_1,.int .i64 x444006_1,.int .i64 x444007_1] 41 (0,0))):=⟨by rw [← hq_];exact (by exact BK443.out)⟩;have n4_ : Aside0 (Below w.heap.size w w45):=⟨by rw [← hq_];exact (by repeat (first|(with_reducible first|exact HB.out|apply sa|apply sn|apply sd|refine sy ?_ (by assumption))|exact HB.out))⟩;clear BK440 BK441 BK442 BK443 HB hq_;have BK440:=n0_;have BK441:=n1_;have BK442:=n2_;have BK443:=n3_;have HB:=n4_;clear n0_ n1_ n2_ n3_ n4_))
                replace BK440:=am (bd BK440.out);replace BK441:=am (bd BK441.out);replace BK442:=am (bd BK442.out);replace BK443:=am (bd BK443.out);replace HB:=am (sd HB.out);refine start_ (n:=20) (S:=fun w' => w'.cell? ⟨gb441,0,none⟩ = some (.int .i64 a1_0) ∧ w'.cell? ⟨gb441,1,none⟩ = some (.int .i64 a1_1) ∧ w'.cell? ⟨gb441,2,none⟩ = some (.int .i64 a1_2) ∧ w'.cell? ⟨gb441,3,none⟩ = some (.int .i64 a1_3) ∧ w'.cell? ⟨gb441,4,none⟩ = some (.int .i64 a1_4) ∧ w'.cell? ⟨gb441,5,none⟩ = some (.int .i64 a1_5) ∧ w'.cell? ⟨gb441,6,none⟩ = some (.int .i64 a1_6) ∧ w'.cell? ⟨gb441,7,none⟩ = some (.int .i64 a1_7) ∧ w'.cell? ⟨gb440,0,none⟩ = some (.int .i64 a0_0) ∧ w'.cell? ⟨gb440,1,none⟩ = some (.int .i64 a0_1) ∧ w'.cell? ⟨gb440,2,none⟩ = some (.int .i64 a0_2) ∧ w'.cell? ⟨gb440,3,none⟩ = some (.int .i64 a0_3) ∧ w'.cell? ⟨gb440,4,none⟩ = some (.int .i64 a0_4) ∧ w'.cell? ⟨gb440,5,none⟩ = some (.int .i64 a0_5) ∧ w'.cell? ⟨gb440,6,none⟩ = some (.int .i64 a0_6) ∧ w'.cell? ⟨gb440,7,none⟩ = some (.int .i64 a0_7)) (ds:=[]) #[false,false,false,false,false,false,false,false,false,false,false,false,false,false,false,false,false,false,false,false] (by kernel_rfl) rfl rfl ⟨(bc BK441.out 0).trans rfl,(bc BK441.out 1).trans rfl,(bc BK441.out 2).trans rfl,(bc BK441.out 3).trans rfl,(bc BK441.out 4).trans rfl,(bc BK441.out 5).trans rfl,(bc BK441.out 6).trans rfl,(bc BK441.out 7).trans rfl,(bc BK440.out 0).trans rfl,(bc BK440.out 1).trans rfl,(bc BK440.out 2).trans rfl,(bc BK440.out 3).trans rfl,(bc BK440.out 4).trans rfl,(bc BK440.out 5).trans rfl,(bc BK440.out 6).trans rfl,(bc BK440.out 7).trans rfl⟩ (fun hHeld => ?_);refine with_tabW celluloidref14_ComposeCx.tab6 celluloidref14_ComposeCx.bits6 (fun HT_ HW_ => ?_);generalize w45.drew = w46 at BK440 BK441 BK442 BK443 HB hHeld ⊢;refine pure_ (i:=0) (N:=some 25) (v:=?_) (a':=?_) #[true,false,false,false,false,false,false,false,false,false,false,false,false,false,false,false,false,false,false,false] rfl rfl (any_of HT_.out (by kernel_rfl)) (fun _ _ _ h => h) (Or.inl ⟨by rfl,?_⟩) ?_ ?_
                rotate_left
                · intro w'
                  go_simp
                  with_reducible rfl
                rotate_left
                · simp only [Act.put,q1,q2,q3,i64_w,i32_w]
                  rfl
                refine pure_ (i:=1) (N:=some 26) (v:=?_) (a':=?_) #[true,true,false,false,false,false,false,false,false,false,false,false,false,false,false,false,false,false,false,false] rfl rfl (any_of HT_.out (by kernel_rfl)) (fun _ _ _ h => h) (Or.inl ⟨by rfl,?_⟩) ?_ ?_
                rotate_left
                · intro w'
                  go_simp
                  with_reducible rfl
                rotate_left
                · simp only [Act.put,q1,q2,q3,i64_w,i32_w]
                  rfl
                refine pure_ (i:=2) (N:=some 27) (v:=?_) (a':=?_) #[true,true,true,false,false,false,false,false,false,false,false,false,false,false,false,false,false,false,false,false] rfl rfl (any_of HT_.out (by kernel_rfl)) (fun _ _ _ h => h) (Or.inl ⟨by rfl,?_⟩) ?_ ?_
                rotate_left
                · intro w'
                  go_simp
                  with_reducible rfl
                rotate_left
                · simp only [Act.put,q1,q2,q3,i64_w,i32_w]
                  rfl
                refine pure_ (i:=3) (N:=some 28) (v:=?_) (a':=?_) #[true,true,true,true,false,false,false,false,false,false,false,false,false,false,false,false,false,false,false,false] rfl rfl (any_of HT_.out (by kernel_rfl)) (fun _ _ _ h => h) (Or.inl ⟨by rfl,?_⟩) ?_ ?_
                rotate_left
                · intro w'
                  go_simp
                  with_reducible rfl
                rotate_left
                · simp only [Act.put,q1,q2,q3,i64_w,i32_w]
                  rfl
                refine pure_ (i:=5) (N:=some 30) (v:=?_) (a':=?_) #[true,true,true,true,false,true,false,false,false,false,false,false,false,false,false,false,false,false,false,false] rfl rfl (any_of HT_.out (by kernel_rfl)) (fun _ _ _ h => h) (Or.inl ⟨by rfl,?_⟩) ?_ ?_
                rotate_left
                · intro w'
                  go_simp
                  with_reducible rfl
                rotate_left
                · simp only [Act.put,q1,q2,q3,i64_w,i32_w]
                  rfl
                refine pure_ (i:=6) (N:=some 31) (v:=?_) (a':=?_) #[true,true,true,true,false,true,true,false,false,false,false,false,false,false,false,false,false,false,false,false] rfl rfl (any_of HT_.out (by kernel_rfl)) (fun _ _ _ h => h) (Or.inl ⟨by rfl,?_⟩) ?_ ?_
                rotate_left
                · intro w'
                  go_simp
                  with_reducible rfl
                rotate_left
                · simp only [Act.put,q1,q2,q3,i64_w,i32_w]
                  rfl
                refine pure_ (i:=7) (N:=some 32) (v:=?_) (a':=?_) #[true,true,true,true,false,true,true,true,false,false,false,false,false,false,false,false,false,false,false,false] rfl rfl (any_of HT_.out (by kernel_rfl)) (fun _ _ _ h => h) (Or.inl ⟨by rfl,?_⟩) ?_ ?_
                rotate_left
                · intro w'
                  go_simp
                  with_reducible rfl
                rotate_left
                · simp only [Act.put,q1,q2,q3,i64_w,i32_w]
                  rfl
                refine pure_ (i:=11) (N:=some 36) (v:=?_) (a':=?_) #[true,true,true,true,false,true,true,true,false,false,false,true,false,false,false,false,false,false,false,false] rfl rfl (any_of HT_.out (by kernel_rfl)) (fun _ _ _ h => h) (Or.inl ⟨by rfl,?_⟩) ?_ ?_
                rotate_left
                · intro w'
                  go_simp
                  with_reducible rfl
                rotate_left
                · simp only [Act.put,q1,q2,q3,i64_w,i32_w]
                  rfl
                refine pure_ (i:=12) (N:=some 37) (v:=?_) (a':=?_) #[true,true,true,true,false,true,true,true,false,false,false,true,true,false,false,false,false,false,false,false] rfl rfl (any_of HT_.out (by kernel_rfl)) (fun _ _ _ h => h) (Or.inl ⟨by rfl,?_⟩) ?_ ?_
                rotate_left
                · intro w'
                  go_simp
                  with_reducible rfl
                rotate_left
                · simp only [Act.put,q1,q2,q3,i64_w,i32_w]
                  rfl
                refine pure_ (i:=13) (N:=some 38) (v:=?_) (a':=?_) #[true,true,true,true,false,true,true,true,false,false,false,true,true,true,false,false,false,false,false,false] rfl rfl (any_of HT_.out (by kernel_rfl)) (fun _ _ _ h => h) (Or.inl ⟨by rfl,?_⟩) ?_ ?_
                rotate_left
                · intro w'
                  go_simp
                  with_reducible rfl
                rotate_left
                · simp only [Act.put,q1,q2,q3,i64_w,i32_w]
                  rfl
                refine pure_ (i:=17) (N:=some 42) (v:=?_) (a':=?_) #[true,true,true,true,false,true,true,true,false,false,false,true,true,true,false,false,false,true,false,false] rfl rfl (any_of HT_.out (by kernel_rfl)) (fun _ _ _ h => h) (Or.inl ⟨by rfl,?_⟩) ?_ ?_
                rotate_left
                · intro w'
                  go_simp
                  with_reducible rfl
                rotate_left
                · simp only [Act.put,q1,q2,q3,i64_w,i32_w]
                  rfl
                refine take_ (i:=4) (N:=some 29) (v:=?_) (a':=?_) #[true,true,true,true,true,true,true,true,false,false,false,true,true,true,false,false,false,true,false,false] rfl rfl (take_ofW HT_.out HW_.out (by kernel_rfl)) (fun _ _ _ h => h) (Or.inl ⟨by rfl,?_⟩) hHeld ?_ ?_
                rotate_left
                · rintro w' ⟨s0,s1,s2,s3,s4,s5,s6,s7,s8,s9,s10,s11,s12,s13,s14,s15⟩
                  go_simp
                  with_reducible rfl
                rotate_left
                · simp only [Act.put,q1,q2,q3,i64_w,i32_w]
                  rfl
                refine take_ (i:=8) (N:=some 33) (v:=?_) (a':=?_) #[true,true,true,true,true,true,true,true,true,false,false,true,true,true,false,false,false,true,false,false] rfl rfl (take_ofW HT_.out HW_.out (by kernel_rfl)) (fun _ _ _ h => h) (Or.inl ⟨by rfl,?_⟩) hHeld ?_ ?_
                rotate_left
                · rintro w' ⟨s0,s1,s2,s3,s4,s5,s6,s7,s8,s9,s10,s11,s12,s13,s14,s15⟩
                  go_simp
                  with_reducible rfl
                rotate_left
                · simp only [Act.put,q1,q2,q3,i64_w,i32_w]
                  rfl
                refine pure_ (i:=9) (N:=some 34) (v:=?_) (a':=?_) #[true,true,true,true,true,true,true,true,true,true,false,true,true,true,false,false,false,true,false,false] rfl rfl (any_of HT_.out (by kernel_rfl)) (fun _ _ _ h => h) (Or.inl ⟨by rfl,?_⟩) ?_ ?_
                rotate_left
                · intro w'
                  go_simp
                  with_reducible rfl
                rotate_left
                · simp only [Act.put,q1,q2,q3,i64_w,i32_w]
                  rfl
                refine take_ (i:=14) (N:=some 39) (v:=?_) (a':=?_) #[true,true,true,true,true,true,true,true,true,true,false,true,true,true,true,false,false,true,false,false] rfl rfl (take_ofW HT_.out HW_.out (by kernel_rfl)) (fun _ _ _ h => h) (Or.inl ⟨by rfl,?_⟩) hHeld ?_ ?_
                rotate_left
                · rintro w' ⟨s0,s1,s2,s3,s4,s5,s6,s7,s8,s9,s10,s11,s12,s13,s14,s15⟩
                  go_simp
                  with_reducible rfl
                rotate_left
                · simp only [Act.put,q1,q2,q3,i64_w,i32_w]
                  rfl
                refine one_ (i:=10) (N:=some 35) #[true,true,true,true,true,true,true,true,true,true,true,true,true,true,true,false,false,true,false,false] rfl rfl (one_of HT_.out (by kernel_rfl)) (by decide) (fun K hK => ?_);refine goes_ Try.func36 (by kernel_rfl) rfl #[.int .i64 (wrap64 (a1_7 * a0_3)),.int .i64 256] (by rfl) rfl rfl (by (try simp only [List.map_toArray,List.map_cons,List.map_nil]);first|done|rfl|(simp only [List.length_drop,List.length_take];rfl)) ?_
                with_reducible refine (celluloidref14_floor.calls (wrap64 (a1_7 * a0_3)) 256 t458 _ A41.out).mono ?_
                rintro e w' ⟨rfl,⟨nd,rfl⟩⟩
                refine ⟨_,rfl,?_⟩;refine hK.out _ _ ⟨(bc BK441.out 0).trans rfl,(bc BK441.out 1).trans rfl,(bc BK441.out 2).trans rfl,(bc BK441.out 3).trans rfl,(bc BK441.out 4).trans rfl,(bc BK441.out 5).trans rfl,(bc BK441.out 6).trans rfl,(bc BK441.out 7).trans rfl,(bc BK440.out 0).trans rfl,(bc BK440.out 1).trans rfl,(bc BK440.out 2).trans rfl,(bc BK440.out 3).trans rfl,(bc BK440.out 4).trans rfl,(bc BK440.out 5).trans rfl,(bc BK440.out 6).trans rfl,(bc BK440.out 7).trans rfl⟩ (fun hHeld => ?_);clear hK K;refine norm_ (a':=?_) ?_ ?_
                rotate_left
                · show Act.put _ (some 35) _ = _
                  simp only [Act.put,q1,q2,q3,i64_w,i32_w]
                  rfl
                refine pure_ (i:=15) (N:=some 40) (v:=?_) (a':=?_) #[true,true,true,true,true,true,true,true,true,true,true,true,true,true,true,true,false,true,false,false] rfl rfl (any_of HT_.out (by kernel_rfl)) (fun _ _ _ h => h) (Or.inl ⟨by rfl,?_⟩) ?_ ?_
                rotate_left
                · intro w'
                  go_simp
                  with_reducible rfl
                rotate_left
                · simp only [Act.put,q1,q2,q3,i64_w,i32_w]
                  rfl
                refine one_ (i:=16) (N:=some 41) #[true,true,true,true,true,true,true,true,true,true,true,true,true,true,true,true,true,true,false,false] rfl rfl (one_of HT_.out (by kernel_rfl)) (by decide) (fun K hK => ?_);refine goes_ Try.func40 (by kernel_rfl) rfl #[.int .i64 (wrap64 (t458 + a0_7)),.int .i64 (-255),.int .i64 255] (by rfl) rfl rfl (by (try simp only [List.map_toArray,List.map_cons,List.map_nil]);first|done|rfl|(simp only [List.length_drop,List.length_take];rfl)) ?_
                with_reducible refine (celluloidref14_end.calls (wrap64 (t458 + a0_7)) (-255) 255 t459 _ A42.out).mono ?_
                rintro e w' ⟨rfl,⟨nd,rfl⟩⟩
                refine ⟨_,rfl,?_⟩;refine hK.out _ _ ⟨(bc BK441.out 0).trans rfl,(bc BK441.out 1).trans rfl,(bc BK441.out 2).trans rfl,(bc BK441.out 3).trans rfl,(bc BK441.out 4).trans rfl,(bc BK441.out 5).trans rfl,(bc BK441.out 6).trans rfl,(bc BK441.out 7).trans rfl,(bc BK440.out 0).trans rfl,(bc BK440.out 1).trans rfl,(bc BK440.out 2).trans rfl,(bc BK440.out 3).trans rfl,(bc BK440.out 4).trans rfl,(bc BK440.out 5).trans rfl,(bc BK440.out 6).trans rfl,(bc BK440.out 7).trans rfl⟩ (fun hHeld => ?_);clear hK K;refine norm_ (a':=?_) ?_ ?_
                rotate_left
                · show Act.put _ (some 41) _ = _
                  simp only [Act.put,q1,q2,q3,i64_w,i32_w]
                  rfl
                refine pure_ (i:=18) (N:=some 43) (v:=?_) (a':=?_) #[true,true,true,true,true,true,true,true,true,true,true,true,true,true,true,true,true,true,true,false] rfl rfl (any_of HT_.out (by kernel_rfl)) (fun _ _ _ h => h) (Or.inl ⟨by rfl,?_⟩) ?_ ?_
                rotate_left
                · intro w'
                  go_simp
                  with_reducible rfl
                rotate_left
                · simp only [Act.put,q1,q2,q3,i64_w,i32_w]
                  rfl
                refine one_ (i:=19) (N:=none) #[true,true,true,true,true,true,true,true,true,true,true,true,true,true,true,true,true,true,true,true] rfl rfl (one_of HT_.out (by kernel_rfl)) (by decide) (fun K hK => ?_);have hs47 : w46.cell? ⟨gb443,7,none⟩ = some (.int .i64 x444007_1):=(bc BK443.out 7).trans rfl;have hfs47:=bz BK443.out 7;have hns47_0:=NB440_443.out;have hns47_1:=NB441_443.out;have hns47_2:=NB442_443.out;have hms47_0:=NB443_440.out;have hms47_1:=NB443_441.out;have hms47_2:=NB443_442.out;refine skip_ (w1:=?_) (by rfl) rfl ?_ ?_
                rotate_left
                · go_simp
                  rfl
                refine hK.out _ _ ⟨((cell_far (p:=⟨gb443,_,none⟩) NB441_443.out _).trans (hHeld.1)),((cell_far (p:=⟨gb443,_,none⟩) NB441_443.out _).trans (hHeld.2.1)),((cell_far (p:=⟨gb443,_,none⟩) NB441_443.out _).trans (hHeld.2.2.1)),((cell_far (p:=⟨gb443,_,none⟩) NB441_443.out _).trans (hHeld.2.2.2.1)),((cell_far (p:=⟨gb443,_,none⟩) NB441_443.out _).trans (hHeld.2.2.2.2.1)),((cell_far (p:=⟨gb443,_,none⟩) NB441_443.out _).trans (hHeld.2.2.2.2.2.1)),((cell_far (p:=⟨gb443,_,none⟩) NB441_443.out _).trans (hHeld.2.2.2.2.2.2.1)),((cell_far (p:=⟨gb443,_,none⟩) NB441_443.out _).trans (hHeld.2.2.2.2.2.2.2.1)),((cell_far (p:=⟨gb443,_,none⟩) NB440_443.out _).trans (hHeld.2.2.2.2.2.2.2.2.1)),((cell_far (p:=⟨gb443,_,none⟩) NB440_443.out _).trans (hHeld.2.2.2.2.2.2.2.2.2.1)),((cell_far (p:=⟨gb443,_,none⟩) NB440_443.out _).trans (hHeld.2.2.2.2.2.2.2.2.2.2.1)),((cell_far (p:=⟨gb443,_,none⟩) NB440_443.out _).trans (hHeld.2.2.2.2.2.2.2.2.2.2.2.1)),((cell_far (p:=⟨gb443,_,none⟩) NB440_443.out _).trans (hHeld.2.2.2.2.2.2.2.2.2.2.2.2.1)),((cell_far (p:=⟨gb443,_,none⟩) NB440_443.out _).trans (hHeld.2.2.2.2.2.2.2.2.2.2.2.2.2.1)),((cell_far (p:=⟨gb443,_,none⟩) NB440_443.out _).trans (hHeld.2.2.2.2.2.2.2.2.2.2.2.2.2.2.1)),((cell_far (p:=⟨gb443,_,none⟩) NB440_443.out _).trans (hHeld.2.2.2.2.2.2.2.2.2.2.2.2.2.2.2))⟩ (fun hHeld => ?_);clear hK K;refine done_ (done_of HT_.out (by kernel_rfl)) ?_
                try go_wp2
                go_roundg k1
                case measure => have:=HK1.out;omega
                case rel => exact ⟨(3 + 1),(x444000_1),(x444001_1),(x444002_1),(t457),(x444004_1),(x444005_1),(x444006_1),(t459),(by first|rfl|(simp;done)|(simp [*];done)),H',⟨by have:=HK1.out;omega⟩,⟨by (with_reducible repeat (first|refine bn ?_ _|refine bd ?_|refine ba ?_ _|refine bf ?_ NB440_443.out _));exact BK440.out⟩,⟨by (with_reducible repeat (first|refine bn ?_ _|refine bd ?_|refine ba ?_ _|refine bf ?_ NB441_443.out _));exact BK441.out⟩,⟨by (with_reducible repeat (first|refine bn ?_ _|refine bd ?_|refine ba ?_ _|refine bf ?_ NB442_443.out _));exact BK442.out⟩,⟨by (with_reducible repeat (first|refine bn ?_ _|refine bd ?_|refine ba ?_ _));refine bp (cs:=#[.int .i64 x444000_1,.int .i64 x444001_1,.int .i64 x444002_1,.int .i64 t457,.int .i64 x444004_1,.int .i64 x444005_1,.int .i64 x444006_1,.int .i64 x444007_1]) ?_ 7 _ rfl;(with_reducible repeat (first|refine bn ?_ _|refine bd ?_|refine ba ?_ _));exact BK443.out⟩,⟨by repeat (first|(with_reducible first|exact HB.out|apply sa|apply sn|apply sd|refine sy ?_ (by assumption))|exact HB.out)⟩⟩
              · rw [if_neg c38] at H
                exact absurd H (by simp)
      · rw [if_neg c7] at H
        have c7b0 : decide (x6_1 < 4) = false:=decide_eq_false c7;clear c7;simp only [Option.some.injEq,Prod.mk.injEq] at H;obtain ⟨rfl,rfl,rfl,rfl,rfl,rfl,rfl,rfl⟩:=H;have hnb48:=NB443_440.out;have hnc48:=NB440_443.out;have hnb49:=NB443_441.out;have hnc49:=NB441_443.out;have hnb50:=NB443_442.out;have hnc50:=NB442_443.out;have hcz51_0 : wr.cell? ⟨gb443,0,none⟩ = some (.int .i64 x444000_1):=(bc BK443.out 0).trans rfl;have hcz51_1 : wr.cell? ⟨gb443,1,none⟩ = some (.int .i64 x444001_1):=(bc BK443.out 1).trans rfl;have hcz51_2 : wr.cell? ⟨gb443,2,none⟩ = some (.int .i64 x444002_1):=(bc BK443.out 2).trans rfl;have hcz51_3 : wr.cell? ⟨gb443,3,none⟩ = some (.int .i64 x444003_1):=(bc BK443.out 3).trans rfl;have hcz51_4 : wr.cell? ⟨gb443,4,none⟩ = some (.int .i64 x444004_1):=(bc BK443.out 4).trans rfl;have hcz51_5 : wr.cell? ⟨gb443,5,none⟩ = some (.int .i64 x444005_1):=(bc BK443.out 5).trans rfl;have hcz51_6 : wr.cell? ⟨gb443,6,none⟩ = some (.int .i64 x444006_1):=(bc BK443.out 6).trans rfl;have hcz51_7 : wr.cell? ⟨gb443,7,none⟩ = some (.int .i64 x444007_1):=(bc BK443.out 7).trans rfl;have hfz51_0:=bz BK443.out 0;have hfz51_1:=bz BK443.out 1;have hfz51_2:=bz BK443.out 2;have hfz51_3:=bz BK443.out 3;have hfz51_4:=bz BK443.out 4;have hfz51_5:=bz BK443.out 5;have hfz51_6:=bz BK443.out 6;have hfz51_7:=bz BK443.out 7;have hnb52:=NB442_440.out;have hnc52:=NB440_442.out;have hnb53:=NB442_441.out;have hnc53:=NB441_442.out;have hcz54_0 : wr.cell? ⟨gb442,0,none⟩ = some (.int .i64 0):=(bc BK442.out 0).trans rfl;have hcz54_1 : wr.cell? ⟨gb442,1,none⟩ = some (.int .i64 0):=(bc BK442.out 1).trans rfl;have hcz54_2 : wr.cell? ⟨gb442,2,none⟩ = some (.int .i64 0):=(bc BK442.out 2).trans rfl;have hcz54_3 : wr.cell? ⟨gb442,3,none⟩ = some (.int .i64 0):=(bc BK442.out 3).trans rfl;have hcz54_4 : wr.cell? ⟨gb442,4,none⟩ = some (.int .i64 0):=(bc BK442.out 4).trans rfl;have hcz54_5 : wr.cell? ⟨gb442,5,none⟩ = some (.int .i64 0):=(bc BK442.out 5).trans rfl;have hcz54_6 : wr.cell? ⟨gb442,6,none⟩ = some (.int .i64 0):=(bc BK442.out 6).trans rfl;have hcz54_7 : wr.cell? ⟨gb442,7,none⟩ = some (.int .i64 0):=(bc BK442.out 7).trans rfl;have hfz54_0:=bz BK442.out 0;have hfz54_1:=bz BK442.out 1;have hfz54_2:=bz BK442.out 2;have hfz54_3:=bz BK442.out 3;have hfz54_4:=bz BK442.out 4;have hfz54_5:=bz BK442.out 5;have hfz54_6:=bz BK442.out 6;have hfz54_7:=bz BK442.out 7
        go_wp2
        refine bodyPost_ret (results_cell_row rfl _ _ gb442 41 #[.int .i64 x444000_1,.int .i64 x444001_1,.int .i64 x444002_1,.int .i64 x444003_1,.int .i64 x444004_1,.int .i64 x444005_1,.int .i64 x444006_1,.int .i64 x444007_1] (0,0) _ rfl (by (with_reducible repeat (first|refine bn ?_ _|refine bd ?_|refine ba ?_ _));refine bp (cs:=#[.int .i64 x444000_1,.int .i64 x444001_1,.int .i64 x444002_1,.int .i64 x444003_1,.int .i64 x444004_1,.int .i64 x444005_1,.int .i64 x444006_1,.int .i64 0]) ?_ 7 _ rfl;(with_reducible repeat (first|refine bn ?_ _|refine bd ?_|refine ba ?_ _));refine bp (cs:=#[.int .i64 x444000_1,.int .i64 x444001_1,.int .i64 x444002_1,.int .i64 x444003_1,.int .i64 x444004_1,.int .i64 x444005_1,.int .i64 0,.int .i64 0]) ?_ 6 _ rfl;(with_reducible repeat (first|refine bn ?_ _|refine bd ?_|refine ba ?_ _));refine bp (cs:=#[.int .i64 x444000_1,.int .i64 x444001_1,.int .i64 x444002_1,.int .i64 x444003_1,.int .i64 x444004_1,.int .i64 0,.int .i64 0,.int .i64 0]) ?_ 5 _ rfl;(with_reducible repeat (first|refine bn ?_ _|refine bd ?_|refine ba ?_ _));refine bp (cs:=#[.int .i64 x444000_1,.int .i64 x444001_1,.int .i64 x444002_1,.int .i64 x444003_1,.int .i64 0,.int .i64 0,.int .i64 0,.int .i64 0]) ?_ 4 _ rfl;(with_reducible repeat (first|refine bn ?_ _|refine bd ?_|refine ba ?_ _));refine bp (cs:=#[.int .i64 x444000_1,.int .i64 x444001_1,.int .i64 x444002_1,.int .i64 0,.int .i64 0,.int .i64 0,.int .i64 0,.int .i64 0]) ?_ 3 _ rfl;(with_reducible repeat (first|refine bn ?_ _|refine bd ?_|refine ba ?_ _));refine bp (cs:=#[.int .i64 x444000_1,.int .i64 x444001_1,.int .i64 0,.int .i64 0,.int .i64 0,.int .i64 0,.int .i64 0,.int .i64 0]) ?_ 2 _ rfl;(with_reducible repeat (first|refine bn ?_ _|refine bd ?_|refine ba ?_ _));refine bp (cs:=#[.int .i64 x444000_1,.int .i64 0,.int .i64 0,.int .i64 0,.int .i64 0,.int .i64 0,.int .i64 0,.int .i64 0]) ?_ 1 _ rfl;(with_reducible repeat (first|refine bn ?_ _|refine bd ?_|refine ba ?_ _));refine bp (cs:=#[.int .i64 0,.int .i64 0,.int .i64 0,.int .i64 0,.int .i64 0,.int .i64 0,.int .i64 0,.int .i64 0]) ?_ 0 _ rfl;(with_reducible repeat (first|refine bn ?_ _|refine bd ?_|refine ba ?_ _));exact BK442.out) Try.underlying41 rfl (by kernel_rfl)) rfl ?_
        exact ⟨by first|rfl|(simp [errW_none,errW_some] <;> rfl)|(simp [*,errW_none,errW_some] <;> rfl),by repeat (first|(with_reducible first|exact HB.out|apply sa|apply sn|apply sd|refine sy ?_ (by assumption))|exact HB.out)⟩

end Go.Proofs.Ytaognlikgbcejaa.P
